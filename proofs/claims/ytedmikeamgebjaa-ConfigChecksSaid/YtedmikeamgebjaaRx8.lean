-- Written by a program out of the translation; not trusted: Lean checks it.
import Derived.Test.YtedmikeamgebjaaK
import Derived.Test.YtedmikeamgebjaaK2
import Derived.Test.YtedmikeamgebjaaRx0
import Derived.Test.YtedmikeamgebjaaRx7
namespace Go.Proofs.Ytedmikeamgebjaa.R
open Go.Proofs.YtedmikeamgebjaaW.PrintK Go.RowKit Go.Proofs.YtedmikeamgebjaaW.PrintWords Go.Proofs.YtedmikeamgebjaaW.PrintLast Go.Proofs.YtedmikeamgebjaaW.PrintMore
attribute [local go_sem] max2_int min2_int max_two min_two max_three min_three max_four min_four   -- for this text's walks alone
set_option linter.unusedVariables false
set_option linter.unusedSimpArgs false

/-! ### fuglemanref19_Lay: function 41 -/
mutual
def fuglemanref19_Lay.j0 : Nat → Int → List (S56) → List (S63) → Bool → Bool → Option (Int × Int)
 | 0, _, _, _, _, _ => none
 | k + 1, x0, x1, x2, x3, x26 => if x26 = true then (some (2, (-1))) else (if 64 ≤ 281474976710656 then (fuglemanref19_Lay.l0 k x0 x1 x2 x3 (List.replicate 64 false) 0) else (none))
def fuglemanref19_Lay.l0 : Nat → Int → List (S56) → List (S63) → Bool → List Bool → Int → Option (Int × Int)
 | 0, _, _, _, _, _, _ => none
 | k + 1, x0, x1, x2, x3, x10, x11 => if x11 < 64 then (if x3 = true then (if 0 ≤ x11 then (if x11 < (x10.length : Int) then (fuglemanref19_Lay.l0 k x0 x1 x2 x3 (x10.set (x11 : Int).toNat (decide (x11 < x0))) (wrap64 (x11 + 1))) else (none)) else (none)) else (if 0 ≤ x11 then (if x11 < (x10.length : Int) then (fuglemanref19_Lay.l0 k x0 x1 x2 x3 (x10.set (x11 : Int).toNat false) (wrap64 (x11 + 1))) else (none)) else (none))) else (fuglemanref19_Lay.l1 k x1 x2 x3 x10 0)
def fuglemanref19_Lay.l1 : Nat → List (S56) → List (S63) → Bool → List Bool → Int → Option (Int × Int)
 | 0, _, _, _, _, _ => none
 | k + 1, x1, x2, x3, x10, x12 => if x12 < (x1.length : Int) then (if 0 ≤ x12 then ((fuglemanref16_Find.f k x2 ((rd_T56 x1 x12).f0)).bind fun bt192 => (if bt192.2.2.2.2 = true then (fuglemanref19_Lay.l2 k x1 x2 x3 x10 x12 0 bt192.1 bt192.2.1 bt192.2.2.1 bt192.2.2.2.1) else (some (5, x12)))) else (none)) else (some (0, 0))
def fuglemanref19_Lay.l2 : Nat → List (S56) → List (S63) → Bool → List Bool → Int → Int → Int → Int → Int → Bool → Option (Int × Int)
 | 0, _, _, _, _, _, _, _, _, _, _ => none
 | k + 1, x1, x2, x3, x10, x12, x15, x198000, x198001, x198002, x198003 => if x15 < x12 then (if 0 ≤ x15 then (if x15 < (x1.length : Int) then (if 0 ≤ x12 then (if x12 < (x1.length : Int) then (if ((rd_T56 x1 x15).f0) = ((rd_T56 x1 x12).f0) then (some (14, x12)) else (fuglemanref19_Lay.l2 k x1 x2 x3 x10 x12 (wrap64 (x15 + 1)) x198000 x198001 x198002 x198003)) else (none)) else (none)) else (none)) else (none)) else (if 0 ≤ x12 then (if x12 < (x1.length : Int) then (if ((rd_T56 x1 x12).f1) < 0 then (fuglemanref19_Lay.j4 k x1 x2 x3 x10 x12 ((rd_T56 x1 x12).f1) true x198000 x198001 x198002 x198003) else (if ((rd_T56 x1 x12).f1) > 64 then (fuglemanref19_Lay.j4 k x1 x2 x3 x10 x12 ((rd_T56 x1 x12).f1) true x198000 x198001 x198002 x198003) else (if x198002 < 0 then (fuglemanref19_Lay.j4 k x1 x2 x3 x10 x12 ((rd_T56 x1 x12).f1) true x198000 x198001 x198002 x198003) else (fuglemanref19_Lay.j4 k x1 x2 x3 x10 x12 ((rd_T56 x1 x12).f1) (decide (x198002 > (wrap64 (64 - ((rd_T56 x1 x12).f1))))) x198000 x198001 x198002 x198003)))) else (none)) else (none))
def fuglemanref19_Lay.j4 : Nat → List (S56) → List (S63) → Bool → List Bool → Int → Int → Bool → Int → Int → Int → Bool → Option (Int × Int)
 | 0, _, _, _, _, _, _, _, _, _, _, _ => none
 | k + 1, x1, x2, x3, x10, x12, x16, x99, x198000, x198001, x198002, x198003 => if x99 = true then (some (2, x12)) else (fuglemanref19_Lay.l3 k x1 x2 x3 x10 x12 x16 x16 x198000 x198001 x198002 x198003)
def fuglemanref19_Lay.l3 : Nat → List (S56) → List (S63) → Bool → List Bool → Int → Int → Int → Int → Int → Int → Bool → Option (Int × Int)
 | 0, _, _, _, _, _, _, _, _, _, _, _ => none
 | k + 1, x1, x2, x3, x10, x12, x16, x17, x198000, x198001, x198002, x198003 => if x17 < (wrap64 (x16 + x198002)) then (if x3 = true then (if 0 ≤ x17 then (if x17 < (x10.length : Int) then (if rdOf false x10 x17 = true then (some (15, x12)) else (fuglemanref19_Lay.l3 k x1 x2 x3 (x10.set (x17 : Int).toNat true) x12 x16 (wrap64 (x17 + 1)) x198000 x198001 x198002 x198003)) else (none)) else (none)) else (if 0 ≤ x17 then (if x17 < (x10.length : Int) then (fuglemanref19_Lay.l3 k x1 x2 x3 (x10.set (x17 : Int).toNat true) x12 x16 (wrap64 (x17 + 1)) x198000 x198001 x198002 x198003) else (none)) else (none))) else (fuglemanref19_Lay.l1 k x1 x2 x3 x10 (wrap64 (x12 + 1)))
end
def fuglemanref19_Lay.f (k : Nat) (a0 : Int) (l1 : List (S56)) (l2 : List (S63)) (a3 : Bool) : Option (Int × Int) := if a3 = true then (if a0 < 0 then (fuglemanref19_Lay.j0 k a0 l1 l2 a3 true) else (fuglemanref19_Lay.j0 k a0 l1 l2 a3 (decide (a0 > 64)))) else (fuglemanref19_Lay.j0 k a0 l1 l2 a3 false)
theorem fuglemanref19_Lay.mono_l : ∀ k, (∀ y0 y1 y2 y3 y4, LeO (fuglemanref19_Lay.j0 k y0 y1 y2 y3 y4) (fuglemanref19_Lay.j0 (k + 1) y0 y1 y2 y3 y4)) ∧ (∀ y0 y1 y2 y3 y4 y5, LeO (fuglemanref19_Lay.l0 k y0 y1 y2 y3 y4 y5) (fuglemanref19_Lay.l0 (k + 1) y0 y1 y2 y3 y4 y5)) ∧ (∀ y0 y1 y2 y3 y4, LeO (fuglemanref19_Lay.l1 k y0 y1 y2 y3 y4) (fuglemanref19_Lay.l1 (k + 1) y0 y1 y2 y3 y4)) ∧ (∀ y0 y1 y2 y3 y4 y5 y6 y7 y8 y9, LeO (fuglemanref19_Lay.l2 k y0 y1 y2 y3 y4 y5 y6 y7 y8 y9) (fuglemanref19_Lay.l2 (k + 1) y0 y1 y2 y3 y4 y5 y6 y7 y8 y9)) ∧ (∀ y0 y1 y2 y3 y4 y5 y6 y7 y8 y9 y10, LeO (fuglemanref19_Lay.j4 k y0 y1 y2 y3 y4 y5 y6 y7 y8 y9 y10) (fuglemanref19_Lay.j4 (k + 1) y0 y1 y2 y3 y4 y5 y6 y7 y8 y9 y10)) ∧ (∀ y0 y1 y2 y3 y4 y5 y6 y7 y8 y9 y10, LeO (fuglemanref19_Lay.l3 k y0 y1 y2 y3 y4 y5 y6 y7 y8 y9 y10) (fuglemanref19_Lay.l3 (k + 1) y0 y1 y2 y3 y4 y5 y6 y7 y8 y9 y10))
 | 0 => ⟨fun _ _ _ _ _ r h => by simp [fuglemanref19_Lay.j0] at h, fun _ _ _ _ _ _ r h => by simp [fuglemanref19_Lay.l0] at h, fun _ _ _ _ _ r h => by simp [fuglemanref19_Lay.l1] at h, fun _ _ _ _ _ _ _ _ _ _ r h => by simp [fuglemanref19_Lay.l2] at h, fun _ _ _ _ _ _ _ _ _ _ _ r h => by simp [fuglemanref19_Lay.j4] at h, fun _ _ _ _ _ _ _ _ _ _ _ r h => by simp [fuglemanref19_Lay.l3] at h⟩
 | k + 1 => by
  obtain ⟨ih0, ih1, ih2, ih3, ih4, ih5⟩ := fuglemanref19_Lay.mono_l k
  refine ⟨?_, ?_, ?_, ?_, ?_, ?_⟩
  ·intro y0 y1 y2 y3 y4
   unfold fuglemanref19_Lay.j0
   repeat' first
   | (with_reducible exact ih0 _ _ _ _ _)
   | (with_reducible exact ih1 _ _ _ _ _ _)
   | (with_reducible exact ih2 _ _ _ _ _)
   | (with_reducible exact ih3 _ _ _ _ _ _ _ _ _ _)
   | (with_reducible exact ih4 _ _ _ _ _ _ _ _ _ _ _)
   | (with_reducible exact ih5 _ _ _ _ _ _ _ _ _ _ _)
   | (with_reducible exact fuglemanref16_Find.mono _ _ _)
   | (with_reducible exact LeO.refl _)
   | (with_reducible exact LeO.none _)
   | (with_reducible refine LeO.ite ?_ ?_)
   | (with_reducible refine LeO.bind ?_ (fun _ => ?_))
   | exact ih0 _ _ _ _ _
   | exact ih1 _ _ _ _ _ _
   | exact ih2 _ _ _ _ _
   | exact ih3 _ _ _ _ _ _ _ _ _ _
   | exact ih4 _ _ _ _ _ _ _ _ _ _ _
   | exact ih5 _ _ _ _ _ _ _ _ _ _ _
   | exact fuglemanref16_Find.mono _ _ _
   | exact LeO.none _
   | refine LeO.ite ?_ ?_
   | refine LeO.bind ?_ (fun _ => ?_)
  ·intro y0 y1 y2 y3 y4 y5
   unfold fuglemanref19_Lay.l0
   repeat' first
   | (with_reducible exact ih0 _ _ _ _ _)
   | (with_reducible exact ih1 _ _ _ _ _ _)
   | (with_reducible exact ih2 _ _ _ _ _)
   | (with_reducible exact ih3 _ _ _ _ _ _ _ _ _ _)
   | (with_reducible exact ih4 _ _ _ _ _ _ _ _ _ _ _)
   | (with_reducible exact ih5 _ _ _ _ _ _ _ _ _ _ _)
   | (with_reducible exact fuglemanref16_Find.mono _ _ _)
   | (with_reducible exact LeO.refl _)
   | (with_reducible exact LeO.none _)
   | (with_reducible refine LeO.ite ?_ ?_)
   | (with_reducible refine LeO.bind ?_ (fun _ => ?_))
   | exact ih0 _ _ _ _ _
   | exact ih1 _ _ _ _ _ _
   | exact ih2 _ _ _ _ _
   | exact ih3 _ _ _ _ _ _ _ _ _ _
   | exact ih4 _ _ _ _ _ _ _ _ _ _ _
   | exact ih5 _ _ _ _ _ _ _ _ _ _ _
   | exact fuglemanref16_Find.mono _ _ _
   | exact LeO.none _
   | refine LeO.ite ?_ ?_
   | refine LeO.bind ?_ (fun _ => ?_)
  ·intro y0 y1 y2 y3 y4
   unfold fuglemanref19_Lay.l1
   repeat' first
   | (with_reducible exact ih0 _ _ _ _ _)
   | (with_reducible exact ih1 _ _ _ _ _ _)
   | (with_reducible exact ih2 _ _ _ _ _)
   | (with_reducible exact ih3 _ _ _ _ _ _ _ _ _ _)
   | (with_reducible exact ih4 _ _ _ _ _ _ _ _ _ _ _)
   | (with_reducible exact ih5 _ _ _ _ _ _ _ _ _ _ _)
   | (with_reducible exact fuglemanref16_Find.mono _ _ _)
   | (with_reducible exact LeO.refl _)
   | (with_reducible exact LeO.none _)
   | (with_reducible refine LeO.ite ?_ ?_)
   | (with_reducible refine LeO.bind ?_ (fun _ => ?_))
   | exact ih0 _ _ _ _ _
   | exact ih1 _ _ _ _ _ _
   | exact ih2 _ _ _ _ _
   | exact ih3 _ _ _ _ _ _ _ _ _ _
   | exact ih4 _ _ _ _ _ _ _ _ _ _ _
   | exact ih5 _ _ _ _ _ _ _ _ _ _ _
   | exact fuglemanref16_Find.mono _ _ _
   | exact LeO.none _
   | refine LeO.ite ?_ ?_
   | refine LeO.bind ?_ (fun _ => ?_)
  ·intro y0 y1 y2 y3 y4 y5 y6 y7 y8 y9
   unfold fuglemanref19_Lay.l2
   repeat' first
   | (with_reducible exact ih0 _ _ _ _ _)
   | (with_reducible exact ih1 _ _ _ _ _ _)
   | (with_reducible exact ih2 _ _ _ _ _)
   | (with_reducible exact ih3 _ _ _ _ _ _ _ _ _ _)
   | (with_reducible exact ih4 _ _ _ _ _ _ _ _ _ _ _)
   | (with_reducible exact ih5 _ _ _ _ _ _ _ _ _ _ _)
   | (with_reducible exact fuglemanref16_Find.mono _ _ _)
   | (with_reducible exact LeO.refl _)
   | (with_reducible exact LeO.none _)
   | (with_reducible refine LeO.ite ?_ ?_)
   | (with_reducible refine LeO.bind ?_ (fun _ => ?_))
   | exact ih0 _ _ _ _ _
   | exact ih1 _ _ _ _ _ _
   | exact ih2 _ _ _ _ _
   | exact ih3 _ _ _ _ _ _ _ _ _ _
   | exact ih4 _ _ _ _ _ _ _ _ _ _ _
   | exact ih5 _ _ _ _ _ _ _ _ _ _ _
   | exact fuglemanref16_Find.mono _ _ _
   | exact LeO.none _
   | refine LeO.ite ?_ ?_
   | refine LeO.bind ?_ (fun _ => ?_)
  ·intro y0 y1 y2 y3 y4 y5 y6 y7 y8 y9 y10
   unfold fuglemanref19_Lay.j4
   repeat' first
   | (with_reducible exact ih0 _ _ _ _ _)
   | (with_reducible exact ih1 _ _ _ _ _ _)
   | (with_reducible exact ih2 _ _ _ _ _)
   | (with_reducible exact ih3 _ _ _ _ _ _ _ _ _ _)
   | (with_reducible exact ih4 _ _ _ _ _ _ _ _ _ _ _)
   | (with_reducible exact ih5 _ _ _ _ _ _ _ _ _ _ _)
   | (with_reducible exact fuglemanref16_Find.mono _ _ _)
   | (with_reducible exact LeO.refl _)
   | (with_reducible exact LeO.none _)
   | (with_reducible refine LeO.ite ?_ ?_)
   | (with_reducible refine LeO.bind ?_ (fun _ => ?_))
   | exact ih0 _ _ _ _ _
   | exact ih1 _ _ _ _ _ _
   | exact ih2 _ _ _ _ _
   | exact ih3 _ _ _ _ _ _ _ _ _ _
   | exact ih4 _ _ _ _ _ _ _ _ _ _ _
   | exact ih5 _ _ _ _ _ _ _ _ _ _ _
   | exact fuglemanref16_Find.mono _ _ _
   | exact LeO.none _
   | refine LeO.ite ?_ ?_
   | refine LeO.bind ?_ (fun _ => ?_)
  ·intro y0 y1 y2 y3 y4 y5 y6 y7 y8 y9 y10
   unfold fuglemanref19_Lay.l3
   repeat' first
   | (with_reducible exact ih0 _ _ _ _ _)
   | (with_reducible exact ih1 _ _ _ _ _ _)
   | (with_reducible exact ih2 _ _ _ _ _)
   | (with_reducible exact ih3 _ _ _ _ _ _ _ _ _ _)
   | (with_reducible exact ih4 _ _ _ _ _ _ _ _ _ _ _)
   | (with_reducible exact ih5 _ _ _ _ _ _ _ _ _ _ _)
   | (with_reducible exact fuglemanref16_Find.mono _ _ _)
   | (with_reducible exact LeO.refl _)
   | (with_reducible exact LeO.none _)
   | (with_reducible refine LeO.ite ?_ ?_)
   | (with_reducible refine LeO.bind ?_ (fun _ => ?_))
   | exact ih0 _ _ _ _ _
   | exact ih1 _ _ _ _ _ _
   | exact ih2 _ _ _ _ _
   | exact ih3 _ _ _ _ _ _ _ _ _ _
   | exact ih4 _ _ _ _ _ _ _ _ _ _ _
   | exact ih5 _ _ _ _ _ _ _ _ _ _ _
   | exact fuglemanref16_Find.mono _ _ _
   | exact LeO.none _
   | refine LeO.ite ?_ ?_
   | refine LeO.bind ?_ (fun _ => ?_)
theorem fuglemanref19_Lay.mono : ∀ a0 a1 a2 a3 k, LeO (fuglemanref19_Lay.f k a0 a1 a2 a3) (fuglemanref19_Lay.f (k + 1) a0 a1 a2 a3) := by
 intro a0 a1 a2 a3 k
 obtain ⟨ih0, ih1, ih2, ih3, ih4, ih5⟩ := fuglemanref19_Lay.mono_l k
 unfold fuglemanref19_Lay.f
 repeat' first
   | (with_reducible exact ih0 _ _ _ _ _)
   | (with_reducible exact ih1 _ _ _ _ _ _)
   | (with_reducible exact ih2 _ _ _ _ _)
   | (with_reducible exact ih3 _ _ _ _ _ _ _ _ _ _)
   | (with_reducible exact ih4 _ _ _ _ _ _ _ _ _ _ _)
   | (with_reducible exact ih5 _ _ _ _ _ _ _ _ _ _ _)
   | (with_reducible exact fuglemanref16_Find.mono _ _ _)
   | (with_reducible exact LeO.refl _)
   | (with_reducible exact LeO.none _)
   | (with_reducible refine LeO.ite ?_ ?_)
   | (with_reducible refine LeO.bind ?_ (fun _ => ?_))
   | exact ih0 _ _ _ _ _
   | exact ih1 _ _ _ _ _ _
   | exact ih2 _ _ _ _ _
   | exact ih3 _ _ _ _ _ _ _ _ _ _
   | exact ih4 _ _ _ _ _ _ _ _ _ _ _
   | exact ih5 _ _ _ _ _ _ _ _ _ _ _
   | exact fuglemanref16_Find.mono _ _ _
   | exact LeO.none _
   | refine LeO.ite ?_ ?_
   | refine LeO.bind ?_ (fun _ => ?_)
set_option maxHeartbeats 8000000 in
set_option maxRecDepth 100000 in
theorem fuglemanref19_Lay.calls (k : Nat) (a0 : Int) (A1 : Option Addr) (c1 : Nat) (l1 : List (S56)) (A2 : Option Addr) (c2 : Nat) (l2 : List (S63)) (a3 : Bool) (r1 r2 : Int) (w : World) (hr1 : Kd.C k56 w A1 l1.length l1) (hc1 : l1.length ≤ c1) (hr2 : Kd.C k63 w A2 l2.length l2) (hc2 : l2.length ≤ c2) (h : fuglemanref19_Lay.f k a0 l1 l2 a3 = some (r1, r2)) :
  Calls Try.prog 41 #[.int .i64 a0, .slice A1 l1.length c1, .slice A2 l2.length c2, .bool a3] w fun e w' => e = .returned (.tuple #[.int .i64 r1, .int .i64 r2]) ∧ Below w.heap.size w w' := by
 have hu63 := Try.underlying63
 have HR1 := Aside0.mk hr1
 have HC1 := Aside0.mk hc1
 clear hr1 hc1
 have HR2 := Aside0.mk hr2
 have HC2 := Aside0.mk hc2
 clear hr2 hc2
 have HB := Aside0.mk (Below.refl w.heap.size w)
 have H : (if a3 = true then (if a0 < 0 then (fuglemanref19_Lay.j0 k a0 l1 l2 a3 true) else (fuglemanref19_Lay.j0 k a0 l1 l2 a3 (decide (a0 > 64)))) else (fuglemanref19_Lay.j0 k a0 l1 l2 a3 false)) = some (r1, r2) := h
 clear h
 have HC5 := Aside0.mk H
 clear H
 go_enter Try.func41, Try.ntmps41
 go_upto_region 1 with (fail)
 repeat (go_quiet (fail); go_upto_region 1 with (fail))
 go_cut [26] (fun v26 wc => ∃ (kq : Nat) (x26_4 : Bool), v26 = .bool x26_4 ∧ Aside0 (fuglemanref19_Lay.j0 kq a0 l1 l2 a3 x26_4 = some (r1, r2)) ∧ Aside0 (kq ≤ k) ∧ Aside0 (Below w.heap.size w wc))
 case first =>
  have H := HC5.out
  clear HC5
  by_cases c6 : a3 = true
  case neg =>
   replace c6 := Bool.eq_false_iff.mpr c6
   subst c6
   rw [if_neg (show ¬ (false = true) by decide)] at H
   have H' := Aside0.mk H
   clear H
   go_wp2
   repeat (go_quiet (fail); try go_wp2)
   go_meet
   case rel => exact ⟨_, (false), (by first | rfl | (simp; done) | (simp [*]; done)), H', ⟨by first | omega | exact Nat.le_refl _⟩, (sB0 HB)⟩
  subst c6
  rw [if_pos rfl] at H
  by_cases c7 : a0 < 0
  ·rw [if_pos c7] at H
   have c7b0 : decide (a0 < 0) = true := decide_eq_true c7
   clear c7
   (first | rw [c7b0] | (simp only [i64_w, i32_w]; rw [c7b0]) | skip)
   have H' := Aside0.mk H
   clear H
   go_wp2
   repeat (go_quiet (fail); try go_wp2)
   go_meet
   case rel => exact ⟨_, (true), (by first | rfl | (simp; done) | (simp [*]; done)), H', ⟨by first | omega | exact Nat.le_refl _⟩, (sB0 HB)⟩
  rw [if_neg c7] at H
  have c7b0 : decide (a0 < 0) = false := decide_eq_false c7
  clear c7
  (first | rw [c7b0] | (simp only [i64_w, i32_w]; rw [c7b0]) | skip)
  have H' := Aside0.mk H
  clear H
  go_wp2
  repeat (go_quiet (fail); try go_wp2)
  go_meet
  case rel => exact ⟨_, (decide (a0 > 64)), (by first | rfl | (simp; done) | (simp [*]; done)), H', ⟨by first | omega | exact Nat.le_refl _⟩, (sB0 HB)⟩
 clear HC5
 (try clear c1); (try clear c2); (try clear c6); (try clear c7); (try clear c7b0)
 obtain ⟨kq, x26_4, rfl, HA, HJ4, HB⟩ := hcut
 cases kq with
 | zero => exact absurd HA.out (by simp [fuglemanref19_Lay.j0])
 | succ kj4 =>
  have H := HA.out
  clear HA
  simp only [fuglemanref19_Lay.j0] at H
  by_cases c8 : x26_4 = true
  ·subst c8
   rw [if_pos rfl] at H
   simp only [Option.some.injEq, Prod.mk.injEq] at H
   obtain ⟨rfl, rfl⟩ := H
   go_wp2
   repeat (go_quiet (fail); try go_wp2)
   go_ret2
   exact sEnd HB
  ·replace c8 := Bool.eq_false_iff.mpr c8
   subst c8
   rw [if_neg (show ¬ (false = true) by decide)] at H
   by_cases c9 : 64 ≤ 281474976710656
   ·rw [if_pos c9] at H
    have c9b0 := eq_true c9
    have c9b1 : decide (64 ≤ 281474976710656) = true := decide_eq_true c9
    clear c9
    obtain ⟨y186, hy186⟩ : ∃ y_ : List Bool, y_ = (List.replicate 64 false) := ⟨_, rfl⟩
    replace H : (fuglemanref19_Lay.l0 kj4 a0 l1 l2 a3 y186 0) = some (r1, r2) := by first | (rw [hy186]; with_reducible exact H) | (have H2_ := (Option.bind_some _ _).symm.trans H; rw [hy186]; with_reducible exact H2_) | (have H2_ := (Option.bind_some _ _).symm.trans H; with_reducible exact H2_) | with_reducible exact H | (rw [hy186]; exact H) | exact H
    have Ny186 := Aside0.mk hy186
    clear hy186
    have H' := Aside0.mk H
    clear H
    go_wp2_with (first | ((with_reducible refine gate_dst (N := 27) rfl ?_); refine Kd.R_make Kd.bool _ 4 rfl (N := 27) rfl 88 _ _ rfl 64 rfl rfl Try.underlying88 (.bool false) 1 info4 rfl (by decide) (by omega) false (ok := fun _ => True) (okp := fun _ => True) rfl (fun _ hk => hk) trivial (by omega) (by omega) (Below.refl _ _) (Nat.le_refl _) ?_; intro v187 w10 ho11 hb hg_ hnew_; clear hg_ hnew_; (first | rw [← Ny186.out] at ho11 | (simp only [Int.reduceToNat] at ho11; rw [← Ny186.out] at ho11)); have HO188 := Aside0.mk (Kd.R_lower ho11 (below_size (by repeat (first | (with_reducible first | exact HB.out | apply below_alloc | apply pw_below_drewN | apply below_drew1 | refine below_set ?_ (Aside0.out (by assumption))) | exact HB.out)))); replace HB := sB HB hb; clear hb ho11))
    repeat (go_quiet (first | ((with_reducible refine gate_dst (N := 27) rfl ?_); refine Kd.R_make Kd.bool _ 4 rfl (N := 27) rfl 88 _ _ rfl 64 rfl rfl Try.underlying88 (.bool false) 1 info4 rfl (by decide) (by omega) false (ok := fun _ => True) (okp := fun _ => True) rfl (fun _ hk => hk) trivial (by omega) (by omega) (Below.refl _ _) (Nat.le_refl _) ?_; intro v187 w10 ho11 hb hg_ hnew_; clear hg_ hnew_; (first | rw [← Ny186.out] at ho11 | (simp only [Int.reduceToNat] at ho11; rw [← Ny186.out] at ho11)); have HO188 := Aside0.mk (Kd.R_lower ho11 (below_size (by repeat (first | (with_reducible first | exact HB.out | apply below_alloc | apply pw_below_drewN | apply below_drew1 | refine below_set ?_ (Aside0.out (by assumption))) | exact HB.out)))); replace HB := sB HB hb; clear hb ho11)); try go_wp2_with (first | ((with_reducible refine gate_dst (N := 27) rfl ?_); refine Kd.R_make Kd.bool _ 4 rfl (N := 27) rfl 88 _ _ rfl 64 rfl rfl Try.underlying88 (.bool false) 1 info4 rfl (by decide) (by omega) false (ok := fun _ => True) (okp := fun _ => True) rfl (fun _ hk => hk) trivial (by omega) (by omega) (Below.refl _ _) (Nat.le_refl _) ?_; intro v187 w10 ho11 hb hg_ hnew_; clear hg_ hnew_; (first | rw [← Ny186.out] at ho11 | (simp only [Int.reduceToNat] at ho11; rw [← Ny186.out] at ho11)); have n0_ := Aside0.mk (Kd.R_lower ho11 (below_size (by repeat (first | (with_reducible first | exact HB.out | apply below_alloc | apply pw_below_drewN | apply below_drew1 | refine below_set ?_ (Aside0.out (by assumption))) | exact HB.out)))); have n1_ := sB HB hb; clear HB; have HO188 := n0_; have HB := n1_; clear n0_ n1_; clear hb ho11)))
    go_loopg [11] kj4 (fun kq v11 w' => ∃ (x10_2 : List Bool) (x11_2 : Int), v11 = .int .i64 x11_2 ∧ Aside0 (fuglemanref19_Lay.l0 kq a0 l1 l2 a3 x10_2 x11_2 = some (r1, r2)) ∧ Aside0 (kq ≤ kj4) ∧ Aside0 (Kd.R Kd.bool 4 w' w.heap.size (fun _ => True) v187 x10_2) ∧ Aside0 (Below w.heap.size w w'))
    case atStart => exact ⟨(y186), (0), (by first | rfl | (simp; done) | (simp [*]; done)), H', ⟨Nat.le_refl _⟩, (sR0 HO188), (sB0 HB)⟩
    case round =>
     clear H'
     (try clear c1); (try clear c2); (try clear c6); (try clear c7); (try clear c7b0); (try clear c8); (try clear c9); (try clear c9b0); (try clear c9b1)
     obtain ⟨x10_2, x11_2, rfl, HA, HK2, HO_10, HB⟩ := hrel
     cases gk with
     | zero => exact absurd HA.out (by simp [fuglemanref19_Lay.l0])
     | succ k2 =>
      have H := HA.out
      clear HA
      simp only [fuglemanref19_Lay.l0] at H
      by_cases c12 : x11_2 < 64
      ·rw [if_pos c12] at H
       have c12b0 : decide (x11_2 < 64) = true := decide_eq_true c12
       clear c12
       by_cases c13 : a3 = true
       ·subst c13
        rw [if_pos rfl] at H
        by_cases c14 : 0 ≤ x11_2
        ·rw [if_pos c14] at H
         have c14b0 : decide (0 ≤ x11_2) = true := decide_eq_true c14
         clear c14
         by_cases c15 : x11_2 < (x10_2.length : Int)
         ·rw [if_pos c15] at H
          have c15b0 : decide (x11_2 < (x10_2.length : Int)) = true := decide_eq_true c15
          clear c15
          obtain ⟨y189, hy189⟩ : ∃ y_ : List Bool, y_ = (x10_2.set (x11_2 : Int).toNat (decide (x11_2 < a0))) := ⟨_, rfl⟩
          replace H : (fuglemanref19_Lay.l0 k2 a0 l1 l2 true y189 (wrap64 (x11_2 + 1))) = some (r1, r2) := by first | (rw [hy189]; with_reducible exact H) | (have H2_ := (Option.bind_some _ _).symm.trans H; rw [hy189]; with_reducible exact H2_) | (have H2_ := (Option.bind_some _ _).symm.trans H; with_reducible exact H2_) | with_reducible exact H | (rw [hy189]; exact H) | exact H
          have Ny189 := Aside0.mk hy189
          clear hy189
          have H' := Aside0.mk H
          clear H
          have p16 : 0 ≤ (x11_2 : Int) := of_decide_eq_true (by first | (with_reducible assumption) | assumption)
          have q16 : (x11_2 : Int) < ((x10_2.length : Int) : Int) := of_decide_eq_true (by first | (with_reducible assumption) | assumption)
          obtain ⟨go16, co16, eo16, gb16, gl16, cl16, HG16⟩ := Kd.R_form HO_10.out (by omega)
          (first | cases eo16 | (injection eo16 with ea_ en_ ec_; (first | subst ea_ | (injection ea_ with ea_; subst ea_)); subst ec_; clear en_))
          have GB16 := Aside0.mk gb16
          have GG16 := Aside0.mk HG16
          clear gb16 gl16 HG16
          obtain ⟨hx16_0, hf16_0⟩ := Kd.R_celln false HO_10.out (x11_2 : Int) p16 q16
          replace p16 := eq_true p16
          replace q16 := eq_true q16
          have HP17 := Kd.R_putg HO_10.out (x11_2 : Int) (decide (x11_2 < a0))
          go_wp2_with (first | ((with_reducible refine gate_store (t := 4) (p := 40) rfl ?_); (try (rw [drewN_self wr]; generalize hq_ : World.drewN wr _ = wr; have n0_ := Aside0.mk (Kd.R_at hq_ HO_10.out); have n1_ := Aside0.mk (below_at hq_ HB.out); clear hq_ HO_10 HB; have HO_10 := n0_; have HB := n1_; clear n0_ n1_; (try (have HP17 := Kd.R_putg HO_10.out (x11_2 : Int) (decide (x11_2 < a0)))))); refine store_event (t := 4) (p := 40) (v := ?vo_w18) (w1 := (wr.setCell ⟨go16, (x11_2 : Int).toNat, none⟩ (.bool (decide (x11_2 < a0))))) ?hg ?ho ?hn ?hr ?_; (case ho => rfl); (case hg => rfl); (case hn => rfl); (case hr => first | (go_simp; done) | (go_simp; rfl)); intro w18 hw; have hg : wr.grownBy w18 (some go16) := (by rw [hw]; exact HP17.2); have hp_ : Kd.R Kd.bool 4 w18 w.heap.size (fun _ => True) (.slice (some ⟨go16, 0, none⟩) x10_2.length co16) y189 := (by rw [hw, Ny189.out]; exact HP17.1); clear HP17; replace HO_10 := Aside0.mk (hp_); replace HB := Aside0.mk ((by rw [hw]; exact below_set (HB.out) GB16.out : Below w.heap.size w w18)); clear hg hw hp_))
          repeat (go_quiet (first | ((with_reducible refine gate_store (t := 4) (p := 40) rfl ?_); (try (rw [drewN_self wr]; generalize hq_ : World.drewN wr _ = wr; have n0_ := Aside0.mk (Kd.R_at hq_ HO_10.out); have n1_ := Aside0.mk (below_at hq_ HB.out); clear hq_ HO_10 HB; have HO_10 := n0_; have HB := n1_; clear n0_ n1_; (try (have HP17 := Kd.R_putg HO_10.out (x11_2 : Int) (decide (x11_2 < a0)))))); refine store_event (t := 4) (p := 40) (v := ?vo_w18) (w1 := (wr.setCell ⟨go16, (x11_2 : Int).toNat, none⟩ (.bool (decide (x11_2 < a0))))) ?hg ?ho ?hn ?hr ?_; (case ho => rfl); (case hg => rfl); (case hn => rfl); (case hr => first | (go_simp; done) | (go_simp; rfl)); intro w18 hw; have hg : wr.grownBy w18 (some go16) := (by rw [hw]; exact HP17.2); have hp_ : Kd.R Kd.bool 4 w18 w.heap.size (fun _ => True) (.slice (some ⟨go16, 0, none⟩) x10_2.length co16) y189 := (by rw [hw, Ny189.out]; exact HP17.1); clear HP17; replace HO_10 := Aside0.mk (hp_); replace HB := Aside0.mk ((by rw [hw]; exact below_set (HB.out) GB16.out : Below w.heap.size w w18)); clear hg hw hp_)); try go_wp2_with (first | ((with_reducible refine gate_store (t := 4) (p := 40) rfl ?_); (try (rw [drewN_self wr]; generalize hq_ : World.drewN wr _ = wr; have n0_ := Aside0.mk (Kd.R_at hq_ HO_10.out); have n1_ := Aside0.mk (below_at hq_ HB.out); clear hq_ HO_10 HB; have HO_10 := n0_; have HB := n1_; clear n0_ n1_; (try (have HP17 := Kd.R_putg HO_10.out (x11_2 : Int) (decide (x11_2 < a0)))))); refine store_event (t := 4) (p := 40) (v := ?vo_w18) (w1 := (wr.setCell ⟨go16, (x11_2 : Int).toNat, none⟩ (.bool (decide (x11_2 < a0))))) ?hg ?ho ?hn ?hr ?_; (case ho => rfl); (case hg => rfl); (case hn => rfl); (case hr => first | (go_simp; done) | (go_simp; rfl)); intro w18 hw; have hg : wr.grownBy w18 (some go16) := (by rw [hw]; exact HP17.2); have hp_ : Kd.R Kd.bool 4 w18 w.heap.size (fun _ => True) (.slice (some ⟨go16, 0, none⟩) x10_2.length co16) y189 := (by rw [hw, Ny189.out]; exact HP17.1); clear HP17; have n0_ := Aside0.mk (hp_); have n1_ := Aside0.mk ((by rw [hw]; exact below_set (HB.out) GB16.out : Below w.heap.size w w18)); clear HO_10; clear HB; have HO_10 := n0_; have HB := n1_; clear n0_ n1_; clear hg hw hp_)))
          go_roundg k2
          case measure => have := HJ4.out; have := HK2.out; omega
          case rel => exact ⟨(y189), (wrap64 (x11_2 + 1)), (by first | rfl | (simp; done) | (simp [*]; done)), H', ⟨by have := HJ4.out; have := HK2.out; omega⟩, (sR0 HO_10), (sB0 HB)⟩
         ·rw [if_neg c15] at H
          exact absurd H (by simp)
        ·rw [if_neg c14] at H
         exact absurd H (by simp)
       ·replace c13 := Bool.eq_false_iff.mpr c13
        subst c13
        rw [if_neg (show ¬ (false = true) by decide)] at H
        by_cases c19 : 0 ≤ x11_2
        ·rw [if_pos c19] at H
         have c19b0 : decide (0 ≤ x11_2) = true := decide_eq_true c19
         clear c19
         by_cases c20 : x11_2 < (x10_2.length : Int)
         ·rw [if_pos c20] at H
          have c20b0 : decide (x11_2 < (x10_2.length : Int)) = true := decide_eq_true c20
          clear c20
          obtain ⟨y190, hy190⟩ : ∃ y_ : List Bool, y_ = (x10_2.set (x11_2 : Int).toNat false) := ⟨_, rfl⟩
          replace H : (fuglemanref19_Lay.l0 k2 a0 l1 l2 false y190 (wrap64 (x11_2 + 1))) = some (r1, r2) := by first | (rw [hy190]; with_reducible exact H) | (have H2_ := (Option.bind_some _ _).symm.trans H; rw [hy190]; with_reducible exact H2_) | (have H2_ := (Option.bind_some _ _).symm.trans H; with_reducible exact H2_) | with_reducible exact H | (rw [hy190]; exact H) | exact H
          have Ny190 := Aside0.mk hy190
          clear hy190
          have H' := Aside0.mk H
          clear H
          have p21 : 0 ≤ (x11_2 : Int) := of_decide_eq_true (by first | (with_reducible assumption) | assumption)
          have q21 : (x11_2 : Int) < ((x10_2.length : Int) : Int) := of_decide_eq_true (by first | (with_reducible assumption) | assumption)
          obtain ⟨go21, co21, eo21, gb21, gl21, cl21, HG21⟩ := Kd.R_form HO_10.out (by omega)
          (first | cases eo21 | (injection eo21 with ea_ en_ ec_; (first | subst ea_ | (injection ea_ with ea_; subst ea_)); subst ec_; clear en_))
          have GB21 := Aside0.mk gb21
          have GG21 := Aside0.mk HG21
          clear gb21 gl21 HG21
          obtain ⟨hx21_0, hf21_0⟩ := Kd.R_celln false HO_10.out (x11_2 : Int) p21 q21
          replace p21 := eq_true p21
          replace q21 := eq_true q21
          have HP22 := Kd.R_putg HO_10.out (x11_2 : Int) false
          go_wp2_with (first | ((with_reducible refine gate_store (t := 4) (p := 40) rfl ?_); (try (rw [drewN_self wr]; generalize hq_ : World.drewN wr _ = wr; have n0_ := Aside0.mk (Kd.R_at hq_ HO_10.out); have n1_ := Aside0.mk (below_at hq_ HB.out); clear hq_ HO_10 HB; have HO_10 := n0_; have HB := n1_; clear n0_ n1_; (try (have HP22 := Kd.R_putg HO_10.out (x11_2 : Int) false)))); refine store_event (t := 4) (p := 40) (v := ?vo_w23) (w1 := (wr.setCell ⟨go21, (x11_2 : Int).toNat, none⟩ (.bool false))) ?hg ?ho ?hn ?hr ?_; (case ho => rfl); (case hg => rfl); (case hn => rfl); (case hr => first | (go_simp; done) | (go_simp; rfl)); intro w23 hw; have hg : wr.grownBy w23 (some go21) := (by rw [hw]; exact HP22.2); have hp_ : Kd.R Kd.bool 4 w23 w.heap.size (fun _ => True) (.slice (some ⟨go21, 0, none⟩) x10_2.length co21) y190 := (by rw [hw, Ny190.out]; exact HP22.1); clear HP22; replace HO_10 := Aside0.mk (hp_); replace HB := Aside0.mk ((by rw [hw]; exact below_set (HB.out) GB21.out : Below w.heap.size w w23)); clear hg hw hp_))
          repeat (go_quiet (first | ((with_reducible refine gate_store (t := 4) (p := 40) rfl ?_); (try (rw [drewN_self wr]; generalize hq_ : World.drewN wr _ = wr; have n0_ := Aside0.mk (Kd.R_at hq_ HO_10.out); have n1_ := Aside0.mk (below_at hq_ HB.out); clear hq_ HO_10 HB; have HO_10 := n0_; have HB := n1_; clear n0_ n1_; (try (have HP22 := Kd.R_putg HO_10.out (x11_2 : Int) false)))); refine store_event (t := 4) (p := 40) (v := ?vo_w23) (w1 := (wr.setCell ⟨go21, (x11_2 : Int).toNat, none⟩ (.bool false))) ?hg ?ho ?hn ?hr ?_; (case ho => rfl); (case hg => rfl); (case hn => rfl); (case hr => first | (go_simp; done) | (go_simp; rfl)); intro w23 hw; have hg : wr.grownBy w23 (some go21) := (by rw [hw]; exact HP22.2); have hp_ : Kd.R Kd.bool 4 w23 w.heap.size (fun _ => True) (.slice (some ⟨go21, 0, none⟩) x10_2.length co21) y190 := (by rw [hw, Ny190.out]; exact HP22.1); clear HP22; replace HO_10 := Aside0.mk (hp_); replace HB := Aside0.mk ((by rw [hw]; exact below_set (HB.out) GB21.out : Below w.heap.size w w23)); clear hg hw hp_)); try go_wp2_with (first | ((with_reducible refine gate_store (t := 4) (p := 40) rfl ?_); (try (rw [drewN_self wr]; generalize hq_ : World.drewN wr _ = wr; have n0_ := Aside0.mk (Kd.R_at hq_ HO_10.out); have n1_ := Aside0.mk (below_at hq_ HB.out); clear hq_ HO_10 HB; have HO_10 := n0_; have HB := n1_; clear n0_ n1_; (try (have HP22 := Kd.R_putg HO_10.out (x11_2 : Int) false)))); refine store_event (t := 4) (p := 40) (v := ?vo_w23) (w1 := (wr.setCell ⟨go21, (x11_2 : Int).toNat, none⟩ (.bool false))) ?hg ?ho ?hn ?hr ?_; (case ho => rfl); (case hg => rfl); (case hn => rfl); (case hr => first | (go_simp; done) | (go_simp; rfl)); intro w23 hw; have hg : wr.grownBy w23 (some go21) := (by rw [hw]; exact HP22.2); have hp_ : Kd.R Kd.bool 4 w23 w.heap.size (fun _ => True) (.slice (some ⟨go21, 0, none⟩) x10_2.length co21) y190 := (by rw [hw, Ny190.out]; exact HP22.1); clear HP22; have n0_ := Aside0.mk (hp_); have n1_ := Aside0.mk ((by rw [hw]; exact below_set (HB.out) GB21.out : Below w.heap.size w w23)); clear HO_10; clear HB; have HO_10 := n0_; have HB := n1_; clear n0_ n1_; clear hg hw hp_)))
          go_roundg k2
          case measure => have := HJ4.out; have := HK2.out; omega
          case rel => exact ⟨(y190), (wrap64 (x11_2 + 1)), (by first | rfl | (simp; done) | (simp [*]; done)), H', ⟨by have := HJ4.out; have := HK2.out; omega⟩, (sR0 HO_10), (sB0 HB)⟩
         ·rw [if_neg c20] at H
          exact absurd H (by simp)
        ·rw [if_neg c19] at H
         exact absurd H (by simp)
      ·rw [if_neg c12] at H
       have c12b0 : decide (x11_2 < 64) = false := decide_eq_false c12
       clear c12
       have H' := Aside0.mk H
       clear H
       go_wp2
       repeat (go_quiet (fail); try go_wp2)
       go_loopg [12] k2 (fun kq v12 w' => ∃ (x10_3 : List Bool) (x12_3 : Int), v12 = .int .i64 x12_3 ∧ Aside0 (fuglemanref19_Lay.l1 kq l1 l2 a3 x10_3 x12_3 = some (r1, r2)) ∧ Aside0 (kq ≤ k2) ∧ Aside0 (Kd.R Kd.bool 4 w' w.heap.size (fun _ => True) v187 x10_3) ∧ Aside0 (Below w.heap.size w w'))
       case atStart => exact ⟨(x10_2), (0), (by first | rfl | (simp; done) | (simp [*]; done)), H', ⟨Nat.le_refl _⟩, (sR0 HO_10), (sB0 HB)⟩
       case round =>
        clear H'
        (try clear c1); (try clear c2); (try clear c6); (try clear c7); (try clear c7b0); (try clear c8); (try clear c9); (try clear c9b0); (try clear c9b1); (try clear c12); (try clear c12b0); (try clear c13); (try clear c14); (try clear c14b0); (try clear c15); (try clear c15b0); (try clear p16); (try clear q16); (try clear c19); (try clear c19b0); (try clear c20); (try clear c20b0); (try clear p21); (try clear q21); (try clear hx16_0); (try clear hx21_0); (try clear p16); (try clear p21); (try clear q16); (try clear q21)
        obtain ⟨x10_3, x12_3, rfl, HA, HK3, HO_10, HB⟩ := hrel
        cases gk with
        | zero => exact absurd HA.out (by simp [fuglemanref19_Lay.l1])
        | succ k3 =>
         have H := HA.out
         clear HA
         simp only [fuglemanref19_Lay.l1] at H
         by_cases c24 : x12_3 < (l1.length : Int)
         ·rw [if_pos c24] at H
          have c24b0 : decide (x12_3 < (l1.length : Int)) = true := decide_eq_true c24
          clear c24
          by_cases c25 : 0 ≤ x12_3
          ·rw [if_pos c25] at H
           have c25b0 : decide (0 ≤ x12_3) = true := decide_eq_true c25
           clear c25
           replace H := Option.bind_eq_some_iff.mp H
           obtain ⟨⟨t192, t193, t194, t195, t196⟩, A260, H⟩ := H
           replace H : (if t196 = true then (fuglemanref19_Lay.l2 k3 l1 l2 a3 x10_3 x12_3 0 t192 t193 t194 t195) else (some (5, x12_3))) = some (r1, r2) := H
           have A26 := Aside0.mk A260
           clear A260
           by_cases c27 : t196 = true
           ·subst c27
            rw [if_pos rfl] at H
            have H' := Aside0.mk H
            clear H
            have p191 : 0 ≤ (x12_3 : Int) := of_decide_eq_true (by first | (with_reducible assumption) | assumption)
            have q191 : x12_3 < (l1.length : Int) := of_decide_eq_true (by first | (with_reducible assumption) | assumption)
            obtain ⟨ad191, e191, hx191_0, hx191_1⟩ := at_T56 HR1.out x12_3 p191 q191
            cases e191
            replace hx191_0 := (HB.out.cell (World.block_lt_of_cell? w _ hx191_0)).trans hx191_0
            replace hx191_1 := (HB.out.cell (World.block_lt_of_cell? w _ hx191_1)).trans hx191_1
            replace p191 := eq_true p191
            replace q191 := eq_true q191
            go_wp2_with (first | (go_at_call 34; (with_reducible refine (fuglemanref16_Find.calls k3 _ _ l2 ((rd_T56 l1 x12_3).f0) t192 t193 t194 t195 true _ ?side1 ?side2 A26.out).mono ?_); (case side1 => exact sC HR2 HB); (case side2 => exact HC2.out); rintro e w28 ⟨rfl, hb⟩; replace HO_10 := sR HO_10 hb; replace HB := sB HB hb; (try clear hb)) | ((with_reducible refine gate_dst (N := 13) rfl ?_); refine boxK (N := 13) (#[.int .i64 0, .int .i64 0, .int .i64 0, .bool false]) 63 ?_; intro gb197 hg w29 hbox hb; replace HO_10 := sR HO_10 hb; have BK197 := Aside0.mk (hbox); have GW197 := sG hg HB; have GE197 := sG hg HB; replace HB := sB HB hb; clear hb hbox hg; have z30 := bk4 BK197))
            repeat (go_quiet (first | (go_at_call 34; (with_reducible refine (fuglemanref16_Find.calls k3 _ _ l2 ((rd_T56 l1 x12_3).f0) t192 t193 t194 t195 true _ ?side1 ?side2 A26.out).mono ?_); (case side1 => exact sC HR2 HB); (case side2 => exact HC2.out); rintro e w28 ⟨rfl, hb⟩; replace HO_10 := sR HO_10 hb; replace HB := sB HB hb; (try clear hb)) | ((with_reducible refine gate_dst (N := 13) rfl ?_); refine boxK (N := 13) (#[.int .i64 0, .int .i64 0, .int .i64 0, .bool false]) 63 ?_; intro gb197 hg w29 hbox hb; replace HO_10 := sR HO_10 hb; have BK197 := Aside0.mk (hbox); have GW197 := sG hg HB; have GE197 := sG hg HB; replace HB := sB HB hb; clear hb hbox hg; have z30 := bk4 BK197)); try go_wp2_with (first | (go_at_call 34; (with_reducible refine (fuglemanref16_Find.calls k3 _ _ l2 ((rd_T56 l1 x12_3).f0) t192 t193 t194 t195 true _ ?side1 ?side2 A26.out).mono ?_); (case side1 => exact sC HR2 HB); (case side2 => exact HC2.out); rintro e w28 ⟨rfl, hb⟩; have n0_ := sR HO_10 hb; have n1_ := sB HB hb; clear HO_10; clear HB; have HO_10 := n0_; have HB := n1_; clear n0_ n1_; (try clear hb); (try clear hb2); (try clear hk); (try clear hi)) | ((with_reducible refine gate_dst (N := 13) rfl ?_); refine boxK (N := 13) (#[.int .i64 0, .int .i64 0, .int .i64 0, .bool false]) 63 ?_; intro gb197 hg w29 hbox hb; have n0_ := sR HO_10 hb; have n1_ := sB HB hb; have n2_ := Aside0.mk (hbox); have n3_ := sG hg HB; have n4_ := sG hg HB; clear HO_10; clear HB; have HO_10 := n0_; have HB := n1_; have BK197 := n2_; have GW197 := n3_; have GE197 := n4_; clear n0_ n1_ n2_ n3_ n4_; clear hb hbox hg; have z30_0 : w29.cell? ⟨gb197, 0, none⟩ = some (.int .i64 0) := sc BK197 0; have z30_1 : w29.cell? ⟨gb197, 1, none⟩ = some (.int .i64 0) := sc BK197 1; have z30_2 : w29.cell? ⟨gb197, 2, none⟩ = some (.int .i64 0) := sc BK197 2; have z30_3 : w29.cell? ⟨gb197, 3, none⟩ = some (.bool false) := sc BK197 3; have q30_0 := blk_frozen BK197.out 0; have q30_1 := blk_frozen BK197.out 1; have q30_2 := blk_frozen BK197.out 2; have q30_3 := blk_frozen BK197.out 3)))
            go_loopg [15] k3 (fun kq v15 w' => ∃ (x15_4 : Int), v15 = .int .i64 x15_4 ∧ Aside0 (fuglemanref19_Lay.l2 kq l1 l2 a3 x10_3 x12_3 x15_4 t192 t193 t194 t195 = some (r1, r2)) ∧ Aside0 (kq ≤ k3) ∧ Aside0 (Kd.R Kd.bool 4 w' w.heap.size (fun _ => True) v187 x10_3) ∧ Aside0 (w'.heap[gb197]? = some (.cells #[.int .i64 t192, .int .i64 t193, .int .i64 t194, .bool t195] 63 (0, 0))) ∧ Aside0 (Below w.heap.size w w'))
            case atStart => exact ⟨(0), (by first | rfl | (simp; done) | (simp [*]; done)), H', ⟨Nat.le_refl _⟩, ⟨by (with_reducible repeat (first | apply Kd.R_alloc | apply Kd.R_drewN | apply Kd.R_drew)); exact Kd.R_mono (Kd.R_far (p := ⟨gb197, 3, none⟩) (Kd.R_far (p := ⟨gb197, 2, none⟩) (Kd.R_far (p := ⟨gb197, 1, none⟩) (Kd.R_far (p := ⟨gb197, 0, none⟩) (Kd.R_types HO_10.out BK197.out (by decide)) (fun _ hk => hk.2) (.int .i64 t192)) (fun _ hk => hk.2) (.int .i64 t193)) (fun _ hk => hk.2) (.int .i64 t194)) (fun _ hk => hk.2) (.bool t195)) (fun _ hk => trivial)⟩, (sKq0 BK197), (sB0 HB)⟩
            case round =>
             clear H'
             (try clear c1); (try clear c2); (try clear c6); (try clear c7); (try clear c7b0); (try clear c8); (try clear c9); (try clear c9b0); (try clear c9b1); (try clear c12); (try clear c12b0); (try clear c13); (try clear c14); (try clear c14b0); (try clear c15); (try clear c15b0); (try clear p16); (try clear q16); (try clear c19); (try clear c19b0); (try clear c20); (try clear c20b0); (try clear p21); (try clear q21); (try clear c24); (try clear c24b0); (try clear c25); (try clear c25b0); (try clear c27); (try clear z30); (try clear hx16_0); (try clear hx191_0); (try clear hx191_1); (try clear hx21_0); (try clear p16); (try clear p191); (try clear p21); (try clear q16); (try clear q191); (try clear q21)
             obtain ⟨x15_4, rfl, HA, HK4, HO_10, BK197, HB⟩ := hrel
             cases gk with
             | zero => exact absurd HA.out (by simp [fuglemanref19_Lay.l2])
             | succ k4 =>
              have H := HA.out
              clear HA
              simp only [fuglemanref19_Lay.l2] at H
              by_cases c31 : x15_4 < x12_3
              ·rw [if_pos c31] at H
               have c31b0 : decide (x15_4 < x12_3) = true := decide_eq_true c31
               clear c31
               by_cases c32 : 0 ≤ x15_4
               ·rw [if_pos c32] at H
                have c32b0 : decide (0 ≤ x15_4) = true := decide_eq_true c32
                clear c32
                by_cases c33 : x15_4 < (l1.length : Int)
                ·rw [if_pos c33] at H
                 have c33b0 : decide (x15_4 < (l1.length : Int)) = true := decide_eq_true c33
                 clear c33
                 by_cases c34 : 0 ≤ x12_3
                 ·rw [if_pos c34] at H
                  have c34b0 : decide (0 ≤ x12_3) = true := decide_eq_true c34
                  clear c34
                  by_cases c35 : x12_3 < (l1.length : Int)
                  ·rw [if_pos c35] at H
                   have c35b0 : decide (x12_3 < (l1.length : Int)) = true := decide_eq_true c35
                   clear c35
                   by_cases c36 : ((rd_T56 l1 x15_4).f0) = ((rd_T56 l1 x12_3).f0)
                   ·rw [if_pos c36] at H
                    have c36b0 : (((rd_T56 l1 x15_4).f0) == ((rd_T56 l1 x12_3).f0)) = true := beq_iff_eq.mpr c36
                    have c36b1 : (((rd_T56 l1 x15_4).f0) != ((rd_T56 l1 x12_3).f0)) = false := bne_eq_false_iff_eq.mpr c36
                    clear c36
                    simp only [Option.some.injEq, Prod.mk.injEq] at H
                    obtain ⟨rfl, rfl⟩ := H
                    have p198 : 0 ≤ (x15_4 : Int) := of_decide_eq_true (by first | (with_reducible assumption) | assumption)
                    have q198 : x15_4 < (l1.length : Int) := of_decide_eq_true (by first | (with_reducible assumption) | assumption)
                    obtain ⟨ad198, e198, hx198_0, hx198_1⟩ := at_T56 HR1.out x15_4 p198 q198
                    obtain rfl : ad191 = ad198 := (by injection e198)
                    replace hx198_0 := (HB.out.cell (World.block_lt_of_cell? w _ hx198_0)).trans hx198_0
                    replace hx198_1 := (HB.out.cell (World.block_lt_of_cell? w _ hx198_1)).trans hx198_1
                    replace p198 := eq_true p198
                    replace q198 := eq_true q198
                    have p199 : 0 ≤ (x12_3 : Int) := of_decide_eq_true (by first | (with_reducible assumption) | assumption)
                    have q199 : x12_3 < (l1.length : Int) := of_decide_eq_true (by first | (with_reducible assumption) | assumption)
                    obtain ⟨ad199, e199, hx199_0, hx199_1⟩ := at_T56 HR1.out x12_3 p199 q199
                    obtain rfl : ad191 = ad199 := (by injection e199)
                    replace hx199_0 := (HB.out.cell (World.block_lt_of_cell? w _ hx199_0)).trans hx199_0
                    replace hx199_1 := (HB.out.cell (World.block_lt_of_cell? w _ hx199_1)).trans hx199_1
                    replace p199 := eq_true p199
                    replace q199 := eq_true q199
                    go_wp2
                    repeat (go_quiet (fail); try go_wp2)
                    go_ret2
                    exact sEnd HB
                   ·rw [if_neg c36] at H
                    have c36b0 : (((rd_T56 l1 x15_4).f0) == ((rd_T56 l1 x12_3).f0)) = false := beq_eq_false_iff_ne.mpr c36
                    have c36b1 : (((rd_T56 l1 x15_4).f0) != ((rd_T56 l1 x12_3).f0)) = true := bne_iff_ne.mpr c36
                    have H' := Aside0.mk H
                    clear H
                    have p198 : 0 ≤ (x15_4 : Int) := of_decide_eq_true (by first | (with_reducible assumption) | assumption)
                    have q198 : x15_4 < (l1.length : Int) := of_decide_eq_true (by first | (with_reducible assumption) | assumption)
                    obtain ⟨ad198, e198, hx198_0, hx198_1⟩ := at_T56 HR1.out x15_4 p198 q198
                    obtain rfl : ad191 = ad198 := (by injection e198)
                    replace hx198_0 := (HB.out.cell (World.block_lt_of_cell? w _ hx198_0)).trans hx198_0
                    replace hx198_1 := (HB.out.cell (World.block_lt_of_cell? w _ hx198_1)).trans hx198_1
                    replace p198 := eq_true p198
                    replace q198 := eq_true q198
                    have p199 : 0 ≤ (x12_3 : Int) := of_decide_eq_true (by first | (with_reducible assumption) | assumption)
                    have q199 : x12_3 < (l1.length : Int) := of_decide_eq_true (by first | (with_reducible assumption) | assumption)
                    obtain ⟨ad199, e199, hx199_0, hx199_1⟩ := at_T56 HR1.out x12_3 p199 q199
                    obtain rfl : ad191 = ad199 := (by injection e199)
                    replace hx199_0 := (HB.out.cell (World.block_lt_of_cell? w _ hx199_0)).trans hx199_0
                    replace hx199_1 := (HB.out.cell (World.block_lt_of_cell? w _ hx199_1)).trans hx199_1
                    replace p199 := eq_true p199
                    replace q199 := eq_true q199
                    go_wp2
                    repeat (go_quiet (fail); try go_wp2)
                    go_roundg k4
                    case measure => have := HJ4.out; have := HK2.out; have := HK3.out; have := HK4.out; omega
                    case rel => exact ⟨(wrap64 (x15_4 + 1)), (by first | rfl | (simp; done) | (simp [*]; done)), H', ⟨by have := HJ4.out; have := HK2.out; have := HK3.out; have := HK4.out; omega⟩, (sR0 HO_10), (sK0 BK197), (sB0 HB)⟩
                  ·rw [if_neg c35] at H
                   exact absurd H (by simp)
                 ·rw [if_neg c34] at H
                  exact absurd H (by simp)
                ·rw [if_neg c33] at H
                 exact absurd H (by simp)
               ·rw [if_neg c32] at H
                exact absurd H (by simp)
              ·rw [if_neg c31] at H
               have c31b0 : decide (x15_4 < x12_3) = false := decide_eq_false c31
               clear c31
               by_cases c37 : 0 ≤ x12_3
               ·rw [if_pos c37] at H
                have c37b0 : decide (0 ≤ x12_3) = true := decide_eq_true c37
                clear c37
                by_cases c38 : x12_3 < (l1.length : Int)
                ·rw [if_pos c38] at H
                 have c38b0 : decide (x12_3 < (l1.length : Int)) = true := decide_eq_true c38
                 clear c38
                 have HC39 := Aside0.mk H
                 clear H
                 have p200 : 0 ≤ (x12_3 : Int) := of_decide_eq_true (by first | (with_reducible assumption) | assumption)
                 have q200 : x12_3 < (l1.length : Int) := of_decide_eq_true (by first | (with_reducible assumption) | assumption)
                 obtain ⟨ad200, e200, hx200_0, hx200_1⟩ := at_T56 HR1.out x12_3 p200 q200
                 obtain rfl : ad191 = ad200 := (by injection e200)
                 replace hx200_0 := (HB.out.cell (World.block_lt_of_cell? w _ hx200_0)).trans hx200_0
                 replace hx200_1 := (HB.out.cell (World.block_lt_of_cell? w _ hx200_1)).trans hx200_1
                 replace p200 := eq_true p200
                 replace q200 := eq_true q200
                 go_upto_region 20 with (fail)
                 repeat (go_quiet (fail); go_upto_region 20 with (fail))
                 go_cut [99] (fun v99 wc => ∃ (kq : Nat) (x99_38 : Bool), v99 = .bool x99_38 ∧ Aside0 (fuglemanref19_Lay.j4 kq l1 l2 a3 x10_3 x12_3 ((rd_T56 l1 x12_3).f1) x99_38 t192 t193 t194 t195 = some (r1, r2)) ∧ Aside0 (kq ≤ k4) ∧ Aside0 (Kd.R Kd.bool 4 wc w.heap.size (fun _ => True) v187 x10_3) ∧ Aside0 (wc.heap[gb197]? = some (.cells #[.int .i64 t192, .int .i64 t193, .int .i64 t194, .bool t195] 63 (0, 0))) ∧ Aside0 (Below w.heap.size w wc))
                 case first =>
                  have H := HC39.out
                  clear HC39
                  by_cases c40 : ((rd_T56 l1 x12_3).f1) < 0
                  ·rw [if_pos c40] at H
                   have c40b0 : decide (((rd_T56 l1 x12_3).f1) < 0) = true := decide_eq_true c40
                   clear c40
                   (first | rw [c40b0] | (simp only [i64_w, i32_w]; rw [c40b0]) | skip)
                   have H' := Aside0.mk H
                   clear H
                   go_wp2
                   repeat (go_quiet (fail); try go_wp2)
                   go_meet
                   case rel => exact ⟨_, (true), (by first | rfl | (simp; done) | (simp [*]; done)), H', ⟨by have := HJ4.out; have := HK2.out; have := HK3.out; have := HK4.out; first | omega | exact Nat.le_refl _⟩, (sR0 HO_10), (sK0 BK197), (sB0 HB)⟩
                  ·rw [if_neg c40] at H
                   have c40b0 : decide (((rd_T56 l1 x12_3).f1) < 0) = false := decide_eq_false c40
                   clear c40
                   (first | rw [c40b0] | (simp only [i64_w, i32_w]; rw [c40b0]) | skip)
                   by_cases c41 : ((rd_T56 l1 x12_3).f1) > 64
                   ·rw [if_pos c41] at H
                    have c41b0 : decide (64 < ((rd_T56 l1 x12_3).f1)) = true := decide_eq_true c41
                    clear c41
                    have H' := Aside0.mk H
                    clear H
                    go_wp2
                    repeat (go_quiet (fail); try go_wp2)
                    go_meet
                    case rel => exact ⟨_, (true), (by first | rfl | (simp; done) | (simp [*]; done)), H', ⟨by have := HJ4.out; have := HK2.out; have := HK3.out; have := HK4.out; first | omega | exact Nat.le_refl _⟩, (sR0 HO_10), (sK0 BK197), (sB0 HB)⟩
                   ·rw [if_neg c41] at H
                    have c41b0 : decide (64 < ((rd_T56 l1 x12_3).f1)) = false := decide_eq_false c41
                    clear c41
                    by_cases c42 : t194 < 0
                    ·rw [if_pos c42] at H
                     have c42b0 : decide (t194 < 0) = true := decide_eq_true c42
                     clear c42
                     have H' := Aside0.mk H
                     clear H
                     have z43 := bk4 BK197
                     go_wp2
                     repeat (go_quiet (fail); try go_wp2)
                     go_meet
                     case rel => exact ⟨_, (true), (by first | rfl | (simp; done) | (simp [*]; done)), H', ⟨by have := HJ4.out; have := HK2.out; have := HK3.out; have := HK4.out; first | omega | exact Nat.le_refl _⟩, (sR0 HO_10), (sK0 BK197), (sB0 HB)⟩
                    ·rw [if_neg c42] at H
                     have c42b0 : decide (t194 < 0) = false := decide_eq_false c42
                     clear c42
                     have H' := Aside0.mk H
                     clear H
                     have z44 := bk4 BK197
                     go_wp2
                     repeat (go_quiet (fail); try go_wp2)
                     go_meet
                     case rel => exact ⟨_, (decide (t194 > (wrap64 (64 - ((rd_T56 l1 x12_3).f1))))), (by first | rfl | (simp; done) | (simp [*]; done)), H', ⟨by have := HJ4.out; have := HK2.out; have := HK3.out; have := HK4.out; first | omega | exact Nat.le_refl _⟩, (sR0 HO_10), (sK0 BK197), (sB0 HB)⟩
                 case rest =>
                  clear HC39
                  (try clear c1); (try clear c2); (try clear c6); (try clear c7); (try clear c7b0); (try clear c8); (try clear c9); (try clear c9b0); (try clear c9b1); (try clear c12); (try clear c12b0); (try clear c13); (try clear c14); (try clear c14b0); (try clear c15); (try clear c15b0); (try clear p16); (try clear q16); (try clear c19); (try clear c19b0); (try clear c20); (try clear c20b0); (try clear p21); (try clear q21); (try clear c24); (try clear c24b0); (try clear c25); (try clear c25b0); (try clear c27); (try clear c31); (try clear c31b0); (try clear c32); (try clear c32b0); (try clear c33); (try clear c33b0); (try clear c34); (try clear c34b0); (try clear c35); (try clear c35b0); (try clear c36); (try clear c36b0); (try clear c36b1); (try clear c37); (try clear c37b0); (try clear c38); (try clear c38b0); (try clear c40); (try clear c40b0); (try clear c41); (try clear c41b0); (try clear c42); (try clear c42b0); (try clear z30); (try clear hx16_0); (try clear hx191_0); (try clear hx191_1); (try clear hx198_0); (try clear hx198_1); (try clear hx199_0); (try clear hx199_1); (try clear hx200_0); (try clear hx200_1); (try clear hx21_0); (try clear p16); (try clear p191); (try clear p198); (try clear p199); (try clear p200); (try clear p21); (try clear q16); (try clear q191); (try clear q198); (try clear q199); (try clear q200); (try clear q21)
                  obtain ⟨kq, x99_38, rfl, HA, HJ38, HO_10, BK197, HB⟩ := hcut
                  cases kq with
                  | zero => exact absurd HA.out (by simp [fuglemanref19_Lay.j4])
                  | succ kj38 =>
                   have H := HA.out
                   clear HA
                   simp only [fuglemanref19_Lay.j4] at H
                   by_cases c45 : x99_38 = true
                   ·subst c45
                    rw [if_pos rfl] at H
                    simp only [Option.some.injEq, Prod.mk.injEq] at H
                    obtain ⟨rfl, rfl⟩ := H
                    go_wp2
                    repeat (go_quiet (fail); try go_wp2)
                    go_ret2
                    exact sEnd HB
                   ·replace c45 := Bool.eq_false_iff.mpr c45
                    subst c45
                    rw [if_neg (show ¬ (false = true) by decide)] at H
                    have H' := Aside0.mk H
                    clear H
                    go_wp2
                    repeat (go_quiet (fail); try go_wp2)
                    go_loopg [17] kj38 (fun kq v17 w' => ∃ (x10_6 : List Bool) (x17_6 : Int), v17 = .int .i64 x17_6 ∧ Aside0 (fuglemanref19_Lay.l3 kq l1 l2 a3 x10_6 x12_3 ((rd_T56 l1 x12_3).f1) x17_6 t192 t193 t194 t195 = some (r1, r2)) ∧ Aside0 (kq ≤ kj38) ∧ Aside0 (Kd.R Kd.bool 4 w' w.heap.size (fun _ => True) v187 x10_6) ∧ Aside0 (w'.heap[gb197]? = some (.cells #[.int .i64 t192, .int .i64 t193, .int .i64 t194, .bool t195] 63 (0, 0))) ∧ Aside0 (Below w.heap.size w w'))
                    case atStart => exact ⟨(x10_3), (((rd_T56 l1 x12_3).f1)), (by first | rfl | (simp; done) | (simp [*]; done)), H', ⟨Nat.le_refl _⟩, (sR0 HO_10), (sK0 BK197), (sB0 HB)⟩
                    case round =>
                     clear H'
                     (try clear c1); (try clear c2); (try clear c6); (try clear c7); (try clear c7b0); (try clear c8); (try clear c9); (try clear c9b0); (try clear c9b1); (try clear c12); (try clear c12b0); (try clear c13); (try clear c14); (try clear c14b0); (try clear c15); (try clear c15b0); (try clear p16); (try clear q16); (try clear c19); (try clear c19b0); (try clear c20); (try clear c20b0); (try clear p21); (try clear q21); (try clear c24); (try clear c24b0); (try clear c25); (try clear c25b0); (try clear c27); (try clear c31); (try clear c31b0); (try clear c32); (try clear c32b0); (try clear c33); (try clear c33b0); (try clear c34); (try clear c34b0); (try clear c35); (try clear c35b0); (try clear c36); (try clear c36b0); (try clear c36b1); (try clear c37); (try clear c37b0); (try clear c38); (try clear c38b0); (try clear c40); (try clear c40b0); (try clear c41); (try clear c41b0); (try clear c42); (try clear c42b0); (try clear c45); (try clear z30); (try clear hx16_0); (try clear hx191_0); (try clear hx191_1); (try clear hx198_0); (try clear hx198_1); (try clear hx199_0); (try clear hx199_1); (try clear hx200_0); (try clear hx200_1); (try clear hx21_0); (try clear p16); (try clear p191); (try clear p198); (try clear p199); (try clear p200); (try clear p21); (try clear q16); (try clear q191); (try clear q198); (try clear q199); (try clear q200); (try clear q21)
                     obtain ⟨x10_6, x17_6, rfl, HA, HK6, HO_10, BK197, HB⟩ := hrel
                     cases gk with
                     | zero => exact absurd HA.out (by simp [fuglemanref19_Lay.l3])
                     | succ k6 =>
                      have H := HA.out
                      clear HA
                      simp only [fuglemanref19_Lay.l3] at H
                      by_cases c46 : x17_6 < (wrap64 (((rd_T56 l1 x12_3).f1) + t194))
                      ·rw [if_pos c46] at H
                       have c46b0 : decide (x17_6 < (wrap64 (((rd_T56 l1 x12_3).f1) + t194))) = true := decide_eq_true c46
                       clear c46
                       by_cases c47 : a3 = true
                       ·subst c47
                        rw [if_pos rfl] at H
                        by_cases c48 : 0 ≤ x17_6
                        ·rw [if_pos c48] at H
                         have c48b0 : decide (0 ≤ x17_6) = true := decide_eq_true c48
                         clear c48
                         by_cases c49 : x17_6 < (x10_6.length : Int)
                         ·rw [if_pos c49] at H
                          have c49b0 : decide (x17_6 < (x10_6.length : Int)) = true := decide_eq_true c49
                          clear c49
                          obtain ⟨bq50, hbq50⟩ : ∃ b_ : Bool, b_ = (rdOf false x10_6 x17_6) := ⟨_, rfl⟩
                          replace H : (if bq50 = true then (some (15, x12_3)) else (fuglemanref19_Lay.l3 k6 l1 l2 true (x10_6.set (x17_6 : Int).toNat true) x12_3 ((rd_T56 l1 x12_3).f1) (wrap64 (x17_6 + 1)) t192 t193 t194 t195)) = some (r1, r2) := by rw [← hbq50] at H; exact H
                          have Nbq50 := Aside0.mk hbq50
                          clear hbq50
                          by_cases c51 : bq50 = true
                          ·subst c51
                           rw [if_pos rfl] at H
                           simp only [Option.some.injEq, Prod.mk.injEq] at H
                           obtain ⟨rfl, rfl⟩ := H
                           have z52 := bk4 BK197
                           obtain ⟨Ao53, co53, eo53⟩ := Kd.R_slice HO_10.out
                           subst eo53
                           have p201 : 0 ≤ (x17_6 : Int) := of_decide_eq_true (by first | (with_reducible assumption) | assumption)
                           have q201 : x17_6 < (x10_6.length : Int) := of_decide_eq_true (by first | (with_reducible assumption) | assumption)
                           obtain ⟨ad201, e201, hx201_0⟩ := Kd.at_bool (Kd.R_reads' HO_10.out).2.2 x17_6 p201 q201
                           (try rw [← Nbq50.out] at hx201_0)
                           cases e201
                           replace p201 := eq_true p201
                           replace q201 := eq_true q201
                           go_wp2
                           repeat (go_quiet (fail); try go_wp2)
                           go_ret2
                           exact sEnd HB
                          ·replace c51 := Bool.eq_false_iff.mpr c51
                           subst c51
                           rw [if_neg (show ¬ (false = true) by decide)] at H
                           obtain ⟨y202, hy202⟩ : ∃ y_ : List Bool, y_ = (x10_6.set (x17_6 : Int).toNat true) := ⟨_, rfl⟩
                           replace H : (fuglemanref19_Lay.l3 k6 l1 l2 true y202 x12_3 ((rd_T56 l1 x12_3).f1) (wrap64 (x17_6 + 1)) t192 t193 t194 t195) = some (r1, r2) := by first | (rw [hy202]; with_reducible exact H) | (have H2_ := (Option.bind_some _ _).symm.trans H; rw [hy202]; with_reducible exact H2_) | (have H2_ := (Option.bind_some _ _).symm.trans H; with_reducible exact H2_) | with_reducible exact H | (rw [hy202]; exact H) | exact H
                           have Ny202 := Aside0.mk hy202
                           clear hy202
                           have H' := Aside0.mk H
                           clear H
                           have z55 := bk4 BK197
                           obtain ⟨Ao56, co56, eo56⟩ := Kd.R_slice HO_10.out
                           subst eo56
                           have p201 : 0 ≤ (x17_6 : Int) := of_decide_eq_true (by first | (with_reducible assumption) | assumption)
                           have q201 : x17_6 < (x10_6.length : Int) := of_decide_eq_true (by first | (with_reducible assumption) | assumption)
                           obtain ⟨ad201, e201, hx201_0⟩ := Kd.at_bool (Kd.R_reads' HO_10.out).2.2 x17_6 p201 q201
                           (try rw [← Nbq50.out] at hx201_0)
                           cases e201
                           replace p201 := eq_true p201
                           replace q201 := eq_true q201
                           have p54 : 0 ≤ (x17_6 : Int) := of_decide_eq_true (by first | (with_reducible assumption) | assumption)
                           have q54 : (x17_6 : Int) < ((x10_6.length : Int) : Int) := of_decide_eq_true (by first | (with_reducible assumption) | assumption)
                           obtain ⟨go54, co54, eo54, gb54, gl54, cl54, HG54⟩ := Kd.R_form HO_10.out (by omega)
                           (first | cases eo54 | (injection eo54 with ea_ en_ ec_; (first | subst ea_ | (injection ea_ with ea_; subst ea_)); subst ec_; clear en_))
                           have GB54 := Aside0.mk gb54
                           have GG54 := Aside0.mk HG54
                           clear gb54 gl54 HG54
                           (first | simp only [add_plain] at hx201_0 | skip)
                           obtain ⟨hx54_0, hf54_0⟩ := Kd.R_celln false HO_10.out (x17_6 : Int) p54 q54
                           replace p54 := eq_true p54
                           replace q54 := eq_true q54
                           have HP57 := Kd.R_putg HO_10.out (x17_6 : Int) true
                           go_wp2_with (first | ((with_reducible refine gate_store (t := 4) (p := 120) rfl ?_); (try (rw [drewN_self wr]; generalize hq_ : World.drewN wr _ = wr; have n0_ := Aside0.mk (Kd.R_at hq_ HO_10.out); have n1_ := Aside0.mk (blk_at hq_ BK197.out); have n2_ := Aside0.mk (below_at hq_ HB.out); clear hq_ HO_10 BK197 HB; have HO_10 := n0_; have BK197 := n1_; have HB := n2_; clear n0_ n1_ n2_; (try (have HP57 := Kd.R_putg HO_10.out (x17_6 : Int) true)))); refine store_event (t := 4) (p := 120) (v := ?vo_w58) (w1 := (wr.setCell ⟨go54, (x17_6 : Int).toNat, none⟩ (.bool true))) ?hg ?ho ?hn ?hr ?_; (case ho => rfl); (case hg => rfl); (case hn => rfl); (case hr => first | (go_simp; done) | (go_simp; rfl)); intro w58 hw; have hg : wr.grownBy w58 (some go54) := (by rw [hw]; exact HP57.2); have hp_ : Kd.R Kd.bool 4 w58 w.heap.size (fun _ => True) (.slice (some ⟨go54, 0, none⟩) x10_6.length co56) y202 := (by rw [hw, Ny202.out]; exact HP57.1); clear HP57; replace BK197 := Aside0.mk (blk_grown (g := gb197) (o := .cells #[.int .i64 t192, .int .i64 t193, .int .i64 t194, .bool t195] 63 (0, 0)) (by (with_reducible repeat (first | refine blk_drewN ?_ _ | refine blk_drew ?_ | refine blk_alloc ?_ _)); exact BK197.out) hg (Kd.R_ne HO_10.out BK197.out (by decide))); replace HO_10 := Aside0.mk (hp_); replace HB := Aside0.mk ((by rw [hw]; exact below_set (HB.out) GB54.out : Below w.heap.size w w58)); clear hg hw hp_))
                           repeat (go_quiet (first | ((with_reducible refine gate_store (t := 4) (p := 120) rfl ?_); (try (rw [drewN_self wr]; generalize hq_ : World.drewN wr _ = wr; have n0_ := Aside0.mk (Kd.R_at hq_ HO_10.out); have n1_ := Aside0.mk (blk_at hq_ BK197.out); have n2_ := Aside0.mk (below_at hq_ HB.out); clear hq_ HO_10 BK197 HB; have HO_10 := n0_; have BK197 := n1_; have HB := n2_; clear n0_ n1_ n2_; (try (have HP57 := Kd.R_putg HO_10.out (x17_6 : Int) true)))); refine store_event (t := 4) (p := 120) (v := ?vo_w58) (w1 := (wr.setCell ⟨go54, (x17_6 : Int).toNat, none⟩ (.bool true))) ?hg ?ho ?hn ?hr ?_; (case ho => rfl); (case hg => rfl); (case hn => rfl); (case hr => first | (go_simp; done) | (go_simp; rfl)); intro w58 hw; have hg : wr.grownBy w58 (some go54) := (by rw [hw]; exact HP57.2); have hp_ : Kd.R Kd.bool 4 w58 w.heap.size (fun _ => True) (.slice (some ⟨go54, 0, none⟩) x10_6.length co56) y202 := (by rw [hw, Ny202.out]; exact HP57.1); clear HP57; replace BK197 := Aside0.mk (blk_grown (g := gb197) (o := .cells #[.int .i64 t192, .int .i64 t193, .int .i64 t194, .bool t195] 63 (0, 0)) (by (with_reducible repeat (first | refine blk_drewN ?_ _ | refine blk_drew ?_ | refine blk_alloc ?_ _)); exact BK197.out) hg (Kd.R_ne HO_10.out BK197.out (by decide))); replace HO_10 := Aside0.mk (hp_); replace HB := Aside0.mk ((by rw [hw]; exact below_set (HB.out) GB54.out : Below w.heap.size w w58)); clear hg hw hp_)); try go_wp2_with (first | ((with_reducible refine gate_store (t := 4) (p := 120) rfl ?_); (try (rw [drewN_self wr]; generalize hq_ : World.drewN wr _ = wr; have n0_ := Aside0.mk (Kd.R_at hq_ HO_10.out); have n1_ := Aside0.mk (blk_at hq_ BK197.out); have n2_ := Aside0.mk (below_at hq_ HB.out); clear hq_ HO_10 BK197 HB; have HO_10 := n0_; have BK197 := n1_; have HB := n2_; clear n0_ n1_ n2_; (try (have HP57 := Kd.R_putg HO_10.out (x17_6 : Int) true)))); refine store_event (t := 4) (p := 120) (v := ?vo_w58) (w1 := (wr.setCell ⟨go54, (x17_6 : Int).toNat, none⟩ (.bool true))) ?hg ?ho ?hn ?hr ?_; (case ho => rfl); (case hg => rfl); (case hn => rfl); (case hr => first | (go_simp; done) | (go_simp; rfl)); intro w58 hw; have hg : wr.grownBy w58 (some go54) := (by rw [hw]; exact HP57.2); have hp_ : Kd.R Kd.bool 4 w58 w.heap.size (fun _ => True) (.slice (some ⟨go54, 0, none⟩) x10_6.length co56) y202 := (by rw [hw, Ny202.out]; exact HP57.1); clear HP57; have n0_ := Aside0.mk (hp_); have n1_ := Aside0.mk (blk_grown (g := gb197) (o := .cells #[.int .i64 t192, .int .i64 t193, .int .i64 t194, .bool t195] 63 (0, 0)) (by (with_reducible repeat (first | refine blk_drewN ?_ _ | refine blk_drew ?_ | refine blk_alloc ?_ _)); exact BK197.out) hg (Kd.R_ne HO_10.out BK197.out (by decide))); have n2_ := Aside0.mk ((by rw [hw]; exact below_set (HB.out) GB54.out : Below w.heap.size w w58)); clear HO_10; clear BK197; clear HB; have HO_10 := n0_; have BK197 := n1_; have HB := n2_; clear n0_ n1_ n2_; clear hg hw hp_)))
                           go_roundg k6
                           case measure => have := HJ4.out; have := HK2.out; have := HK3.out; have := HK4.out; have := HJ38.out; have := HK6.out; omega
                           case rel => exact ⟨(y202), (wrap64 (x17_6 + 1)), (by first | rfl | (simp; done) | (simp [*]; done)), H', ⟨by have := HJ4.out; have := HK2.out; have := HK3.out; have := HK4.out; have := HJ38.out; have := HK6.out; omega⟩, (sR0 HO_10), (sK0 BK197), (sB0 HB)⟩
                         ·rw [if_neg c49] at H
                          exact absurd H (by simp)
                        ·rw [if_neg c48] at H
                         exact absurd H (by simp)
                       ·replace c47 := Bool.eq_false_iff.mpr c47
                        subst c47
                        rw [if_neg (show ¬ (false = true) by decide)] at H
                        by_cases c59 : 0 ≤ x17_6
                        ·rw [if_pos c59] at H
                         have c59b0 : decide (0 ≤ x17_6) = true := decide_eq_true c59
                         clear c59
                         by_cases c60 : x17_6 < (x10_6.length : Int)
                         ·rw [if_pos c60] at H
                          have c60b0 : decide (x17_6 < (x10_6.length : Int)) = true := decide_eq_true c60
                          clear c60
                          obtain ⟨y203, hy203⟩ : ∃ y_ : List Bool, y_ = (x10_6.set (x17_6 : Int).toNat true) := ⟨_, rfl⟩
                          replace H : (fuglemanref19_Lay.l3 k6 l1 l2 false y203 x12_3 ((rd_T56 l1 x12_3).f1) (wrap64 (x17_6 + 1)) t192 t193 t194 t195) = some (r1, r2) := by first | (rw [hy203]; with_reducible exact H) | (have H2_ := (Option.bind_some _ _).symm.trans H; rw [hy203]; with_reducible exact H2_) | (have H2_ := (Option.bind_some _ _).symm.trans H; with_reducible exact H2_) | with_reducible exact H | (rw [hy203]; exact H) | exact H
                          have Ny203 := Aside0.mk hy203
                          clear hy203
                          have H' := Aside0.mk H
                          clear H
                          have z62 := bk4 BK197
                          have p61 : 0 ≤ (x17_6 : Int) := of_decide_eq_true (by first | (with_reducible assumption) | assumption)
                          have q61 : (x17_6 : Int) < ((x10_6.length : Int) : Int) := of_decide_eq_true (by first | (with_reducible assumption) | assumption)
                          obtain ⟨go61, co61, eo61, gb61, gl61, cl61, HG61⟩ := Kd.R_form HO_10.out (by omega)
                          (first | cases eo61 | (injection eo61 with ea_ en_ ec_; (first | subst ea_ | (injection ea_ with ea_; subst ea_)); subst ec_; clear en_))
                          have GB61 := Aside0.mk gb61
                          have GG61 := Aside0.mk HG61
                          clear gb61 gl61 HG61
                          obtain ⟨hx61_0, hf61_0⟩ := Kd.R_celln false HO_10.out (x17_6 : Int) p61 q61
                          replace p61 := eq_true p61
                          replace q61 := eq_true q61
                          have HP63 := Kd.R_putg HO_10.out (x17_6 : Int) true
                          go_wp2_with (first | ((with_reducible refine gate_store (t := 4) (p := 120) rfl ?_); (try (rw [drewN_self wr]; generalize hq_ : World.drewN wr _ = wr; have n0_ := Aside0.mk (Kd.R_at hq_ HO_10.out); have n1_ := Aside0.mk (blk_at hq_ BK197.out); have n2_ := Aside0.mk (below_at hq_ HB.out); clear hq_ HO_10 BK197 HB; have HO_10 := n0_; have BK197 := n1_; have HB := n2_; clear n0_ n1_ n2_; (try (have HP63 := Kd.R_putg HO_10.out (x17_6 : Int) true)))); refine store_event (t := 4) (p := 120) (v := ?vo_w64) (w1 := (wr.setCell ⟨go61, (x17_6 : Int).toNat, none⟩ (.bool true))) ?hg ?ho ?hn ?hr ?_; (case ho => rfl); (case hg => rfl); (case hn => rfl); (case hr => first | (go_simp; done) | (go_simp; rfl)); intro w64 hw; have hg : wr.grownBy w64 (some go61) := (by rw [hw]; exact HP63.2); have hp_ : Kd.R Kd.bool 4 w64 w.heap.size (fun _ => True) (.slice (some ⟨go61, 0, none⟩) x10_6.length co61) y203 := (by rw [hw, Ny203.out]; exact HP63.1); clear HP63; replace BK197 := Aside0.mk (blk_grown (g := gb197) (o := .cells #[.int .i64 t192, .int .i64 t193, .int .i64 t194, .bool t195] 63 (0, 0)) (by (with_reducible repeat (first | refine blk_drewN ?_ _ | refine blk_drew ?_ | refine blk_alloc ?_ _)); exact BK197.out) hg (Kd.R_ne HO_10.out BK197.out (by decide))); replace HO_10 := Aside0.mk (hp_); replace HB := Aside0.mk ((by rw [hw]; exact below_set (HB.out) GB61.out : Below w.heap.size w w64)); clear hg hw hp_))
                          repeat (go_quiet (first | ((with_reducible refine gate_store (t := 4) (p := 120) rfl ?_); (try (rw [drewN_self wr]; generalize hq_ : World.drewN wr _ = wr; have n0_ := Aside0.mk (Kd.R_at hq_ HO_10.out); have n1_ := Aside0.mk (blk_at hq_ BK197.out); have n2_ := Aside0.mk (below_at hq_ HB.out); clear hq_ HO_10 BK197 HB; have HO_10 := n0_; have BK197 := n1_; have HB := n2_; clear n0_ n1_ n2_; (try (have HP63 := Kd.R_putg HO_10.out (x17_6 : Int) true)))); refine store_event (t := 4) (p := 120) (v := ?vo_w64) (w1 := (wr.setCell ⟨go61, (x17_6 : Int).toNat, none⟩ (.bool true))) ?hg ?ho ?hn ?hr ?_; (case ho => rfl); (case hg => rfl); (case hn => rfl); (case hr => first | (go_simp; done) | (go_simp; rfl)); intro w64 hw; have hg : wr.grownBy w64 (some go61) := (by rw [hw]; exact HP63.2); have hp_ : Kd.R Kd.bool 4 w64 w.heap.size (fun _ => True) (.slice (some ⟨go61, 0, none⟩) x10_6.length co61) y203 := (by rw [hw, Ny203.out]; exact HP63.1); clear HP63; replace BK197 := Aside0.mk (blk_grown (g := gb197) (o := .cells #[.int .i64 t192, .int .i64 t193, .int .i64 t194, .bool t195] 63 (0, 0)) (by (with_reducible repeat (first | refine blk_drewN ?_ _ | refine blk_drew ?_ | refine blk_alloc ?_ _)); exact BK197.out) hg (Kd.R_ne HO_10.out BK197.out (by decide))); replace HO_10 := Aside0.mk (hp_); replace HB := Aside0.mk ((by rw [hw]; exact below_set (HB.out) GB61.out : Below w.heap.size w w64)); clear hg hw hp_)); try go_wp2_with (first | ((with_reducible refine gate_store (t := 4) (p := 120) rfl ?_); (try (rw [drewN_self wr]; generalize hq_ : World.drewN wr _ = wr; have n0_ := Aside0.mk (Kd.R_at hq_ HO_10.out); have n1_ := Aside0.mk (blk_at hq_ BK197.out); have n2_ := Aside0.mk (below_at hq_ HB.out); clear hq_ HO_10 BK197 HB; have HO_10 := n0_; have BK197 := n1_; have HB := n2_; clear n0_ n1_ n2_; (try (have HP63 := Kd.R_putg HO_10.out (x17_6 : Int) true)))); refine store_event (t := 4) (p := 120) (v := ?vo_w64) (w1 := (wr.setCell ⟨go61, (x17_6 : Int).toNat, none⟩ (.bool true))) ?hg ?ho ?hn ?hr ?_; (case ho => rfl); (case hg => rfl); (case hn => rfl); (case hr => first | (go_simp; done) | (go_simp; rfl)); intro w64 hw; have hg : wr.grownBy w64 (some go61) := (by rw [hw]; exact HP63.2); have hp_ : Kd.R Kd.bool 4 w64 w.heap.size (fun _ => True) (.slice (some ⟨go61, 0, none⟩) x10_6.length co61) y203 := (by rw [hw, Ny203.out]; exact HP63.1); clear HP63; have n0_ := Aside0.mk (hp_); have n1_ := Aside0.mk (blk_grown (g := gb197) (o := .cells #[.int .i64 t192, .int .i64 t193, .int .i64 t194, .bool t195] 63 (0, 0)) (by (with_reducible repeat (first | refine blk_drewN ?_ _ | refine blk_drew ?_ | refine blk_alloc ?_ _)); exact BK197.out) hg (Kd.R_ne HO_10.out BK197.out (by decide))); have n2_ := Aside0.mk ((by rw [hw]; exact below_set (HB.out) GB61.out : Below w.heap.size w w64)); clear HO_10; clear BK197; clear HB; have HO_10 := n0_; have BK197 := n1_; have HB := n2_; clear n0_ n1_ n2_; clear hg hw hp_)))
                          go_roundg k6
                          case measure => have := HJ4.out; have := HK2.out; have := HK3.out; have := HK4.out; have := HJ38.out; have := HK6.out; omega
                          case rel => exact ⟨(y203), (wrap64 (x17_6 + 1)), (by first | rfl | (simp; done) | (simp [*]; done)), H', ⟨by have := HJ4.out; have := HK2.out; have := HK3.out; have := HK4.out; have := HJ38.out; have := HK6.out; omega⟩, (sR0 HO_10), (sK0 BK197), (sB0 HB)⟩
                         ·rw [if_neg c60] at H
                          exact absurd H (by simp)
                        ·rw [if_neg c59] at H
                         exact absurd H (by simp)
                      ·rw [if_neg c46] at H
                       have c46b0 : decide (x17_6 < (wrap64 (((rd_T56 l1 x12_3).f1) + t194))) = false := decide_eq_false c46
                       clear c46
                       have H' := Aside0.mk H
                       clear H
                       have z65 := bk4 BK197
                       go_wp2
                       repeat (go_quiet (fail); try go_wp2)
                       go_roundg k6
                       case measure => have := HJ4.out; have := HK2.out; have := HK3.out; have := HK4.out; have := HJ38.out; have := HK6.out; omega
                       case rel => exact ⟨(x10_6), (wrap64 (x12_3 + 1)), (by first | rfl | (simp; done) | (simp [*]; done)), H', ⟨by have := HJ4.out; have := HK2.out; have := HK3.out; have := HK4.out; have := HJ38.out; have := HK6.out; omega⟩, (sR0 HO_10), (sB0 HB)⟩
                ·rw [if_neg c38] at H
                 exact absurd H (by simp)
               ·rw [if_neg c37] at H
                exact absurd H (by simp)
           ·replace c27 := Bool.eq_false_iff.mpr c27
            subst c27
            rw [if_neg (show ¬ (false = true) by decide)] at H
            simp only [Option.some.injEq, Prod.mk.injEq] at H
            obtain ⟨rfl, rfl⟩ := H
            have p191 : 0 ≤ (x12_3 : Int) := of_decide_eq_true (by first | (with_reducible assumption) | assumption)
            have q191 : x12_3 < (l1.length : Int) := of_decide_eq_true (by first | (with_reducible assumption) | assumption)
            obtain ⟨ad191, e191, hx191_0, hx191_1⟩ := at_T56 HR1.out x12_3 p191 q191
            cases e191
            replace hx191_0 := (HB.out.cell (World.block_lt_of_cell? w _ hx191_0)).trans hx191_0
            replace hx191_1 := (HB.out.cell (World.block_lt_of_cell? w _ hx191_1)).trans hx191_1
            replace p191 := eq_true p191
            replace q191 := eq_true q191
            go_wp2_with (first | (go_at_call 34; (with_reducible refine (fuglemanref16_Find.calls k3 _ _ l2 ((rd_T56 l1 x12_3).f0) t192 t193 t194 t195 false _ ?side1 ?side2 A26.out).mono ?_); (case side1 => exact sC HR2 HB); (case side2 => exact HC2.out); rintro e w66 ⟨rfl, hb⟩; replace HO_10 := sR HO_10 hb; replace HB := sB HB hb; (try clear hb)) | ((with_reducible refine gate_dst (N := 13) rfl ?_); refine boxK (N := 13) (#[.int .i64 0, .int .i64 0, .int .i64 0, .bool false]) 63 ?_; intro gb197 hg w67 hbox hb; replace HO_10 := sR HO_10 hb; have BK197 := Aside0.mk (hbox); have GW197 := sG hg HB; have GE197 := sG hg HB; replace HB := sB HB hb; clear hb hbox hg; have z68 := bk4 BK197))
            repeat (go_quiet (first | (go_at_call 34; (with_reducible refine (fuglemanref16_Find.calls k3 _ _ l2 ((rd_T56 l1 x12_3).f0) t192 t193 t194 t195 false _ ?side1 ?side2 A26.out).mono ?_); (case side1 => exact sC HR2 HB); (case side2 => exact HC2.out); rintro e w66 ⟨rfl, hb⟩; replace HO_10 := sR HO_10 hb; replace HB := sB HB hb; (try clear hb)) | ((with_reducible refine gate_dst (N := 13) rfl ?_); refine boxK (N := 13) (#[.int .i64 0, .int .i64 0, .int .i64 0, .bool false]) 63 ?_; intro gb197 hg w67 hbox hb; replace HO_10 := sR HO_10 hb; have BK197 := Aside0.mk (hbox); have GW197 := sG hg HB; have GE197 := sG hg HB; replace HB := sB HB hb; clear hb hbox hg; have z68 := bk4 BK197)); try go_wp2_with (first | (go_at_call 34; (with_reducible refine (fuglemanref16_Find.calls k3 _ _ l2 ((rd_T56 l1 x12_3).f0) t192 t193 t194 t195 false _ ?side1 ?side2 A26.out).mono ?_); (case side1 => exact sC HR2 HB); (case side2 => exact HC2.out); rintro e w66 ⟨rfl, hb⟩; have n0_ := sR HO_10 hb; have n1_ := sB HB hb; clear HO_10; clear HB; have HO_10 := n0_; have HB := n1_; clear n0_ n1_; (try clear hb); (try clear hb2); (try clear hk); (try clear hi)) | ((with_reducible refine gate_dst (N := 13) rfl ?_); refine boxK (N := 13) (#[.int .i64 0, .int .i64 0, .int .i64 0, .bool false]) 63 ?_; intro gb197 hg w67 hbox hb; have n0_ := sR HO_10 hb; have n1_ := sB HB hb; have n2_ := Aside0.mk (hbox); have n3_ := sG hg HB; have n4_ := sG hg HB; clear HO_10; clear HB; have HO_10 := n0_; have HB := n1_; have BK197 := n2_; have GW197 := n3_; have GE197 := n4_; clear n0_ n1_ n2_ n3_ n4_; clear hb hbox hg; have z68_0 : w67.cell? ⟨gb197, 0, none⟩ = some (.int .i64 0) := sc BK197 0; have z68_1 : w67.cell? ⟨gb197, 1, none⟩ = some (.int .i64 0) := sc BK197 1; have z68_2 : w67.cell? ⟨gb197, 2, none⟩ = some (.int .i64 0) := sc BK197 2; have z68_3 : w67.cell? ⟨gb197, 3, none⟩ = some (.bool false) := sc BK197 3; have q68_0 := blk_frozen BK197.out 0; have q68_1 := blk_frozen BK197.out 1; have q68_2 := blk_frozen BK197.out 2; have q68_3 := blk_frozen BK197.out 3)))
            go_ret2
            exact sEnd HB
          ·rw [if_neg c25] at H
           exact absurd H (by simp)
         ·rw [if_neg c24] at H
          have c24b0 : decide (x12_3 < (l1.length : Int)) = false := decide_eq_false c24
          clear c24
          simp only [Option.some.injEq, Prod.mk.injEq] at H
          obtain ⟨rfl, rfl⟩ := H
          go_wp2
          repeat (go_quiet (fail); try go_wp2)
          go_ret2
          exact sEnd HB
   ·rw [if_neg c9] at H
    exact absurd H (by simp)

end Go.Proofs.Ytedmikeamgebjaa.R
