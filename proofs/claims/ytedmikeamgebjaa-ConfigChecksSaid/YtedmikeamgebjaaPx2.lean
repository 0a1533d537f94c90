-- Written by a program out of the translation; not trusted: Lean checks it.
import Derived.Test.YtedmikeamgebjaaK
import Derived.Test.YtedmikeamgebjaaPx0
import Derived.Test.YtedmikeamgebjaaPx1
namespace Go.Proofs.Ytedmikeamgebjaa.P
open Go.Proofs.YtedmikeamgebjaaW.PrintK Go.RowKit Go.Proofs.YtedmikeamgebjaaW.PrintWords Go.Proofs.YtedmikeamgebjaaW.PrintLast Go.Proofs.YtedmikeamgebjaaW.PrintMore
attribute [local go_sem] max2_int min2_int max_two min_two max_three min_three max_four min_four   -- for this text's walks alone
set_option linter.unusedVariables false
set_option linter.unusedSimpArgs false

/-! ### fuglemanref14_All: function 42 -/
mutual
def fuglemanref14_All.l0 : Nat → List (S54) → Int → List (S90) → Int → Option ((List (S90)) × Int × Int)
 | 0, _, _, _, _ => none
 | k + 1, x0, x5, x6, x7 => if x7 < x5 then (if 0 ≤ x7 then (if x7 < (x0.length : Int) then ((fuglemanref12_Right.f ((rd_T54 x0 x7).f0) ((rd_T54 x0 x7).f1) ((rd_T54 x0 x7).f2) ((rd_T54 x0 x7).f3) ((rd_T54 x0 x7).f4)).bind fun t112 => (if t112 = true then (if x7 < (x6.length : Int) then (if ((rd_T90 x6 x7).f0 = true) then ((fuglemanref14_behind.f ((rd_T54 x0 x7).f0) ((rd_T54 x0 x7).f1) ((rd_T54 x0 x7).f2) ((rd_T54 x0 x7).f3) ((rd_T54 x0 x7).f4) x7 x5 ((rd_T90 x6 x7).f0) ((rd_T90 x6 x7).f1) ((rd_T90 x6 x7).f2)).bind fun bt115 => (if bt115.2.2.2 = 0 then (if ((rd_T54 x0 x7).f0) = 25 then (fuglemanref14_All.j1 k x0 x5 x6 x7 true false ((rd_T54 x0 x7).f0) ((rd_T54 x0 x7).f1) ((rd_T54 x0 x7).f2) ((rd_T54 x0 x7).f3) ((rd_T54 x0 x7).f4) bt115.1 bt115.2.1 bt115.2.2.1) else (fuglemanref14_All.j1 k x0 x5 x6 x7 true (((rd_T54 x0 x7).f0) != 28) ((rd_T54 x0 x7).f0) ((rd_T54 x0 x7).f1) ((rd_T54 x0 x7).f2) ((rd_T54 x0 x7).f3) ((rd_T54 x0 x7).f4) bt115.1 bt115.2.1 bt115.2.2.1)) else (some (([] : List (S90)), bt115.2.2.2, x7)))) else (fuglemanref14_All.l0 k x0 x5 x6 (wrap64 (x7 + 1)))) else (none)) else (some (([] : List (S90)), 3, x7)))) else (none)) else (none)) else (if 0 ≤ x5 then (if x5 < (x6.length : Int) then (if (rd_T90 x6 x5).f0 = true then (if ((rd_T90 x6 x5).f2).toList = ([] : List UInt8) then (some (x6, 0, 0)) else (some (([] : List (S90)), 3, x5))) else (some (x6, 0, 0))) else (none)) else (none))
def fuglemanref14_All.j1 : Nat → List (S54) → Int → List (S90) → Int → Bool → Bool → Int → Int → Int → Int → Int → Bool → Int → ByteArray → Option ((List (S90)) × Int × Int)
 | 0, _, _, _, _, _, _, _, _, _, _, _, _, _, _ => none
 | k + 1, x0, x5, x6, x7, x11, x64, x112000, x112001, x112002, x112003, x112004, x120000, x120001, x120002 => if x64 = true then (if 0 ≤ (wrap64 (x7 + 1)) then (if (wrap64 (x7 + 1)) < (x6.length : Int) then ((fuglemanref14_join.f ((rd_T90 x6 (wrap64 (x7 + 1))).f0) ((rd_T90 x6 (wrap64 (x7 + 1))).f1) ((rd_T90 x6 (wrap64 (x7 + 1))).f2) x120000 x120001 x120002).bind fun bt121 => (fuglemanref14_All.j2 k x0 x5 (x6.set ((wrap64 (x7 + 1)) : Int).toNat (⟨bt121.1, bt121.2.1, bt121.2.2.1⟩ : S90)) x7 bt121.2.2.2 x112000 x112001 x112002 x112003 x112004 x120000 x120001 x120002)) else (none)) else (none)) else (fuglemanref14_All.j2 k x0 x5 x6 x7 x11 x112000 x112001 x112002 x112003 x112004 x120000 x120001 x120002)
def fuglemanref14_All.j2 : Nat → List (S54) → Int → List (S90) → Int → Bool → Int → Int → Int → Int → Int → Bool → Int → ByteArray → Option ((List (S90)) × Int × Int)
 | 0, _, _, _, _, _, _, _, _, _, _, _, _, _ => none
 | k + 1, x0, x5, x6, x7, x11, x112000, x112001, x112002, x112003, x112004, x120000, x120001, x120002 => if x11 = true then (if x112000 ≥ 25 then (fuglemanref14_All.j3 k x0 x5 x6 x7 x11 (decide (x112000 ≤ 27)) x112000 x112001 x112002 x112003 x112004 x120000 x120001 x120002) else (fuglemanref14_All.j3 k x0 x5 x6 x7 x11 false x112000 x112001 x112002 x112003 x112004 x120000 x120001 x120002)) else (fuglemanref14_All.j3 k x0 x5 x6 x7 x11 false x112000 x112001 x112002 x112003 x112004 x120000 x120001 x120002)
def fuglemanref14_All.j3 : Nat → List (S54) → Int → List (S90) → Int → Bool → Bool → Int → Int → Int → Int → Int → Bool → Int → ByteArray → Option ((List (S90)) × Int × Int)
 | 0, _, _, _, _, _, _, _, _, _, _, _, _, _, _ => none
 | k + 1, x0, x5, x6, x7, x11, x89, x112000, x112001, x112002, x112003, x112004, x120000, x120001, x120002 => if x89 = true then (if 0 ≤ x112003 then (if x112003 < (x6.length : Int) then ((fuglemanref14_join.f ((rd_T90 x6 x112003).f0) ((rd_T90 x6 x112003).f1) ((rd_T90 x6 x112003).f2) x120000 x120001 x120002).bind fun bt127 => (if bt127.2.2.2 = true then (fuglemanref14_All.l0 k x0 x5 (x6.set (x112003 : Int).toNat (⟨bt127.1, bt127.2.1, bt127.2.2.1⟩ : S90)) (wrap64 (x7 + 1))) else (some (([] : List (S90)), 7, x7)))) else (none)) else (none)) else (if x11 = true then (fuglemanref14_All.l0 k x0 x5 x6 (wrap64 (x7 + 1))) else (some (([] : List (S90)), 7, x7)))
end
def fuglemanref14_All.f (k : Nat) (l0 : List (S54)) : Option ((List (S90)) × Int × Int) := if (l0.length : Int) > 200 then (some (([] : List (S90)), 2, 200)) else (if 0 ≤ (wrap64 ((l0.length : Int) + 1)) then (if (wrap64 ((l0.length : Int) + 1) : Int).toNat ≤ 8796093022208 then ((some (List.replicate (wrap64 ((l0.length : Int) + 1) : Int).toNat z90 : List (S90))).bind fun y104 => (if 0 < (y104.length : Int) then (fuglemanref14_All.l0 k l0 (l0.length : Int) (y104.set (0 : Int).toNat (⟨true, (rd_T90 y104 0).f1, (rd_T90 y104 0).f2⟩ : S90)) 0) else (none))) else (none)) else (none))
theorem fuglemanref14_All.mono_l : ∀ k, (∀ y0 y1 y2 y3, LeO (fuglemanref14_All.l0 k y0 y1 y2 y3) (fuglemanref14_All.l0 (k + 1) y0 y1 y2 y3)) ∧ (∀ y0 y1 y2 y3 y4 y5 y6 y7 y8 y9 y10 y11 y12 y13, LeO (fuglemanref14_All.j1 k y0 y1 y2 y3 y4 y5 y6 y7 y8 y9 y10 y11 y12 y13) (fuglemanref14_All.j1 (k + 1) y0 y1 y2 y3 y4 y5 y6 y7 y8 y9 y10 y11 y12 y13)) ∧ (∀ y0 y1 y2 y3 y4 y5 y6 y7 y8 y9 y10 y11 y12, LeO (fuglemanref14_All.j2 k y0 y1 y2 y3 y4 y5 y6 y7 y8 y9 y10 y11 y12) (fuglemanref14_All.j2 (k + 1) y0 y1 y2 y3 y4 y5 y6 y7 y8 y9 y10 y11 y12)) ∧ (∀ y0 y1 y2 y3 y4 y5 y6 y7 y8 y9 y10 y11 y12 y13, LeO (fuglemanref14_All.j3 k y0 y1 y2 y3 y4 y5 y6 y7 y8 y9 y10 y11 y12 y13) (fuglemanref14_All.j3 (k + 1) y0 y1 y2 y3 y4 y5 y6 y7 y8 y9 y10 y11 y12 y13))
 | 0 => ⟨fun _ _ _ _ r h => by simp [fuglemanref14_All.l0] at h, fun _ _ _ _ _ _ _ _ _ _ _ _ _ _ r h => by simp [fuglemanref14_All.j1] at h, fun _ _ _ _ _ _ _ _ _ _ _ _ _ r h => by simp [fuglemanref14_All.j2] at h, fun _ _ _ _ _ _ _ _ _ _ _ _ _ _ r h => by simp [fuglemanref14_All.j3] at h⟩
 | k + 1 => by
  obtain ⟨ih0, ih1, ih2, ih3⟩ := fuglemanref14_All.mono_l k
  refine ⟨?_, ?_, ?_, ?_⟩
  ·intro y0 y1 y2 y3
   unfold fuglemanref14_All.l0
   repeat' first
   | (with_reducible exact ih0 _ _ _ _)
   | (with_reducible exact ih1 _ _ _ _ _ _ _ _ _ _ _ _ _ _)
   | (with_reducible exact ih2 _ _ _ _ _ _ _ _ _ _ _ _ _)
   | (with_reducible exact ih3 _ _ _ _ _ _ _ _ _ _ _ _ _ _)
   | (with_reducible exact LeO.refl _)
   | (with_reducible exact LeO.none _)
   | (with_reducible refine LeO.ite ?_ ?_)
   | (with_reducible refine LeO.bind ?_ (fun _ => ?_))
   | exact ih0 _ _ _ _
   | exact ih1 _ _ _ _ _ _ _ _ _ _ _ _ _ _
   | exact ih2 _ _ _ _ _ _ _ _ _ _ _ _ _
   | exact ih3 _ _ _ _ _ _ _ _ _ _ _ _ _ _
   | exact LeO.none _
   | refine LeO.ite ?_ ?_
   | refine LeO.bind ?_ (fun _ => ?_)
  ·intro y0 y1 y2 y3 y4 y5 y6 y7 y8 y9 y10 y11 y12 y13
   unfold fuglemanref14_All.j1
   repeat' first
   | (with_reducible exact ih0 _ _ _ _)
   | (with_reducible exact ih1 _ _ _ _ _ _ _ _ _ _ _ _ _ _)
   | (with_reducible exact ih2 _ _ _ _ _ _ _ _ _ _ _ _ _)
   | (with_reducible exact ih3 _ _ _ _ _ _ _ _ _ _ _ _ _ _)
   | (with_reducible exact LeO.refl _)
   | (with_reducible exact LeO.none _)
   | (with_reducible refine LeO.ite ?_ ?_)
   | (with_reducible refine LeO.bind ?_ (fun _ => ?_))
   | exact ih0 _ _ _ _
   | exact ih1 _ _ _ _ _ _ _ _ _ _ _ _ _ _
   | exact ih2 _ _ _ _ _ _ _ _ _ _ _ _ _
   | exact ih3 _ _ _ _ _ _ _ _ _ _ _ _ _ _
   | exact LeO.none _
   | refine LeO.ite ?_ ?_
   | refine LeO.bind ?_ (fun _ => ?_)
  ·intro y0 y1 y2 y3 y4 y5 y6 y7 y8 y9 y10 y11 y12
   unfold fuglemanref14_All.j2
   repeat' first
   | (with_reducible exact ih0 _ _ _ _)
   | (with_reducible exact ih1 _ _ _ _ _ _ _ _ _ _ _ _ _ _)
   | (with_reducible exact ih2 _ _ _ _ _ _ _ _ _ _ _ _ _)
   | (with_reducible exact ih3 _ _ _ _ _ _ _ _ _ _ _ _ _ _)
   | (with_reducible exact LeO.refl _)
   | (with_reducible exact LeO.none _)
   | (with_reducible refine LeO.ite ?_ ?_)
   | (with_reducible refine LeO.bind ?_ (fun _ => ?_))
   | exact ih0 _ _ _ _
   | exact ih1 _ _ _ _ _ _ _ _ _ _ _ _ _ _
   | exact ih2 _ _ _ _ _ _ _ _ _ _ _ _ _
   | exact ih3 _ _ _ _ _ _ _ _ _ _ _ _ _ _
   | exact LeO.none _
   | refine LeO.ite ?_ ?_
   | refine LeO.bind ?_ (fun _ => ?_)
  ·intro y0 y1 y2 y3 y4 y5 y6 y7 y8 y9 y10 y11 y12 y13
   unfold fuglemanref14_All.j3
   repeat' first
   | (with_reducible exact ih0 _ _ _ _)
   | (with_reducible exact ih1 _ _ _ _ _ _ _ _ _ _ _ _ _ _)
   | (with_reducible exact ih2 _ _ _ _ _ _ _ _ _ _ _ _ _)
   | (with_reducible exact ih3 _ _ _ _ _ _ _ _ _ _ _ _ _ _)
   | (with_reducible exact LeO.refl _)
   | (with_reducible exact LeO.none _)
   | (with_reducible refine LeO.ite ?_ ?_)
   | (with_reducible refine LeO.bind ?_ (fun _ => ?_))
   | exact ih0 _ _ _ _
   | exact ih1 _ _ _ _ _ _ _ _ _ _ _ _ _ _
   | exact ih2 _ _ _ _ _ _ _ _ _ _ _ _ _
   | exact ih3 _ _ _ _ _ _ _ _ _ _ _ _ _ _
   | exact LeO.none _
   | refine LeO.ite ?_ ?_
   | refine LeO.bind ?_ (fun _ => ?_)
theorem fuglemanref14_All.mono : ∀ a0 k, LeO (fuglemanref14_All.f k a0) (fuglemanref14_All.f (k + 1) a0) := by
 intro a0 k
 obtain ⟨ih0, ih1, ih2, ih3⟩ := fuglemanref14_All.mono_l k
 unfold fuglemanref14_All.f
 repeat' first
   | (with_reducible exact ih0 _ _ _ _)
   | (with_reducible exact ih1 _ _ _ _ _ _ _ _ _ _ _ _ _ _)
   | (with_reducible exact ih2 _ _ _ _ _ _ _ _ _ _ _ _ _)
   | (with_reducible exact ih3 _ _ _ _ _ _ _ _ _ _ _ _ _ _)
   | (with_reducible exact LeO.refl _)
   | (with_reducible exact LeO.none _)
   | (with_reducible refine LeO.ite ?_ ?_)
   | (with_reducible refine LeO.bind ?_ (fun _ => ?_))
   | exact ih0 _ _ _ _
   | exact ih1 _ _ _ _ _ _ _ _ _ _ _ _ _ _
   | exact ih2 _ _ _ _ _ _ _ _ _ _ _ _ _
   | exact ih3 _ _ _ _ _ _ _ _ _ _ _ _ _ _
   | exact LeO.none _
   | refine LeO.ite ?_ ?_
   | refine LeO.bind ?_ (fun _ => ?_)
def fuglemanref14_All.T13 : Bool × List (List Nat × List Nat) := (true, [([], []), ([], []), ([], []), ([], []), ([], []), ([3, 4], [3, 4]), ([5], [5]), ([0, 1, 2, 6], [0, 1, 2, 6]), ([7], [7]), ([8], [8]), ([8], [8]), ([], []), ([11, 9, 7, 0, 1, 2, 3, 4, 5, 6, 7, 8, 9, 11], [9, 11]), ([10, 12, 0, 1, 2, 3, 4, 5, 6, 7, 8, 9, 10, 11, 12], [10])])
def fuglemanref14_All.B13 : List Nat := [0, 0, 0, 0, 0, 24, 56, 127, 255, 511, 511, 0, 3071, 8191]
theorem fuglemanref14_All.tab13 : rtab .any (opsOf Try.f42 13) = fuglemanref14_All.T13 := by kernel_rfl
theorem fuglemanref14_All.bits13 : waitsOk fuglemanref14_All.T13.2 fuglemanref14_All.B13 = true := by kernel_rfl
def fuglemanref14_All.T18 : Bool × List (List Nat × List Nat) := (true, [([], []), ([], []), ([1], [1]), ([], []), ([], []), ([4], [4]), ([3, 5], [3, 5]), ([6], [6]), ([], []), ([7, 8], [7, 8]), ([9], [9]), ([10], [10]), ([10], [10]), ([0, 2, 0, 1, 2, 3, 4, 5, 6, 7, 8, 9, 10, 11], [0, 2]), ([13, 11, 9, 0, 1, 2, 3, 4, 5, 6, 7, 8, 9, 10, 11], [11, 13]), ([12, 14, 0, 1, 2, 3, 4, 5, 6, 7, 8, 9, 10, 11, 12, 13, 14], [12])])
def fuglemanref14_All.B18 : List Nat := [0, 0, 2, 0, 0, 16, 56, 120, 0, 504, 1016, 2040, 2040, 4095, 12287, 32767]
theorem fuglemanref14_All.tab18 : rtab .any (opsOf Try.f42 18) = fuglemanref14_All.T18 := by kernel_rfl
theorem fuglemanref14_All.bits18 : waitsOk fuglemanref14_All.T18.2 fuglemanref14_All.B18 = true := by kernel_rfl
def fuglemanref14_All.T20 : Bool × List (List Nat × List Nat) := (true, [([], []), ([], []), ([1], [1]), ([], []), ([], []), ([4], [4]), ([3, 5], [3, 5]), ([6], [6]), ([], []), ([7, 8], [7, 8]), ([9], [9]), ([10], [10]), ([10], [10]), ([0, 2, 0, 1, 2, 3, 4, 5, 6, 7, 8, 9, 10, 11], [0, 2]), ([13, 11, 9, 0, 1, 2, 3, 4, 5, 6, 7, 8, 9, 10, 11], [11, 13]), ([12, 14, 0, 1, 2, 3, 4, 5, 6, 7, 8, 9, 10, 11, 12, 13, 14], [12])])
def fuglemanref14_All.B20 : List Nat := [0, 0, 2, 0, 0, 16, 56, 120, 0, 504, 1016, 2040, 2040, 4095, 12287, 32767]
theorem fuglemanref14_All.tab20 : rtab .any (opsOf Try.f42 20) = fuglemanref14_All.T20 := by kernel_rfl
theorem fuglemanref14_All.bits20 : waitsOk fuglemanref14_All.T20.2 fuglemanref14_All.B20 = true := by kernel_rfl
set_option maxHeartbeats 8000000 in
set_option maxRecDepth 100000 in
theorem fuglemanref14_All.calls (k : Nat) (A0 : Option Addr) (c0 : Nat) (l0 : List (S54)) (r1 : List (S90)) (r2 : Int) (r3 : Int) (w : World) (hr0 : Kd.C k54 w A0 l0.length l0) (hc0 : l0.length ≤ c0) (h : fuglemanref14_All.f k l0 = some (r1, r2, r3)) :
  Calls Try.prog 42 #[.slice A0 l0.length c0] w fun e w' => ∃ v0_ : Value, e = .returned (.tuple #[v0_, .int .i64 r2, .int .i64 r3]) ∧ Kd.R k90 90 w' w.heap.size (fun _ => True) v0_ r1 ∧ Below w.heap.size w w' := by
 have hu54 := Try.underlying54
 have hu90 := Try.underlying90
 have HR0 := Aside0.mk hr0
 have HC0 := Aside0.mk hc0
 clear hr0 hc0
 have HB := Aside0.mk (Below.refl w.heap.size w)
 have H : (if (l0.length : Int) > 200 then (some (([] : List (S90)), 2, 200)) else (if 0 ≤ (wrap64 ((l0.length : Int) + 1)) then (if (wrap64 ((l0.length : Int) + 1) : Int).toNat ≤ 8796093022208 then ((some (List.replicate (wrap64 ((l0.length : Int) + 1) : Int).toNat z90 : List (S90))).bind fun y104 => (if 0 < (y104.length : Int) then (fuglemanref14_All.l0 k l0 (l0.length : Int) (y104.set (0 : Int).toNat (⟨true, (rd_T90 y104 0).f1, (rd_T90 y104 0).f2⟩ : S90)) 0) else (none))) else (none)) else (none))) = some (r1, r2, r3) := h
 clear h
 by_cases c2 : (l0.length : Int) > 200
 ·rw [if_pos c2] at H
  have c2b0 : decide (200 < (l0.length : Int)) = true := decide_eq_true c2
  have c2b1 : decide (200 < l0.length) = true := decide_eq_true (by omega)
  clear c2
  simp only [Option.some.injEq, Prod.mk.injEq] at H
  obtain ⟨rfl, rfl, rfl⟩ := H
  go_enter Try.func42, Try.ntmps42
  go_wp2
  go_ret3
  exact ⟨_, by first | rfl | (simp [errW_none, errW_some] <;> rfl) | (simp [*, errW_none, errW_some] <;> rfl), by first | exact Kd.R_nil _ _ _ _ _ | exact Kd.N_nil _ _ _ _ _ | exact Kd.V_nil _ _ _ _ _ | exact Kd.Q_nil _ _ _ _ _ | exact Kd.S_nil _ _ _ _ _, by repeat (first | (with_reducible first | exact HB.out | apply below_alloc | apply pw_below_drewN | apply below_drew1 | refine below_set ?_ (Aside0.out (by assumption))) | exact HB.out)⟩
 rw [if_neg c2] at H
 have c2b0 : decide (200 < (l0.length : Int)) = false := decide_eq_false c2
 have c2b1 : decide (200 < l0.length) = false := decide_eq_false (by omega)
 clear c2
 obtain ⟨ji3, hji3⟩ : ∃ j_ : Int, (wrap64 ((l0.length : Int) + 1)) = j_ := ⟨_, rfl⟩
 replace H : (if 0 ≤ (ji3) then (if (ji3 : Int).toNat ≤ 8796093022208 then ((some (List.replicate (ji3 : Int).toNat z90 : List (S90))).bind fun y104 => (if 0 < (y104.length : Int) then (fuglemanref14_All.l0 k l0 (l0.length : Int) (y104.set (0 : Int).toNat (⟨true, (rd_T90 y104 0).f1, (rd_T90 y104 0).f2⟩ : S90)) 0) else (none))) else (none)) else (none)) = some (r1, r2, r3) := by first | (rw [hji3] at H; exact H) | (simp only [hji3] at H ⊢; exact H)
 have hji3w : (IntKind.i64.wrap ((l0.length : Int) + 1)) = ji3 := (i64_w _).trans hji3
 by_cases c4 : 0 ≤ (ji3)
 case neg =>
  rw [if_neg c4] at H
  exact absurd H (by simp)
 rw [if_pos c4] at H
 have c4b0 := eq_true c4
 have c4b1 : decide (0 ≤ (ji3)) = true := decide_eq_true c4
 clear c4
 by_cases c5 : (ji3 : Int).toNat ≤ 8796093022208
 case neg =>
  rw [if_neg c5] at H
  exact absurd H (by simp)
 rw [if_pos c5] at H
 have c5b0 := eq_true c5
 have c5b1 : decide ((ji3 : Int).toNat ≤ 8796093022208) = true := decide_eq_true c5
 clear c5
 obtain ⟨y104, hy104⟩ : ∃ y_ : List (S90), y_ = (List.replicate (ji3 : Int).toNat z90) := ⟨_, rfl⟩
 replace H : (if 0 < (y104.length : Int) then (fuglemanref14_All.l0 k l0 (l0.length : Int) (y104.set (0 : Int).toNat (⟨true, (rd_T90 y104 0).f1, (rd_T90 y104 0).f2⟩ : S90)) 0) else (none)) = some (r1, r2, r3) := by first | (rw [hy104]; with_reducible exact H) | (have H2_ := (Option.bind_some _ _).symm.trans H; rw [hy104]; with_reducible exact H2_) | (have H2_ := (Option.bind_some _ _).symm.trans H; with_reducible exact H2_) | with_reducible exact H | (rw [hy104]; exact H) | exact H
 have Ny104 := Aside0.mk hy104
 clear hy104
 by_cases c6 : 0 < (y104.length : Int)
 case neg =>
  rw [if_neg c6] at H
  exact absurd H (by simp)
 rw [if_pos c6] at H
 have c6b0 : decide (0 < (y104.length : Int)) = true := decide_eq_true c6
 have c6b1 : decide (0 < y104.length) = true := decide_eq_true (by omega)
 clear c6
 obtain ⟨y107, hy107⟩ : ∃ y_ : List (S90), y_ = (y104.set (0 : Int).toNat (⟨true, (rd_T90 y104 0).f1, (rd_T90 y104 0).f2⟩ : S90)) := ⟨_, rfl⟩
 replace H : (fuglemanref14_All.l0 k l0 (l0.length : Int) y107 0) = some (r1, r2, r3) := by first | (rw [hy107]; with_reducible exact H) | (have H2_ := (Option.bind_some _ _).symm.trans H; rw [hy107]; with_reducible exact H2_) | (have H2_ := (Option.bind_some _ _).symm.trans H; with_reducible exact H2_) | with_reducible exact H | (rw [hy107]; exact H) | exact H
 have Ny107 := Aside0.mk hy107
 clear hy107
 have H' := Aside0.mk H
 clear H
 go_enter Try.func42, Try.ntmps42
 go_wp2_with (first | ((with_reducible refine gate_dst (N := 19) rfl ?_); refine Kd.R_make k90 _ 90 rfl (N := 19) rfl 73 _ _ rfl ji3 rfl rfl Try.underlying73 (.agg #[(.bool false), (.int .i64 0), (.string ⟨#[]⟩)]) 32 info90 rfl (by decide) (by omega) z90 (ok := fun _ => True) (okp := fun _ => True) (k90_mkM _ _ _ z90 ) (fun _ hk => hk) trivial (of_decide_eq_true (by first | (with_reducible assumption) | assumption)) (Nat.le_trans (Nat.mul_le_mul_right _ (of_decide_eq_true (by first | (with_reducible assumption) | assumption) : ji3.toNat ≤ 8796093022208)) (by omega)) (Below.refl _ _) (Nat.le_refl _) ?_; intro v105 w8 ho9 hb hg_ hnew_; clear hg_ hnew_; (first | rw [← Ny104.out] at ho9 | (simp only [Int.reduceToNat] at ho9; rw [← Ny104.out] at ho9)); have HO106 := Aside0.mk (Kd.R_lower ho9 (below_size (by repeat (first | (with_reducible first | exact HB.out | apply below_alloc | apply pw_below_drewN | apply below_drew1 | refine below_set ?_ (Aside0.out (by assumption))) | exact HB.out)))); replace HB := sB HB hb; clear hb ho9; have p7 : 0 ≤ (0 : Int) := (by omega); have q7 : (0 : Int) < ((y104.length : Int) : Int) := of_decide_eq_true (by first | (with_reducible assumption) | assumption); have qi7 : (0 < y104.length) = True := eq_true (by omega); obtain ⟨go7, co7, eo7, gb7, gl7, cl7, HG7⟩ := Kd.R_form HO106.out (by omega); (first | cases eo7 | (injection eo7 with ea_ en_ ec_; (first | subst ea_ | (injection ea_ with ea_; subst ea_)); subst ec_; clear en_)); have GB7 := Aside0.mk gb7; have GG7 := Aside0.mk HG7; clear gb7 gl7 HG7; obtain ⟨ce7, hcl7, hM7, hcc7, hfr7⟩ := Kd.R_elem HO106.out z90 (0 : Int) p7 q7; obtain rfl := k90_openM hM7; have hx7_0 : w8.cell? ⟨go7, (0 : Int).toNat * 3, none⟩ = some (.bool ((rd_T90 y104 0).f0)) := hcc7 0 _ rfl; have hx7_1 : w8.cell? ⟨go7, (0 : Int).toNat * 3 + 1, none⟩ = some (.int .i64 ((rd_T90 y104 0).f1)) := hcc7 1 _ rfl; have hx7_2 : w8.cell? ⟨go7, (0 : Int).toNat * 3 + 2, none⟩ = some (.string ((rd_T90 y104 0).f2)) := hcc7 2 _ rfl; have hf7_0 : w8.frozen? ⟨go7, (0 : Int).toNat * 3, none⟩ = false := hfr7 0; have hf7_1 : w8.frozen? ⟨go7, (0 : Int).toNat * 3 + 1, none⟩ = false := hfr7 1; have hf7_2 : w8.frozen? ⟨go7, (0 : Int).toNat * 3 + 2, none⟩ = false := hfr7 2; clear hcl7 hcc7 hfr7 hM7; (try rw [show ((0 : Int)).toNat = 0 from rfl] at hx7_0); (try simp only [Nat.reduceMul, Nat.zero_mul, Nat.zero_add, Nat.reduceAdd] at hx7_0); (try rw [show ((0 : Int)).toNat = 0 from rfl] at hf7_0); (try simp only [Nat.reduceMul, Nat.zero_mul, Nat.zero_add, Nat.reduceAdd] at hf7_0); (try rw [show ((0 : Int)).toNat = 0 from rfl] at hx7_1); (try simp only [Nat.reduceMul, Nat.zero_mul, Nat.zero_add, Nat.reduceAdd] at hx7_1); (try rw [show ((0 : Int)).toNat = 0 from rfl] at hf7_1); (try simp only [Nat.reduceMul, Nat.zero_mul, Nat.zero_add, Nat.reduceAdd] at hf7_1); (try rw [show ((0 : Int)).toNat = 0 from rfl] at hx7_2); (try simp only [Nat.reduceMul, Nat.zero_mul, Nat.zero_add, Nat.reduceAdd] at hx7_2); (try rw [show ((0 : Int)).toNat = 0 from rfl] at hf7_2); (try simp only [Nat.reduceMul, Nat.zero_mul, Nat.zero_add, Nat.reduceAdd] at hf7_2); replace p7 := eq_true p7; replace q7 := eq_true q7; have HX10 := Aside0.mk (show Kd.R k90 90 w8 w.heap.size (fun _ => True) (.slice (some ⟨go7, 0, none⟩) y104.length co7) y104 from (by (with_reducible repeat (first | apply Kd.R_alloc | apply Kd.R_drewN | apply Kd.R_drew)); exact HO106.out)); obtain ⟨ce10, hcl10, hM10, hcc10, hfr10⟩ := Kd.R_elem HX10.out z90 (0 : Int) (by omega) (by have h_ : (0 : Int) < ((y104.length : Int) : Int) := of_decide_eq_true (by first | (with_reducible assumption) | assumption); first | exact h_ | (have e_ := (Kd.R_reads' HO106.out).1; omega) | simpa using h_); obtain rfl := k90_openM hM10; have HP10 := Kd.R_seg HX10.out (0 : Int) (by omega) (by have h_ : (0 : Int) < ((y104.length : Int) : Int) := of_decide_eq_true (by first | (with_reducible assumption) | assumption); first | exact h_ | (have e_ := (Kd.R_reads' HO106.out).1; omega) | simpa using h_) (seg := [.bool true]) (j := 0) hcl10 hcc10 (show 1 ≤ 3 from by decide) (x' := (⟨true, (rd_T90 y104 0).f1, (rd_T90 y104 0).f2⟩ : S90)) (k90_mkM _ _ _ (⟨true, (rd_T90 y104 0).f1, (rd_T90 y104 0).f2⟩ : S90) ) (fun _ hk => hk); have hx10_0 := hcc10 0 _ rfl; (try simp only [show (k90).sz = 3 from rfl, Nat.mul_one, Nat.add_zero] at hx10_0); (try rw [show ((0 : Int)).toNat = 0 from rfl] at hx10_0); (try simp only [Nat.reduceMul, Nat.zero_mul, Nat.zero_add, Nat.reduceAdd] at hx10_0); have hf10_0 := hfr10 0; (try simp only [show (k90).sz = 3 from rfl, Nat.mul_one, Nat.add_zero] at hf10_0); (try rw [show ((0 : Int)).toNat = 0 from rfl] at hf10_0); (try simp only [Nat.reduceMul, Nat.zero_mul, Nat.zero_add, Nat.reduceAdd] at hf10_0); clear hcl10 hcc10 hfr10 hM10) | ((with_reducible refine gate_store (t := 4) (p := 22) rfl ?_); refine store_event (t := 4) (p := 22) (v := ?vo_w11) (w1 := (w8.setCell ⟨go7, 0, none⟩ (.bool true))) ?hg ?ho ?hn ?hr ?_; (case ho => rfl); (case hg => rfl); (case hn => rfl); (case hr => first | (go_simp; done) | (go_simp; rfl)); intro w11 hw; have hg : w8.grownBy w11 (some go7) := (by rw [hw]; exact HP10.2); have hp_ : Kd.R k90 90 w11 w.heap.size (fun _ => True) (.slice (some ⟨go7, 0, none⟩) y104.length co7) y107 := (by rw [hw, Ny107.out]; exact HP10.1); clear HP10; replace HO106 := Aside0.mk (hp_); replace HB := Aside0.mk ((by rw [hw]; exact below_set (HB.out) GB7.out : Below w.heap.size w w11)); clear hg hw hp_))
 go_loopg [7] k (fun kq v7 w' => ∃ (x6_1 : List (S90)) (x7_1 : Int), v7 = .int .i64 x7_1 ∧ Aside0 (fuglemanref14_All.l0 kq l0 (l0.length : Int) x6_1 x7_1 = some (r1, r2, r3)) ∧ Aside0 (kq ≤ k) ∧ Aside0 (Kd.R k90 90 w' w.heap.size (fun _ => True) (.slice (some ⟨go7, 0, none⟩) y104.length co7) x6_1) ∧ Aside0 (Below w.heap.size w w'))
 case atStart => exact ⟨(y107), (0), (by first | rfl | (simp; done) | (simp [*]; done)), H', ⟨Nat.le_refl _⟩, (sR0 HO106), (sB0 HB)⟩
 clear H'
 (try clear c2); (try clear c2b0); (try clear c2b1); (try clear c4); (try clear c4b0); (try clear c4b1); (try clear c5); (try clear c5b0); (try clear c5b1); (try clear c6); (try clear c6b0); (try clear c6b1); (try clear p7); (try clear q7); (try clear qi7); (try clear hx10_0); (try clear hx7_0); (try clear hx7_1); (try clear hx7_2); (try clear p7); (try clear q7)
 obtain ⟨x6_1, x7_1, rfl, HA, HK1, HO_6, HB⟩ := hrel
 have hl6_1 := (Kd.R_reads' HO_6.out).1
 rw [hl6_1] at HO_6
 (try simp only [hl6_1])
 cases gk with
 | zero => exact absurd HA.out (by simp [fuglemanref14_All.l0])
 | succ k1 =>
  have H := HA.out
  clear HA
  simp only [fuglemanref14_All.l0] at H
  by_cases c12 : x7_1 < (l0.length : Int)
  ·rw [if_pos c12] at H
   have c12b0 : decide (x7_1 < (l0.length : Int)) = true := decide_eq_true c12
   clear c12
   by_cases c13 : 0 ≤ x7_1
   ·rw [if_pos c13] at H
    have c13b0 : decide (0 ≤ x7_1) = true := decide_eq_true c13
    clear c13
    by_cases c14 : x7_1 < (l0.length : Int)
    ·rw [if_pos c14] at H
     have c14b0 : decide (x7_1 < (l0.length : Int)) = true := decide_eq_true c14
     clear c14
     replace H := Option.bind_eq_some_iff.mp H
     obtain ⟨t112, A150, H⟩ := H
     replace H : (if t112 = true then (if x7_1 < (x6_1.length : Int) then (if ((rd_T90 x6_1 x7_1).f0 = true) then ((fuglemanref14_behind.f ((rd_T54 l0 x7_1).f0) ((rd_T54 l0 x7_1).f1) ((rd_T54 l0 x7_1).f2) ((rd_T54 l0 x7_1).f3) ((rd_T54 l0 x7_1).f4) x7_1 (l0.length : Int) ((rd_T90 x6_1 x7_1).f0) ((rd_T90 x6_1 x7_1).f1) ((rd_T90 x6_1 x7_1).f2)).bind fun bt115 => (if bt115.2.2.2 = 0 then (if ((rd_T54 l0 x7_1).f0) = 25 then (fuglemanref14_All.j1 k1 l0 (l0.length : Int) x6_1 x7_1 true false ((rd_T54 l0 x7_1).f0) ((rd_T54 l0 x7_1).f1) ((rd_T54 l0 x7_1).f2) ((rd_T54 l0 x7_1).f3) ((rd_T54 l0 x7_1).f4) bt115.1 bt115.2.1 bt115.2.2.1) else (fuglemanref14_All.j1 k1 l0 (l0.length : Int) x6_1 x7_1 true (((rd_T54 l0 x7_1).f0) != 28) ((rd_T54 l0 x7_1).f0) ((rd_T54 l0 x7_1).f1) ((rd_T54 l0 x7_1).f2) ((rd_T54 l0 x7_1).f3) ((rd_T54 l0 x7_1).f4) bt115.1 bt115.2.1 bt115.2.2.1)) else (some (([] : List (S90)), bt115.2.2.2, x7_1)))) else (fuglemanref14_All.l0 k1 l0 (l0.length : Int) x6_1 (wrap64 (x7_1 + 1)))) else (none)) else (some (([] : List (S90)), 3, x7_1))) = some (r1, r2, r3) := H
     have A15 := Aside0.mk A150
     clear A150
     by_cases c16 : t112 = true
     ·subst c16
      have H1 : (if x7_1 < (x6_1.length : Int) then (if ((rd_T90 x6_1 x7_1).f0 = true) then ((fuglemanref14_behind.f ((rd_T54 l0 x7_1).f0) ((rd_T54 l0 x7_1).f1) ((rd_T54 l0 x7_1).f2) ((rd_T54 l0 x7_1).f3) ((rd_T54 l0 x7_1).f4) x7_1 (l0.length : Int) ((rd_T90 x6_1 x7_1).f0) ((rd_T90 x6_1 x7_1).f1) ((rd_T90 x6_1 x7_1).f2)).bind fun bt115 => (if bt115.2.2.2 = 0 then (if ((rd_T54 l0 x7_1).f0) = 25 then (fuglemanref14_All.j1 k1 l0 (l0.length : Int) x6_1 x7_1 true false ((rd_T54 l0 x7_1).f0) ((rd_T54 l0 x7_1).f1) ((rd_T54 l0 x7_1).f2) ((rd_T54 l0 x7_1).f3) ((rd_T54 l0 x7_1).f4) bt115.1 bt115.2.1 bt115.2.2.1) else (fuglemanref14_All.j1 k1 l0 (l0.length : Int) x6_1 x7_1 true (((rd_T54 l0 x7_1).f0) != 28) ((rd_T54 l0 x7_1).f0) ((rd_T54 l0 x7_1).f1) ((rd_T54 l0 x7_1).f2) ((rd_T54 l0 x7_1).f3) ((rd_T54 l0 x7_1).f4) bt115.1 bt115.2.1 bt115.2.2.1)) else (some (([] : List (S90)), bt115.2.2.2, x7_1)))) else (fuglemanref14_All.l0 k1 l0 (l0.length : Int) x6_1 (wrap64 (x7_1 + 1)))) else (none)) = some (r1, r2, r3) := by rw [if_pos rfl] at H; exact H
      clear H
      have H := H1
      clear H1
      by_cases c17 : x7_1 < (x6_1.length : Int)
      ·rw [if_pos c17] at H
       have c17b0 : decide (x7_1 < (x6_1.length : Int)) = true := decide_eq_true c17
       clear c17
       obtain ⟨bq18, hbq18⟩ : ∃ b_ : Bool, b_ = ((rd_T90 x6_1 x7_1).f0) := ⟨_, rfl⟩
       replace H : (if (bq18 = true) then ((fuglemanref14_behind.f ((rd_T54 l0 x7_1).f0) ((rd_T54 l0 x7_1).f1) ((rd_T54 l0 x7_1).f2) ((rd_T54 l0 x7_1).f3) ((rd_T54 l0 x7_1).f4) x7_1 (l0.length : Int) (bq18) ((rd_T90 x6_1 x7_1).f1) ((rd_T90 x6_1 x7_1).f2)).bind fun bt115 => (if bt115.2.2.2 = 0 then (if ((rd_T54 l0 x7_1).f0) = 25 then (fuglemanref14_All.j1 k1 l0 (l0.length : Int) x6_1 x7_1 true false ((rd_T54 l0 x7_1).f0) ((rd_T54 l0 x7_1).f1) ((rd_T54 l0 x7_1).f2) ((rd_T54 l0 x7_1).f3) ((rd_T54 l0 x7_1).f4) bt115.1 bt115.2.1 bt115.2.2.1) else (fuglemanref14_All.j1 k1 l0 (l0.length : Int) x6_1 x7_1 true (((rd_T54 l0 x7_1).f0) != 28) ((rd_T54 l0 x7_1).f0) ((rd_T54 l0 x7_1).f1) ((rd_T54 l0 x7_1).f2) ((rd_T54 l0 x7_1).f3) ((rd_T54 l0 x7_1).f4) bt115.1 bt115.2.1 bt115.2.2.1)) else (some (([] : List (S90)), bt115.2.2.2, x7_1)))) else (fuglemanref14_All.l0 k1 l0 (l0.length : Int) x6_1 (wrap64 (x7_1 + 1)))) = some (r1, r2, r3) := by rw [← hbq18] at H; exact H
       have Nbq18 := Aside0.mk hbq18
       clear hbq18
       by_cases c19 : (bq18 = true)
       ·subst c19
        have H1 : ((fuglemanref14_behind.f ((rd_T54 l0 x7_1).f0) ((rd_T54 l0 x7_1).f1) ((rd_T54 l0 x7_1).f2) ((rd_T54 l0 x7_1).f3) ((rd_T54 l0 x7_1).f4) x7_1 (l0.length : Int) (true) ((rd_T90 x6_1 x7_1).f1) ((rd_T90 x6_1 x7_1).f2)).bind fun bt115 => (if bt115.2.2.2 = 0 then (if ((rd_T54 l0 x7_1).f0) = 25 then (fuglemanref14_All.j1 k1 l0 (l0.length : Int) x6_1 x7_1 true false ((rd_T54 l0 x7_1).f0) ((rd_T54 l0 x7_1).f1) ((rd_T54 l0 x7_1).f2) ((rd_T54 l0 x7_1).f3) ((rd_T54 l0 x7_1).f4) bt115.1 bt115.2.1 bt115.2.2.1) else (fuglemanref14_All.j1 k1 l0 (l0.length : Int) x6_1 x7_1 true (((rd_T54 l0 x7_1).f0) != 28) ((rd_T54 l0 x7_1).f0) ((rd_T54 l0 x7_1).f1) ((rd_T54 l0 x7_1).f2) ((rd_T54 l0 x7_1).f3) ((rd_T54 l0 x7_1).f4) bt115.1 bt115.2.1 bt115.2.2.1)) else (some (([] : List (S90)), bt115.2.2.2, x7_1)))) = some (r1, r2, r3) := by rw [if_pos rfl] at H; exact H
        clear H
        have H := H1
        clear H1
        replace H := Option.bind_eq_some_iff.mp H
        obtain ⟨⟨t115, t116, t117, t118⟩, A200, H⟩ := H
        replace H : (if t118 = 0 then (if ((rd_T54 l0 x7_1).f0) = 25 then (fuglemanref14_All.j1 k1 l0 (l0.length : Int) x6_1 x7_1 true false ((rd_T54 l0 x7_1).f0) ((rd_T54 l0 x7_1).f1) ((rd_T54 l0 x7_1).f2) ((rd_T54 l0 x7_1).f3) ((rd_T54 l0 x7_1).f4) t115 t116 t117) else (fuglemanref14_All.j1 k1 l0 (l0.length : Int) x6_1 x7_1 true (((rd_T54 l0 x7_1).f0) != 28) ((rd_T54 l0 x7_1).f0) ((rd_T54 l0 x7_1).f1) ((rd_T54 l0 x7_1).f2) ((rd_T54 l0 x7_1).f3) ((rd_T54 l0 x7_1).f4) t115 t116 t117)) else (some (([] : List (S90)), t118, x7_1))) = some (r1, r2, r3) := H
        have A20 := Aside0.mk A200
        clear A200
        by_cases c21 : t118 = 0
        ·rw [if_pos c21] at H
         have c21b0 : (t118 == 0) = true := beq_iff_eq.mpr c21
         have c21b1 : (t118 != 0) = false := bne_eq_false_iff_eq.mpr c21
         clear c21
         have HC22 := Aside0.mk H
         clear H
         have p110 : 0 ≤ (x7_1 : Int) := of_decide_eq_true (by first | (with_reducible assumption) | assumption)
         have q110 : x7_1 < (l0.length : Int) := of_decide_eq_true (by first | (with_reducible assumption) | assumption)
         obtain ⟨ad110, e110, hx110_0, hx110_1, hx110_2, hx110_3, hx110_4⟩ := at_T54 HR0.out x7_1 p110 q110
         cases e110
         replace hx110_0 := (HB.out.cell (World.block_lt_of_cell? w _ hx110_0)).trans hx110_0
         replace hx110_1 := (HB.out.cell (World.block_lt_of_cell? w _ hx110_1)).trans hx110_1
         replace hx110_2 := (HB.out.cell (World.block_lt_of_cell? w _ hx110_2)).trans hx110_2
         replace hx110_3 := (HB.out.cell (World.block_lt_of_cell? w _ hx110_3)).trans hx110_3
         replace hx110_4 := (HB.out.cell (World.block_lt_of_cell? w _ hx110_4)).trans hx110_4
         replace p110 := eq_true p110
         replace q110 := eq_true q110
         try go_wp2_with (first | ((with_reducible refine gate_dst (N := 8) rfl ?_); refine boxK (N := 8) (#[.int .i64 0, .int .i64 0, .int .i64 0, .int .i64 0, .int .i64 0]) 54 ?_; intro gb111 hg w23 hbox hb; replace HO_6 := sR HO_6 hb; have BK111 := Aside0.mk (hbox); have GW111 := sG hg HB; have GE111 := sG hg HB; replace HB := sB HB hb; clear hb hbox hg; obtain ⟨z24_0, z24_1, z24_2, z24_3, z24_4, q24_0, q24_1, q24_2, q24_3, q24_4⟩ := bk5 BK111) | ((with_reducible refine gate_callee (f := 55) rfl ?_); refine goesK (some 33) Try.func55 #[.agg #[.int .i64 ((rd_T54 l0 x7_1).f0), .int .i64 ((rd_T54 l0 x7_1).f1), .int .i64 ((rd_T54 l0 x7_1).f2), .int .i64 ((rd_T54 l0 x7_1).f3), .int .i64 ((rd_T54 l0 x7_1).f4)]] ?_; (with_reducible refine (fuglemanref12_Right.calls ((rd_T54 l0 x7_1).f0) ((rd_T54 l0 x7_1).f1) ((rd_T54 l0 x7_1).f2) ((rd_T54 l0 x7_1).f3) ((rd_T54 l0 x7_1).f4) true _ A15.out).mono ?_); rintro e w25 ⟨rfl, hb⟩; refine ⟨_, rfl, ?_⟩; replace HO_6 := Aside0.mk (Kd.R_below (by (with_reducible repeat (first | apply Kd.R_alloc | apply Kd.R_drewN | apply Kd.R_drew)); exact (sfR (Kd.R_types HO_6.out BK111.out (by decide)))) hb); replace BK111 := sKp (.cells #[.int .i64 ((rd_T54 l0 x7_1).f0), .int .i64 ((rd_T54 l0 x7_1).f1), .int .i64 ((rd_T54 l0 x7_1).f2), .int .i64 ((rd_T54 l0 x7_1).f3), .int .i64 ((rd_T54 l0 x7_1).f4)] 54 (0, 0)) BK111 hb; replace HB := sB HB hb; (try clear hb); have p113 : 0 ≤ (x7_1 : Int) := of_decide_eq_true (by first | (with_reducible assumption) | assumption); have q113 : x7_1 < (x6_1.length : Int) := of_decide_eq_true (by first | (with_reducible assumption) | assumption); obtain ⟨ad113, e113, hx113_0, hx113_1, hx113_2⟩ := at_T90 (Kd.R_reads' HO_6.out).2.2 x7_1 p113 q113; (try rw [← Nbq18.out] at hx113_0); obtain rfl : (⟨go7, 0, none⟩ : Addr) = ad113 := (by injection e113); (first | simp only [add_plain] at hx113_0 | simp only [add_at] at hx113_0 | simp only [Addr.add, Nat.zero_add] at hx113_0 | skip); (first | simp only [add_plain] at hx113_1 | simp only [add_at] at hx113_1 | simp only [Addr.add, Nat.zero_add] at hx113_1 | skip); (first | simp only [add_plain] at hx113_2 | simp only [add_at] at hx113_2 | simp only [Addr.add, Nat.zero_add] at hx113_2 | skip); replace p113 := eq_true p113; replace q113 := eq_true q113))
         replace HO_6 := Aside0.mk (Kd.R_drew HO_6.out)
         replace BK111 := Aside0.mk (blk_drew BK111.out)
         replace HB := Aside0.mk (below_drew1 HB.out)
         have p114 : 0 ≤ (x7_1 : Int) := of_decide_eq_true (by first | (with_reducible assumption) | assumption)
         have q114 : x7_1 < (x6_1.length : Int) := of_decide_eq_true (by first | (with_reducible assumption) | assumption)
         obtain ⟨ad114, e114, hx114_0, hx114_1, hx114_2⟩ := at_T90 (Kd.R_reads' HO_6.out).2.2 x7_1 p114 q114
         (try rw [← Nbq18.out] at hx114_0)
         obtain rfl : (⟨go7, 0, none⟩ : Addr) = ad114 := (by injection e114)
         (first | simp only [add_plain] at hx114_0 | simp only [add_at] at hx114_0 | simp only [Addr.add, Nat.zero_add] at hx114_0 | skip)
         (first | simp only [add_plain] at hx114_1 | simp only [add_at] at hx114_1 | simp only [Addr.add, Nat.zero_add] at hx114_1 | skip)
         (first | simp only [add_plain] at hx114_2 | simp only [add_at] at hx114_2 | simp only [Addr.add, Nat.zero_add] at hx114_2 | skip)
         replace p114 := eq_true p114
         replace q114 := eq_true q114
         refine start_ (n := 14) (S := fun w' => w'.cell? ⟨gb111, 0, none⟩ = some (.int .i64 ((rd_T54 l0 x7_1).f0)) ∧ w'.cell? ⟨gb111, 1, none⟩ = some (.int .i64 ((rd_T54 l0 x7_1).f1)) ∧ w'.cell? ⟨gb111, 2, none⟩ = some (.int .i64 ((rd_T54 l0 x7_1).f2)) ∧ w'.cell? ⟨gb111, 3, none⟩ = some (.int .i64 ((rd_T54 l0 x7_1).f3)) ∧ w'.cell? ⟨gb111, 4, none⟩ = some (.int .i64 ((rd_T54 l0 x7_1).f4)) ∧ w'.cell? ⟨go7, (x7_1).toNat * 3, none⟩ = some (.bool (true)) ∧ w'.cell? ⟨go7, (x7_1).toNat * 3 + 1, none⟩ = some (.int .i64 ((rd_T90 x6_1 x7_1).f1)) ∧ w'.cell? ⟨go7, (x7_1).toNat * 3 + 2, none⟩ = some (.string ((rd_T90 x6_1 x7_1).f2))) (ds := []) #[false, false, false, false, false, false, false, false, false, false, false, false, false, false] (by kernel_rfl) rfl rfl ⟨sc BK111 0, sc BK111 1, sc BK111 2, sc BK111 3, sc BK111 4, hx114_0, hx114_1, hx114_2⟩ (fun hHeld => ?_); refine with_tabW fuglemanref14_All.tab13 fuglemanref14_All.bits13 (fun HT_ HW_ => ?_)
         generalize w25.drew = w26 at HO_6 BK111 HB hx114_0 hx114_1 hx114_2 hHeld ⊢
         refine pureK 1 (some 44) #[false, true, false, false, false, false, false, false, false, false, false, false, false, false] HT_ ?_
         refine pureK 2 (some 45) #[false, true, true, false, false, false, false, false, false, false, false, false, false, false] HT_ ?_
         refine pureK 3 (some 46) #[false, true, true, true, false, false, false, false, false, false, false, false, false, false] HT_ ?_
         refine pureK 4 (some 47) #[false, true, true, true, true, false, false, false, false, false, false, false, false, false] HT_ ?_
         refine pureK 5 (some 48) #[false, true, true, true, true, true, false, false, false, false, false, false, false, false] HT_ ?_
         refine takeK 0 (some 43) #[true, true, true, true, true, true, false, false, false, false, false, false, false, false] HT_ HW_ hHeld ?_ (hy := by (rintro w' ⟨s0, s1, s2, s3, s4, s5, s6, s7⟩; go_simp; with_reducible rfl))
         refine takeK 6 (some 49) #[true, true, true, true, true, true, true, false, false, false, false, false, false, false] HT_ HW_ hHeld ?_ (hy := by (rintro w' ⟨s0, s1, s2, s3, s4, s5, s6, s7⟩; go_simp; with_reducible rfl))
         refine join_ (σ := Nat) 2 #[true, true, true, true, true, true, true, true, true, true, true, true, false, false] (fun s_ => [(50, .tuple #[.agg #[.bool t115, .int .i64 t116, .string t117], .int .i64 t118]), (9, .pointer (some ⟨s_, 0, none⟩)), (42, .tuple #[.agg #[.bool t115, .int .i64 t116, .string t117], .int .i64 t118]), (51, .agg #[.bool t115, .int .i64 t116, .string t117]), (52, .int .i64 t118)]) (fun s_ w' => (w'.cell? ⟨gb111, 0, none⟩ = some (.int .i64 ((rd_T54 l0 x7_1).f0)) ∧ w'.cell? ⟨gb111, 1, none⟩ = some (.int .i64 ((rd_T54 l0 x7_1).f1)) ∧ w'.cell? ⟨gb111, 2, none⟩ = some (.int .i64 ((rd_T54 l0 x7_1).f2)) ∧ w'.cell? ⟨gb111, 3, none⟩ = some (.int .i64 ((rd_T54 l0 x7_1).f3)) ∧ w'.cell? ⟨gb111, 4, none⟩ = some (.int .i64 ((rd_T54 l0 x7_1).f4)) ∧ w'.cell? ⟨go7, (x7_1).toNat * 3, none⟩ = some (.bool (true)) ∧ w'.cell? ⟨go7, (x7_1).toNat * 3 + 1, none⟩ = some (.int .i64 ((rd_T90 x6_1 x7_1).f1)) ∧ w'.cell? ⟨go7, (x7_1).toNat * 3 + 2, none⟩ = some (.string ((rd_T90 x6_1 x7_1).f2))) ∧ (Kd.R k90 90 w' w.heap.size (fun k_ => k_ ≠ s_) (.slice (some ⟨go7, 0, none⟩) x6_1.length co7) x6_1) ∧ (w'.heap[gb111]? = some (.cells #[.int .i64 ((rd_T54 l0 x7_1).f0), .int .i64 ((rd_T54 l0 x7_1).f1), .int .i64 ((rd_T54 l0 x7_1).f2), .int .i64 ((rd_T54 l0 x7_1).f3), .int .i64 ((rd_T54 l0 x7_1).f4)] 54 (0, 0))) ∧ (w'.heap[s_]? = some (.cells #[.bool false, .int .i64 0, .string (⟨#[]⟩ : ByteArray)] 90 (0, 0))) ∧ (w.heap.size ≤ s_) ∧ (w.heap.size ≤ s_) ∧ (gb111 ≠ s_) ∧ (s_ ≠ gb111) ∧ (Below w.heap.size w w')) ?_ ?_
         rotate_left
         ·intro hCont
          refine two_ (i := 7) (j := 11) (Ni := some 50) (Nj := some 9) #[true, true, true, true, true, true, true, true, false, false, false, false, false, false] #[true, true, true, true, true, true, true, false, false, false, false, true, false, false] rfl rfl rfl rfl (two_of HT_.out (by kernel_rfl)) (by decide) (by decide) (fun K hK => ?_) (fun K hK => ?_)
          ·skip
           refine goesR Try.func56 #[.agg #[.int .i64 ((rd_T54 l0 x7_1).f0), .int .i64 ((rd_T54 l0 x7_1).f1), .int .i64 ((rd_T54 l0 x7_1).f2), .int .i64 ((rd_T54 l0 x7_1).f3), .int .i64 ((rd_T54 l0 x7_1).f4)], .int .i64 x7_1, .int .i64 (l0.length : Int), .agg #[.bool true, .int .i64 ((rd_T90 x6_1 x7_1).f1), .string ((rd_T90 x6_1 x7_1).f2)]] ?_
           with_reducible refine (fuglemanref14_behind.calls ((rd_T54 l0 x7_1).f0) ((rd_T54 l0 x7_1).f1) ((rd_T54 l0 x7_1).f2) ((rd_T54 l0 x7_1).f3) ((rd_T54 l0 x7_1).f4) x7_1 (l0.length : Int) true ((rd_T90 x6_1 x7_1).f1) ((rd_T90 x6_1 x7_1).f2) t115 t116 t117 t118 _ A20.out).mono ?_
           rintro e w27 ⟨rfl, hb⟩
           have HS5_ := (hb.cell (World.block_lt_of_cell? _ _ (hHeld.2.2.2.2.2.1))).trans (hHeld.2.2.2.2.2.1)
           have HS6_ := (hb.cell (World.block_lt_of_cell? _ _ (hHeld.2.2.2.2.2.2.1))).trans (hHeld.2.2.2.2.2.2.1)
           have HS7_ := (hb.cell (World.block_lt_of_cell? _ _ (hHeld.2.2.2.2.2.2.2))).trans (hHeld.2.2.2.2.2.2.2)
           refine ⟨_, rfl, ?_⟩
           replace HO_6 := sR HO_6 hb
           replace BK111 := sK BK111 hb
           replace HB := sB HB hb
           (try clear hb)
           refine hK.out _ _ ⟨sc BK111 0, sc BK111 1, sc BK111 2, sc BK111 3, sc BK111 4, HS5_, HS6_, HS7_⟩ (fun hHeld => ?_)
           clear hK K
           refine norm_ (a' := ?_) ?_ ?_
           rotate_left
           ·show Act.put _ (some 50) _ = _
            simp only [Act.put, List.setIfInBounds_toArray, List.set_cons_zero, List.set_cons_succ, i64_w, i32_w]
            rfl
           refine pureK 8 (some 42) #[true, true, true, true, true, true, true, true, true, false, false, false, false, false] HT_ ?_
           refine pureK 9 (some 51) #[true, true, true, true, true, true, true, true, true, true, false, false, false, false] HT_ ?_
           refine pureK 10 (some 52) #[true, true, true, true, true, true, true, true, true, true, true, false, false, false] HT_ ?_
           refine one_ (i := 11) (N := some 9) #[true, true, true, true, true, true, true, true, true, true, true, true, false, false] rfl rfl (one_of HT_.out (by kernel_rfl)) (by decide) (fun K hK => ?_)
           refine box_step ?hg (N := 9) ?hd (cs := #[.bool false, .int .i64 0, .string (⟨#[]⟩ : ByteArray)]) (t := 90) ?hr ?_; (case hd => rfl); (case hg => rfl); (case hr => first | (go_simp; done) | (go_simp; rfl))
           intro gb119 hg w28 hbox hb
           have HS5_ := (hb.cell (World.block_lt_of_cell? _ _ (hHeld.2.2.2.2.2.1))).trans (hHeld.2.2.2.2.2.1)
           have HS6_ := (hb.cell (World.block_lt_of_cell? _ _ (hHeld.2.2.2.2.2.2.1))).trans (hHeld.2.2.2.2.2.2.1)
           have HS7_ := (hb.cell (World.block_lt_of_cell? _ _ (hHeld.2.2.2.2.2.2.2))).trans (hHeld.2.2.2.2.2.2.2)
           replace HO_6 := sRe HO_6 gb119 hg hb
           have BK119 := Aside0.mk (hbox)
           have GW119 := sG hg HB
           have GE119 := sG hg HB
           replace HB := sB HB hb
           have NB111_119 := sNl hg BK111
           have NB119_111 := sNg hg BK111
           replace BK111 := sK BK111 hb
           clear hb hbox hg
           refine hK.out _ _ ⟨sc BK111 0, sc BK111 1, sc BK111 2, sc BK111 3, sc BK111 4, HS5_, HS6_, HS7_⟩ (fun hHeld => ?_)
           clear hK K
           refine norm_ (a' := ?_) ?_ ?_
           rotate_left
           ·show Act.put _ (some 9) _ = _
            simp only [Act.put, List.setIfInBounds_toArray, List.set_cons_zero, List.set_cons_succ, i64_w, i32_w]
            rfl
           exact norm_ (by simp only [putAll, Act.put, List.setIfInBounds_toArray, List.set_cons_zero, List.set_cons_succ]) (hCont (gb119) _ ⟨hHeld, (by (with_reducible repeat (first | apply Kd.R_alloc | apply Kd.R_drewN | apply Kd.R_drew)); exact Kd.R_mono HO_6.out (fun _ hk => hk.2)), (by (with_reducible repeat (first | refine blk_drewN ?_ _ | refine blk_drew ?_ | refine blk_alloc ?_ _)); exact BK111.out), (by (with_reducible repeat (first | refine blk_drewN ?_ _ | refine blk_drew ?_ | refine blk_alloc ?_ _)); exact BK119.out), GW119.out, GE119.out, NB111_119.out, NB119_111.out, (by repeat (first | (with_reducible first | exact HB.out | apply below_alloc | apply pw_below_drewN | apply below_drew1 | refine below_set ?_ (Aside0.out (by assumption))) | exact HB.out))⟩)
          ·skip
           refine box_step ?hg (N := 9) ?hd (cs := #[.bool false, .int .i64 0, .string (⟨#[]⟩ : ByteArray)]) (t := 90) ?hr ?_; (case hd => rfl); (case hg => rfl); (case hr => first | (go_simp; done) | (go_simp; rfl))
           intro gb119 hg w27 hbox hb
           have HS5_ := (hb.cell (World.block_lt_of_cell? _ _ (hHeld.2.2.2.2.2.1))).trans (hHeld.2.2.2.2.2.1)
           have HS6_ := (hb.cell (World.block_lt_of_cell? _ _ (hHeld.2.2.2.2.2.2.1))).trans (hHeld.2.2.2.2.2.2.1)
           have HS7_ := (hb.cell (World.block_lt_of_cell? _ _ (hHeld.2.2.2.2.2.2.2))).trans (hHeld.2.2.2.2.2.2.2)
           replace HO_6 := sRe HO_6 gb119 hg hb
           have BK119 := Aside0.mk (hbox)
           have GW119 := sG hg HB
           have GE119 := sG hg HB
           replace HB := sB HB hb
           have NB111_119 := sNl hg BK111
           have NB119_111 := sNg hg BK111
           replace BK111 := sK BK111 hb
           clear hb hbox hg
           refine hK.out _ _ ⟨sc BK111 0, sc BK111 1, sc BK111 2, sc BK111 3, sc BK111 4, HS5_, HS6_, HS7_⟩ (fun hHeld => ?_)
           clear hK K
           refine norm_ (a' := ?_) ?_ ?_
           rotate_left
           ·show Act.put _ (some 9) _ = _
            simp only [Act.put, List.setIfInBounds_toArray, List.set_cons_zero, List.set_cons_succ, i64_w, i32_w]
            rfl
           refine one_ (i := 7) (N := some 50) #[true, true, true, true, true, true, true, true, false, false, false, true, false, false] rfl rfl (one_of HT_.out (by kernel_rfl)) (by decide) (fun K hK => ?_)
           refine goesR Try.func56 #[.agg #[.int .i64 ((rd_T54 l0 x7_1).f0), .int .i64 ((rd_T54 l0 x7_1).f1), .int .i64 ((rd_T54 l0 x7_1).f2), .int .i64 ((rd_T54 l0 x7_1).f3), .int .i64 ((rd_T54 l0 x7_1).f4)], .int .i64 x7_1, .int .i64 (l0.length : Int), .agg #[.bool true, .int .i64 ((rd_T90 x6_1 x7_1).f1), .string ((rd_T90 x6_1 x7_1).f2)]] ?_
           with_reducible refine (fuglemanref14_behind.calls ((rd_T54 l0 x7_1).f0) ((rd_T54 l0 x7_1).f1) ((rd_T54 l0 x7_1).f2) ((rd_T54 l0 x7_1).f3) ((rd_T54 l0 x7_1).f4) x7_1 (l0.length : Int) true ((rd_T90 x6_1 x7_1).f1) ((rd_T90 x6_1 x7_1).f2) t115 t116 t117 t118 _ A20.out).mono ?_
           rintro e w28 ⟨rfl, hb⟩
           have HS5_ := (hb.cell (World.block_lt_of_cell? _ _ (hHeld.2.2.2.2.2.1))).trans (hHeld.2.2.2.2.2.1)
           have HS6_ := (hb.cell (World.block_lt_of_cell? _ _ (hHeld.2.2.2.2.2.2.1))).trans (hHeld.2.2.2.2.2.2.1)
           have HS7_ := (hb.cell (World.block_lt_of_cell? _ _ (hHeld.2.2.2.2.2.2.2))).trans (hHeld.2.2.2.2.2.2.2)
           refine ⟨_, rfl, ?_⟩
           replace HO_6 := sR HO_6 hb
           replace BK111 := sK BK111 hb
           replace BK119 := sK BK119 hb
           replace HB := sB HB hb
           (try clear hb)
           refine hK.out _ _ ⟨sc BK111 0, sc BK111 1, sc BK111 2, sc BK111 3, sc BK111 4, HS5_, HS6_, HS7_⟩ (fun hHeld => ?_)
           clear hK K
           refine norm_ (a' := ?_) ?_ ?_
           rotate_left
           ·show Act.put _ (some 50) _ = _
            simp only [Act.put, List.setIfInBounds_toArray, List.set_cons_zero, List.set_cons_succ, i64_w, i32_w]
            rfl
           refine pureK 8 (some 42) #[true, true, true, true, true, true, true, true, true, false, false, true, false, false] HT_ ?_
           refine pureK 9 (some 51) #[true, true, true, true, true, true, true, true, true, true, false, true, false, false] HT_ ?_
           refine pureK 10 (some 52) #[true, true, true, true, true, true, true, true, true, true, true, true, false, false] HT_ ?_
           exact norm_ (by simp only [putAll, Act.put, List.setIfInBounds_toArray, List.set_cons_zero, List.set_cons_succ]) (hCont (gb119) _ ⟨hHeld, (by (with_reducible repeat (first | apply Kd.R_alloc | apply Kd.R_drewN | apply Kd.R_drew)); exact Kd.R_mono HO_6.out (fun _ hk => hk.2)), (by (with_reducible repeat (first | refine blk_drewN ?_ _ | refine blk_drew ?_ | refine blk_alloc ?_ _)); exact BK111.out), (by (with_reducible repeat (first | refine blk_drewN ?_ _ | refine blk_drew ?_ | refine blk_alloc ?_ _)); exact BK119.out), GW119.out, GE119.out, NB111_119.out, NB119_111.out, (by repeat (first | (with_reducible first | exact HB.out | apply below_alloc | apply pw_below_drewN | apply below_drew1 | refine below_set ?_ (Aside0.out (by assumption))) | exact HB.out))⟩)
         rintro gb119 w29 ⟨hS_, h0_, h1_, h2_, h3_, h4_, h5_, h6_, h7_⟩
         have n0_ : Aside0 (Kd.R k90 90 w29 w.heap.size (fun k_ => k_ ≠ gb119) (.slice (some ⟨go7, 0, none⟩) x6_1.length co7) x6_1) := ⟨h0_⟩
         have n1_ : Aside0 (w29.heap[gb111]? = some (.cells #[.int .i64 ((rd_T54 l0 x7_1).f0), .int .i64 ((rd_T54 l0 x7_1).f1), .int .i64 ((rd_T54 l0 x7_1).f2), .int .i64 ((rd_T54 l0 x7_1).f3), .int .i64 ((rd_T54 l0 x7_1).f4)] 54 (0, 0))) := ⟨h1_⟩
         have n2_ : Aside0 (w29.heap[gb119]? = some (.cells #[.bool false, .int .i64 0, .string (⟨#[]⟩ : ByteArray)] 90 (0, 0))) := ⟨h2_⟩
         have n3_ : Aside0 (w.heap.size ≤ gb119) := ⟨h3_⟩
         have n4_ : Aside0 (w.heap.size ≤ gb119) := ⟨h4_⟩
         have n5_ : Aside0 (gb111 ≠ gb119) := ⟨h5_⟩
         have n6_ : Aside0 (gb119 ≠ gb111) := ⟨h6_⟩
         have n7_ : Aside0 (Below w.heap.size w w29) := ⟨h7_⟩
         clear HO_6
         clear BK111
         clear HB
         clear h0_ h1_ h2_ h3_ h4_ h5_ h6_ h7_
         have HO_6 := n0_
         have BK111 := n1_
         have BK119 := n2_
         have GW119 := n3_
         have GE119 := n4_
         have NB111_119 := n5_
         have NB119_111 := n6_
         have HB := n7_
         clear n0_ n1_ n2_ n3_ n4_ n5_ n6_ n7_
         have hHeld : w29.cell? ⟨gb111, 0, none⟩ = some (.int .i64 ((rd_T54 l0 x7_1).f0)) ∧ w29.cell? ⟨gb111, 1, none⟩ = some (.int .i64 ((rd_T54 l0 x7_1).f1)) ∧ w29.cell? ⟨gb111, 2, none⟩ = some (.int .i64 ((rd_T54 l0 x7_1).f2)) ∧ w29.cell? ⟨gb111, 3, none⟩ = some (.int .i64 ((rd_T54 l0 x7_1).f3)) ∧ w29.cell? ⟨gb111, 4, none⟩ = some (.int .i64 ((rd_T54 l0 x7_1).f4)) ∧ w29.cell? ⟨go7, (x7_1).toNat * 3, none⟩ = some (.bool (true)) ∧ w29.cell? ⟨go7, (x7_1).toNat * 3 + 1, none⟩ = some (.int .i64 ((rd_T90 x6_1 x7_1).f1)) ∧ w29.cell? ⟨go7, (x7_1).toNat * 3 + 2, none⟩ = some (.string ((rd_T90 x6_1 x7_1).f2)) := hS_
         refine norm_ (a' := ?_) ?_ ?_
         rotate_left
         ·simp only [putAll, Act.put, List.setIfInBounds_toArray, List.set_cons_zero, List.set_cons_succ]
          rfl
         refine one_ (i := 12) (N := none) #[true, true, true, true, true, true, true, true, true, true, true, true, true, false] rfl rfl (one_of HT_.out (by kernel_rfl)) (by decide) (fun K hK => ?_)
         have hs30 : w29.cell? ⟨gb119, 0, none⟩ = some (.bool false) := sc BK119 0
         have hfs30 := blk_frozen BK119.out 0
         have hns30_0 := NB111_119.out
         have hms30_0 := NB119_111.out
         have hs31 : w29.cell? ⟨gb119, 1, none⟩ = some (.int .i64 0) := sc BK119 1
         have hfs31 := blk_frozen BK119.out 1
         have hns31_0 := NB111_119.out
         have hms31_0 := NB119_111.out
         have hs32 : w29.cell? ⟨gb119, 2, none⟩ = some (.string (⟨#[]⟩ : ByteArray)) := sc BK119 2
         have hfs32 := blk_frozen BK119.out 2
         have hns32_0 := NB111_119.out
         have hms32_0 := NB119_111.out
         refine skip_ (w1 := ?_) (by rfl) rfl ?_ ?_
         rotate_left
         ·go_simp
          rfl
         refine hK.out _ _ ⟨((cell_far (p := ⟨gb119, _, none⟩) NB111_119.out _).trans (((cell_far (p := ⟨gb119, _, none⟩) NB111_119.out _).trans (((cell_far (p := ⟨gb119, _, none⟩) NB111_119.out _).trans (hHeld.1)))))), ((cell_far (p := ⟨gb119, _, none⟩) NB111_119.out _).trans (((cell_far (p := ⟨gb119, _, none⟩) NB111_119.out _).trans (((cell_far (p := ⟨gb119, _, none⟩) NB111_119.out _).trans (hHeld.2.1)))))), ((cell_far (p := ⟨gb119, _, none⟩) NB111_119.out _).trans (((cell_far (p := ⟨gb119, _, none⟩) NB111_119.out _).trans (((cell_far (p := ⟨gb119, _, none⟩) NB111_119.out _).trans (hHeld.2.2.1)))))), ((cell_far (p := ⟨gb119, _, none⟩) NB111_119.out _).trans (((cell_far (p := ⟨gb119, _, none⟩) NB111_119.out _).trans (((cell_far (p := ⟨gb119, _, none⟩) NB111_119.out _).trans (hHeld.2.2.2.1)))))), ((cell_far (p := ⟨gb119, _, none⟩) NB111_119.out _).trans (((cell_far (p := ⟨gb119, _, none⟩) NB111_119.out _).trans (((cell_far (p := ⟨gb119, _, none⟩) NB111_119.out _).trans (hHeld.2.2.2.2.1)))))), ((cell_far (p := ⟨gb119, _, none⟩) (by first | exact Kd.own_blk (Kd.R_away HO_6.out (fun _ hk => hk)) | (rw [add_block]; exact Kd.own_blk (Kd.R_away HO_6.out (fun _ hk => hk))) | (show (Addr.add _ _).block ≠ _; rw [add_block]; exact Kd.own_blk (Kd.R_away HO_6.out (fun _ hk => hk))) | (dsimp only; exact Kd.own_blk (Kd.R_away HO_6.out (fun _ hk => hk)))) _).trans (((cell_far (p := ⟨gb119, _, none⟩) (by first | exact Kd.own_blk (Kd.R_away HO_6.out (fun _ hk => hk)) | (rw [add_block]; exact Kd.own_blk (Kd.R_away HO_6.out (fun _ hk => hk))) | (show (Addr.add _ _).block ≠ _; rw [add_block]; exact Kd.own_blk (Kd.R_away HO_6.out (fun _ hk => hk))) | (dsimp only; exact Kd.own_blk (Kd.R_away HO_6.out (fun _ hk => hk)))) _).trans (((cell_far (p := ⟨gb119, _, none⟩) (by first | exact Kd.own_blk (Kd.R_away HO_6.out (fun _ hk => hk)) | (rw [add_block]; exact Kd.own_blk (Kd.R_away HO_6.out (fun _ hk => hk))) | (show (Addr.add _ _).block ≠ _; rw [add_block]; exact Kd.own_blk (Kd.R_away HO_6.out (fun _ hk => hk))) | (dsimp only; exact Kd.own_blk (Kd.R_away HO_6.out (fun _ hk => hk)))) _).trans (hHeld.2.2.2.2.2.1)))))), ((cell_far (p := ⟨gb119, _, none⟩) (by first | exact Kd.own_blk (Kd.R_away HO_6.out (fun _ hk => hk)) | (rw [add_block]; exact Kd.own_blk (Kd.R_away HO_6.out (fun _ hk => hk))) | (show (Addr.add _ _).block ≠ _; rw [add_block]; exact Kd.own_blk (Kd.R_away HO_6.out (fun _ hk => hk))) | (dsimp only; exact Kd.own_blk (Kd.R_away HO_6.out (fun _ hk => hk)))) _).trans (((cell_far (p := ⟨gb119, _, none⟩) (by first | exact Kd.own_blk (Kd.R_away HO_6.out (fun _ hk => hk)) | (rw [add_block]; exact Kd.own_blk (Kd.R_away HO_6.out (fun _ hk => hk))) | (show (Addr.add _ _).block ≠ _; rw [add_block]; exact Kd.own_blk (Kd.R_away HO_6.out (fun _ hk => hk))) | (dsimp only; exact Kd.own_blk (Kd.R_away HO_6.out (fun _ hk => hk)))) _).trans (((cell_far (p := ⟨gb119, _, none⟩) (by first | exact Kd.own_blk (Kd.R_away HO_6.out (fun _ hk => hk)) | (rw [add_block]; exact Kd.own_blk (Kd.R_away HO_6.out (fun _ hk => hk))) | (show (Addr.add _ _).block ≠ _; rw [add_block]; exact Kd.own_blk (Kd.R_away HO_6.out (fun _ hk => hk))) | (dsimp only; exact Kd.own_blk (Kd.R_away HO_6.out (fun _ hk => hk)))) _).trans (hHeld.2.2.2.2.2.2.1)))))), ((cell_far (p := ⟨gb119, _, none⟩) (by first | exact Kd.own_blk (Kd.R_away HO_6.out (fun _ hk => hk)) | (rw [add_block]; exact Kd.own_blk (Kd.R_away HO_6.out (fun _ hk => hk))) | (show (Addr.add _ _).block ≠ _; rw [add_block]; exact Kd.own_blk (Kd.R_away HO_6.out (fun _ hk => hk))) | (dsimp only; exact Kd.own_blk (Kd.R_away HO_6.out (fun _ hk => hk)))) _).trans (((cell_far (p := ⟨gb119, _, none⟩) (by first | exact Kd.own_blk (Kd.R_away HO_6.out (fun _ hk => hk)) | (rw [add_block]; exact Kd.own_blk (Kd.R_away HO_6.out (fun _ hk => hk))) | (show (Addr.add _ _).block ≠ _; rw [add_block]; exact Kd.own_blk (Kd.R_away HO_6.out (fun _ hk => hk))) | (dsimp only; exact Kd.own_blk (Kd.R_away HO_6.out (fun _ hk => hk)))) _).trans (((cell_far (p := ⟨gb119, _, none⟩) (by first | exact Kd.own_blk (Kd.R_away HO_6.out (fun _ hk => hk)) | (rw [add_block]; exact Kd.own_blk (Kd.R_away HO_6.out (fun _ hk => hk))) | (show (Addr.add _ _).block ≠ _; rw [add_block]; exact Kd.own_blk (Kd.R_away HO_6.out (fun _ hk => hk))) | (dsimp only; exact Kd.own_blk (Kd.R_away HO_6.out (fun _ hk => hk)))) _).trans (hHeld.2.2.2.2.2.2.2))))))⟩ (fun hHeld => ?_)
         clear hK K
         refine pureK 13 (some 10) #[true, true, true, true, true, true, true, true, true, true, true, true, true, true] HT_ ?_
         refine done_ (done_of HT_.out (by kernel_rfl)) ?_
         go_upto_region 17 with (fail)
         go_cut [64] (fun v64 wc => ∃ (kq : Nat) (x64_21 : Bool), v64 = .bool x64_21 ∧ Aside0 (fuglemanref14_All.j1 kq l0 (l0.length : Int) x6_1 x7_1 true x64_21 ((rd_T54 l0 x7_1).f0) ((rd_T54 l0 x7_1).f1) ((rd_T54 l0 x7_1).f2) ((rd_T54 l0 x7_1).f3) ((rd_T54 l0 x7_1).f4) t115 t116 t117 = some (r1, r2, r3)) ∧ Aside0 (kq ≤ k1) ∧ Aside0 (Kd.R k90 90 wc w.heap.size (fun k_ => k_ ≠ gb119) (.slice (some ⟨go7, 0, none⟩) x6_1.length co7) x6_1) ∧ Aside0 (wc.heap[gb111]? = some (.cells #[.int .i64 ((rd_T54 l0 x7_1).f0), .int .i64 ((rd_T54 l0 x7_1).f1), .int .i64 ((rd_T54 l0 x7_1).f2), .int .i64 ((rd_T54 l0 x7_1).f3), .int .i64 ((rd_T54 l0 x7_1).f4)] 54 (0, 0))) ∧ Aside0 (wc.heap[gb119]? = some (.cells #[.bool t115, .int .i64 t116, .string t117] 90 (0, 0))) ∧ Aside0 (Below w.heap.size w wc))
         case first =>
          have H := HC22.out
          clear HC22
          by_cases c33 : ((rd_T54 l0 x7_1).f0) = 25
          ·rw [if_pos c33] at H
           have c33b0 : (((rd_T54 l0 x7_1).f0) == 25) = true := beq_iff_eq.mpr c33
           have c33b1 : (((rd_T54 l0 x7_1).f0) != 25) = false := bne_eq_false_iff_eq.mpr c33
           clear c33
           (first | rw [c33b0] | (simp only [i64_w, i32_w]; rw [c33b0]) | skip)
           have H' := Aside0.mk H
           clear H
           have hnb34 := NB111_119.out
           have hnc34 := NB119_111.out
           obtain ⟨z35_0, z35_1, z35_2, z35_3, z35_4, q35_0, q35_1, q35_2, q35_3, q35_4⟩ := bk5 BK111
           go_wp2
           go_meet
           case rel => exact ⟨_, (false), (by first | rfl | (simp; done) | (simp [*]; done)), H', ⟨by have := HK1.out; first | omega | exact Nat.le_refl _⟩, ⟨by (try simp only [hl6_1]); (with_reducible repeat (first | apply Kd.R_alloc | apply Kd.R_drewN | apply Kd.R_drew)); exact Kd.R_mono (Kd.R_far (p := ⟨gb119, 2, none⟩) (Kd.R_far (p := ⟨gb119, 1, none⟩) (Kd.R_far (p := ⟨gb119, 0, none⟩) (Kd.R_mono HO_6.out (fun k_ hk => (⟨hk, hk⟩ : _ ∧ k_ ≠ gb119))) (fun _ hk => hk.2) (.bool t115)) (fun _ hk => hk.2) (.int .i64 t116)) (fun _ hk => hk.2) (.string t117)) (fun _ hk => hk.1)⟩, ⟨by (try simp only [hl6_1]); (with_reducible repeat (first | refine blk_drewN ?_ _ | refine blk_drew ?_ | refine blk_alloc ?_ _)); refine blk_far ?_ NB111_119.out _; (with_reducible repeat (first | refine blk_drewN ?_ _ | refine blk_drew ?_ | refine blk_alloc ?_ _)); refine blk_far ?_ NB111_119.out _; (with_reducible repeat (first | refine blk_drewN ?_ _ | refine blk_drew ?_ | refine blk_alloc ?_ _)); refine blk_far ?_ NB111_119.out _; (with_reducible repeat (first | refine blk_drewN ?_ _ | refine blk_drew ?_ | refine blk_alloc ?_ _)); exact BK111.out⟩, ⟨by (try simp only [hl6_1]); (with_reducible repeat (first | refine blk_drewN ?_ _ | refine blk_drew ?_ | refine blk_alloc ?_ _)); refine blk_put (cs := #[.bool t115, .int .i64 t116, .string (⟨#[]⟩ : ByteArray)]) ?_ 2 _ rfl; (with_reducible repeat (first | refine blk_drewN ?_ _ | refine blk_drew ?_ | refine blk_alloc ?_ _)); refine blk_put (cs := #[.bool t115, .int .i64 0, .string (⟨#[]⟩ : ByteArray)]) ?_ 1 _ rfl; (with_reducible repeat (first | refine blk_drewN ?_ _ | refine blk_drew ?_ | refine blk_alloc ?_ _)); refine blk_put (cs := #[.bool false, .int .i64 0, .string (⟨#[]⟩ : ByteArray)]) ?_ 0 _ rfl; (with_reducible repeat (first | refine blk_drewN ?_ _ | refine blk_drew ?_ | refine blk_alloc ?_ _)); exact BK119.out⟩, (sB0 HB)⟩
          ·rw [if_neg c33] at H
           have c33b0 : (((rd_T54 l0 x7_1).f0) == 25) = false := beq_eq_false_iff_ne.mpr c33
           have c33b1 : (((rd_T54 l0 x7_1).f0) != 25) = true := bne_iff_ne.mpr c33
           (first | rw [c33b0] | (simp only [i64_w, i32_w]; rw [c33b0]) | skip)
           have H' := Aside0.mk H
           clear H
           have hnb36 := NB111_119.out
           have hnc36 := NB119_111.out
           obtain ⟨z37_0, z37_1, z37_2, z37_3, z37_4, q37_0, q37_1, q37_2, q37_3, q37_4⟩ := bk5 BK111
           go_wp2
           go_meet
           case rel => exact ⟨_, ((((rd_T54 l0 x7_1).f0) != 28)), (by first | rfl | (simp; done) | (simp [*]; done)), H', ⟨by have := HK1.out; first | omega | exact Nat.le_refl _⟩, ⟨by (try simp only [hl6_1]); (with_reducible repeat (first | apply Kd.R_alloc | apply Kd.R_drewN | apply Kd.R_drew)); exact Kd.R_mono (Kd.R_far (p := ⟨gb119, 2, none⟩) (Kd.R_far (p := ⟨gb119, 1, none⟩) (Kd.R_far (p := ⟨gb119, 0, none⟩) (Kd.R_mono HO_6.out (fun k_ hk => (⟨hk, hk⟩ : _ ∧ k_ ≠ gb119))) (fun _ hk => hk.2) (.bool t115)) (fun _ hk => hk.2) (.int .i64 t116)) (fun _ hk => hk.2) (.string t117)) (fun _ hk => hk.1)⟩, ⟨by (try simp only [hl6_1]); (with_reducible repeat (first | refine blk_drewN ?_ _ | refine blk_drew ?_ | refine blk_alloc ?_ _)); refine blk_far ?_ NB111_119.out _; (with_reducible repeat (first | refine blk_drewN ?_ _ | refine blk_drew ?_ | refine blk_alloc ?_ _)); refine blk_far ?_ NB111_119.out _; (with_reducible repeat (first | refine blk_drewN ?_ _ | refine blk_drew ?_ | refine blk_alloc ?_ _)); refine blk_far ?_ NB111_119.out _; (with_reducible repeat (first | refine blk_drewN ?_ _ | refine blk_drew ?_ | refine blk_alloc ?_ _)); exact BK111.out⟩, ⟨by (try simp only [hl6_1]); (with_reducible repeat (first | refine blk_drewN ?_ _ | refine blk_drew ?_ | refine blk_alloc ?_ _)); refine blk_put (cs := #[.bool t115, .int .i64 t116, .string (⟨#[]⟩ : ByteArray)]) ?_ 2 _ rfl; (with_reducible repeat (first | refine blk_drewN ?_ _ | refine blk_drew ?_ | refine blk_alloc ?_ _)); refine blk_put (cs := #[.bool t115, .int .i64 0, .string (⟨#[]⟩ : ByteArray)]) ?_ 1 _ rfl; (with_reducible repeat (first | refine blk_drewN ?_ _ | refine blk_drew ?_ | refine blk_alloc ?_ _)); refine blk_put (cs := #[.bool false, .int .i64 0, .string (⟨#[]⟩ : ByteArray)]) ?_ 0 _ rfl; (with_reducible repeat (first | refine blk_drewN ?_ _ | refine blk_drew ?_ | refine blk_alloc ?_ _)); exact BK119.out⟩, (sB0 HB)⟩
         case rest =>
          clear HC22
          (try clear c2); (try clear c2b0); (try clear c2b1); (try clear c4); (try clear c4b0); (try clear c4b1); (try clear c5); (try clear c5b0); (try clear c5b1); (try clear c6); (try clear c6b0); (try clear c6b1); (try clear p7); (try clear q7); (try clear qi7); (try clear c12); (try clear c12b0); (try clear c13); (try clear c13b0); (try clear c14); (try clear c14b0); (try clear c16); (try clear c17); (try clear c17b0); (try clear c19); (try clear c21); (try clear c21b0); (try clear c21b1); (try clear c33); (try clear c33b0); (try clear c33b1); (try clear z24_0 z24_1 z24_2 z24_3 z24_4 q24_0 q24_1 q24_2 q24_3 q24_4); (try clear z35_0 z35_1 z35_2 z35_3 z35_4 q35_0 q35_1 q35_2 q35_3 q35_4); (try clear z37_0 z37_1 z37_2 z37_3 z37_4 q37_0 q37_1 q37_2 q37_3 q37_4); (try clear hx10_0); (try clear hx110_0); (try clear hx110_1); (try clear hx110_2); (try clear hx110_3); (try clear hx110_4); (try clear hx113_0); (try clear hx113_1); (try clear hx113_2); (try clear hx114_0); (try clear hx114_1); (try clear hx114_2); (try clear hx7_0); (try clear hx7_1); (try clear hx7_2); (try clear p110); (try clear p113); (try clear p114); (try clear p7); (try clear q110); (try clear q113); (try clear q114); (try clear q7)
          obtain ⟨kq, x64_21, rfl, HA, HJ21, HO_6, BK111, BK119, HB⟩ := hcut
          cases kq with
          | zero => exact absurd HA.out (by simp [fuglemanref14_All.j1])
          | succ kj21 =>
           have H := HA.out
           clear HA
           simp only [fuglemanref14_All.j1] at H
           have HC38 := Aside0.mk H
           clear H
           go_upto_if 64 with (fail)
           go_cut [11] (fun v11 wc => ∃ (kq : Nat) (x6_37 : List (S90)) (x11_37 : Bool) (x120000_37 : Bool) (x120001_37 : Int) (x120002_37 : ByteArray), v11 = .bool x11_37 ∧ Aside0 (fuglemanref14_All.j2 kq l0 (l0.length : Int) x6_37 x7_1 x11_37 ((rd_T54 l0 x7_1).f0) ((rd_T54 l0 x7_1).f1) ((rd_T54 l0 x7_1).f2) ((rd_T54 l0 x7_1).f3) ((rd_T54 l0 x7_1).f4) x120000_37 x120001_37 x120002_37 = some (r1, r2, r3)) ∧ Aside0 (kq ≤ kj21) ∧ Aside0 (Kd.R k90 90 wc w.heap.size (fun k_ => k_ ≠ gb119) (.slice (some ⟨go7, 0, none⟩) x6_1.length co7) x6_37) ∧ Aside0 (wc.heap[gb111]? = some (.cells #[.int .i64 ((rd_T54 l0 x7_1).f0), .int .i64 ((rd_T54 l0 x7_1).f1), .int .i64 ((rd_T54 l0 x7_1).f2), .int .i64 ((rd_T54 l0 x7_1).f3), .int .i64 ((rd_T54 l0 x7_1).f4)] 54 (0, 0))) ∧ Aside0 (wc.heap[gb119]? = some (.cells #[.bool x120000_37, .int .i64 x120001_37, .string x120002_37] 90 (0, 0))) ∧ Aside0 (Below w.heap.size w wc))
           case first =>
            have H := HC38.out
            clear HC38
            by_cases c39 : x64_21 = true
            ·subst c39
             have H1 : (if 0 ≤ (wrap64 (x7_1 + 1)) then (if (wrap64 (x7_1 + 1)) < (x6_1.length : Int) then ((fuglemanref14_join.f ((rd_T90 x6_1 (wrap64 (x7_1 + 1))).f0) ((rd_T90 x6_1 (wrap64 (x7_1 + 1))).f1) ((rd_T90 x6_1 (wrap64 (x7_1 + 1))).f2) t115 t116 t117).bind fun bt121 => (fuglemanref14_All.j2 kj21 l0 (l0.length : Int) (x6_1.set ((wrap64 (x7_1 + 1)) : Int).toNat (⟨bt121.1, bt121.2.1, bt121.2.2.1⟩ : S90)) x7_1 bt121.2.2.2 ((rd_T54 l0 x7_1).f0) ((rd_T54 l0 x7_1).f1) ((rd_T54 l0 x7_1).f2) ((rd_T54 l0 x7_1).f3) ((rd_T54 l0 x7_1).f4) t115 t116 t117)) else (none)) else (none)) = some (r1, r2, r3) := by rw [if_pos rfl] at H; exact H
             clear H
             have H := H1
             clear H1
             obtain ⟨ji40, hji40⟩ : ∃ j_ : Int, (wrap64 (x7_1 + 1)) = j_ := ⟨_, rfl⟩
             replace H : (if 0 ≤ (ji40) then (if (ji40) < (x6_1.length : Int) then ((fuglemanref14_join.f ((rd_T90 x6_1 (ji40)).f0) ((rd_T90 x6_1 (ji40)).f1) ((rd_T90 x6_1 (ji40)).f2) t115 t116 t117).bind fun bt121 => (fuglemanref14_All.j2 kj21 l0 (l0.length : Int) (x6_1.set ((ji40) : Int).toNat (⟨bt121.1, bt121.2.1, bt121.2.2.1⟩ : S90)) x7_1 bt121.2.2.2 ((rd_T54 l0 x7_1).f0) ((rd_T54 l0 x7_1).f1) ((rd_T54 l0 x7_1).f2) ((rd_T54 l0 x7_1).f3) ((rd_T54 l0 x7_1).f4) t115 t116 t117)) else (none)) else (none)) = some (r1, r2, r3) := by first | (rw [hji40] at H; exact H) | (simp only [hji40] at H ⊢; exact H)
             have hji40w : (IntKind.i64.wrap (x7_1 + 1)) = ji40 := (i64_w _).trans hji40
             by_cases c41 : 0 ≤ (ji40)
             ·rw [if_pos c41] at H
              have c41b0 : decide (0 ≤ (ji40)) = true := decide_eq_true c41
              clear c41
              (first | rw [c41b0] | (simp only [i64_w, i32_w]; rw [c41b0]) | skip)
              by_cases c42 : (ji40) < (x6_1.length : Int)
              ·rw [if_pos c42] at H
               have c42b0 : decide ((ji40) < (x6_1.length : Int)) = true := decide_eq_true c42
               clear c42
               replace H := Option.bind_eq_some_iff.mp H
               obtain ⟨⟨t121, t122, t123, t124⟩, A430, H⟩ := H
               replace H : (fuglemanref14_All.j2 kj21 l0 (l0.length : Int) (x6_1.set ((ji40) : Int).toNat (⟨t121, t122, t123⟩ : S90)) x7_1 t124 ((rd_T54 l0 x7_1).f0) ((rd_T54 l0 x7_1).f1) ((rd_T54 l0 x7_1).f2) ((rd_T54 l0 x7_1).f3) ((rd_T54 l0 x7_1).f4) t115 t116 t117) = some (r1, r2, r3) := H
               have A43 := Aside0.mk A430
               clear A430
               obtain ⟨y125, hy125⟩ : ∃ y_ : List (S90), y_ = (x6_1.set ((ji40) : Int).toNat (⟨t121, t122, t123⟩ : S90)) := ⟨_, rfl⟩
               replace H : (fuglemanref14_All.j2 kj21 l0 (l0.length : Int) y125 x7_1 t124 ((rd_T54 l0 x7_1).f0) ((rd_T54 l0 x7_1).f1) ((rd_T54 l0 x7_1).f2) ((rd_T54 l0 x7_1).f3) ((rd_T54 l0 x7_1).f4) t115 t116 t117) = some (r1, r2, r3) := by first | (rw [hy125]; with_reducible exact H) | (have H2_ := (Option.bind_some _ _).symm.trans H; rw [hy125]; with_reducible exact H2_) | (have H2_ := (Option.bind_some _ _).symm.trans H; with_reducible exact H2_) | with_reducible exact H | (rw [hy125]; exact H) | exact H
               have Ny125 := Aside0.mk hy125
               clear hy125
               have H' := Aside0.mk H
               clear H
               try go_wp2
               replace HO_6 := Aside0.mk (Kd.R_drew HO_6.out)
               replace BK111 := Aside0.mk (blk_drew BK111.out)
               replace BK119 := Aside0.mk (blk_drew BK119.out)
               replace HB := Aside0.mk (below_drew1 HB.out)
               have p120 : 0 ≤ ((ji40) : Int) := of_decide_eq_true (by first | (with_reducible assumption) | assumption)
               have q120 : (ji40) < (x6_1.length : Int) := of_decide_eq_true (by first | (with_reducible assumption) | assumption)
               obtain ⟨ad120, e120, hx120_0, hx120_1, hx120_2⟩ := at_T90 (Kd.R_reads' HO_6.out).2.2 (ji40) p120 q120
               (try rw [← Nbq18.out] at hx120_0)
               obtain rfl : (⟨go7, 0, none⟩ : Addr) = ad120 := (by injection e120)
               (first | simp only [add_plain] at hx120_0 | simp only [add_at] at hx120_0 | simp only [Addr.add, Nat.zero_add] at hx120_0 | skip)
               (first | simp only [add_plain] at hx120_1 | simp only [add_at] at hx120_1 | simp only [Addr.add, Nat.zero_add] at hx120_1 | skip)
               (first | simp only [add_plain] at hx120_2 | simp only [add_at] at hx120_2 | simp only [Addr.add, Nat.zero_add] at hx120_2 | skip)
               replace p120 := eq_true p120
               replace q120 := eq_true q120
               refine start_ (n := 16) (S := fun w' => w'.cell? ⟨gb119, 0, none⟩ = some (.bool t115) ∧ w'.cell? ⟨gb119, 1, none⟩ = some (.int .i64 t116) ∧ w'.cell? ⟨gb119, 2, none⟩ = some (.string t117) ∧ w'.cell? ⟨go7, ((ji40)).toNat * 3, none⟩ = some (.bool ((rd_T90 x6_1 (ji40)).f0)) ∧ w'.cell? ⟨go7, ((ji40)).toNat * 3 + 1, none⟩ = some (.int .i64 ((rd_T90 x6_1 (ji40)).f1)) ∧ w'.cell? ⟨go7, ((ji40)).toNat * 3 + 2, none⟩ = some (.string ((rd_T90 x6_1 (ji40)).f2))) (ds := [14]) #[false, false, false, false, false, false, false, false, false, false, false, false, false, false, false, false] (by kernel_rfl) rfl rfl ⟨sc BK119 0, sc BK119 1, sc BK119 2, hx120_0, hx120_1, hx120_2⟩ (fun hHeld => ?_); refine with_tabW fuglemanref14_All.tab18 fuglemanref14_All.bits18 (fun HT_ HW_ => ?_)
               generalize wc.drew = w45 at HO_6 BK111 BK119 HB hx120_0 hx120_1 hx120_2 hHeld ⊢
               refine pureK 0 (some 66) #[true, false, false, false, false, false, false, false, false, false, false, false, false, false, false, false] HT_ ?_
               refine pureK 1 (some 67) #[true, true, false, false, false, false, false, false, false, false, false, false, false, false, false, false] HT_ ?_
               refine pureK 2 (some 68) #[true, true, true, false, false, false, false, false, false, false, false, false, false, false, false, false] HT_ ?_
               refine pureK 3 (some 69) #[true, true, true, true, false, false, false, false, false, false, false, false, false, false, false, false] HT_ ?_
               refine pureK 4 (some 70) #[true, true, true, true, true, false, false, false, false, false, false, false, false, false, false, false] HT_ ?_
               refine pureK 5 (some 71) #[true, true, true, true, true, true, false, false, false, false, false, false, false, false, false, false] HT_ ?_
               refine pureK 6 (some 72) #[true, true, true, true, true, true, true, false, false, false, false, false, false, false, false, false] HT_ ?_
               refine takeK 7 (some 73) #[true, true, true, true, true, true, true, true, false, false, false, false, false, false, false, false] HT_ HW_ hHeld ?_ (hy := by (rintro w' ⟨s0, s1, s2, s3, s4, s5⟩; go_simp; with_reducible rfl))
               refine takeK 8 (some 74) #[true, true, true, true, true, true, true, true, true, false, false, false, false, false, false, false] HT_ HW_ hHeld ?_ (hy := by (rintro w' ⟨s0, s1, s2, s3, s4, s5⟩; go_simp; with_reducible rfl))
               refine one_ (i := 9) (N := some 75) #[true, true, true, true, true, true, true, true, true, true, false, false, false, false, false, false] rfl rfl (one_of HT_.out (by kernel_rfl)) (by decide) (fun K hK => ?_)
               refine goes_ Try.func57 (by kernel_rfl) rfl #[.agg #[.bool ((rd_T90 x6_1 (ji40)).f0), .int .i64 ((rd_T90 x6_1 (ji40)).f1), .string ((rd_T90 x6_1 (ji40)).f2)], .agg #[.bool t115, .int .i64 t116, .string t117]] (by rfl) rfl rfl (by (try simp only [List.map_toArray, List.map_cons, List.map_nil]); first | done | (simp only [hji40]; rfl) | rfl | (simp only [List.length_drop, List.length_take]; rfl)) ?_
               with_reducible refine (fuglemanref14_join.calls ((rd_T90 x6_1 (ji40)).f0) ((rd_T90 x6_1 (ji40)).f1) ((rd_T90 x6_1 (ji40)).f2) t115 t116 t117 t121 t122 t123 t124 _ A43.out).mono ?_
               rintro e w46 ⟨rfl, hb⟩
               have HS3_ := (hb.cell (World.block_lt_of_cell? _ _ (hHeld.2.2.2.1))).trans (hHeld.2.2.2.1)
               have HS4_ := (hb.cell (World.block_lt_of_cell? _ _ (hHeld.2.2.2.2.1))).trans (hHeld.2.2.2.2.1)
               have HS5_ := (hb.cell (World.block_lt_of_cell? _ _ (hHeld.2.2.2.2.2))).trans (hHeld.2.2.2.2.2)
               refine ⟨_, rfl, ?_⟩
               replace HO_6 := sR HO_6 hb
               replace BK111 := sK BK111 hb
               replace BK119 := sK BK119 hb
               replace HB := sB HB hb
               (try clear hb)
               have p44 : 0 ≤ ((ji40) : Int) := of_decide_eq_true (by first | (with_reducible assumption) | assumption)
               have q44 : ((ji40) : Int) < ((x6_1.length : Int) : Int) := of_decide_eq_true (by first | (with_reducible assumption) | assumption)
               obtain ⟨ce44, hcl44, hM44, hcc44, hfr44⟩ := Kd.R_elem HO_6.out z90 ((ji40) : Int) p44 q44
               obtain rfl := k90_openM hM44
               have hx44_0 : World.cell? _ ⟨go7, ((ji40) : Int).toNat * 3, none⟩ = some (.bool ((rd_T90 x6_1 (ji40)).f0)) := hcc44 0 _ rfl
               have hx44_1 : World.cell? _ ⟨go7, ((ji40) : Int).toNat * 3 + 1, none⟩ = some (.int .i64 ((rd_T90 x6_1 (ji40)).f1)) := hcc44 1 _ rfl
               have hx44_2 : World.cell? _ ⟨go7, ((ji40) : Int).toNat * 3 + 2, none⟩ = some (.string ((rd_T90 x6_1 (ji40)).f2)) := hcc44 2 _ rfl
               have hf44_0 : World.frozen? _ ⟨go7, ((ji40) : Int).toNat * 3, none⟩ = false := hfr44 0
               have hf44_1 : World.frozen? _ ⟨go7, ((ji40) : Int).toNat * 3 + 1, none⟩ = false := hfr44 1
               have hf44_2 : World.frozen? _ ⟨go7, ((ji40) : Int).toNat * 3 + 2, none⟩ = false := hfr44 2
               clear hcl44 hcc44 hfr44 hM44
               replace p44 := eq_true p44
               replace q44 := eq_true q44
               obtain ⟨ce47, hcl47, hM47, hcc47, hfr47⟩ := Kd.R_elem HO_6.out z90 ((ji40) : Int) (of_decide_eq_true (by first | (with_reducible assumption) | assumption)) (by have h_ : ((ji40) : Int) < ((x6_1.length : Int) : Int) := of_decide_eq_true (by first | (with_reducible assumption) | assumption); first | exact h_ | (have e_ := (Kd.R_reads' HO_6.out).1; omega) | simpa using h_)
               obtain rfl := k90_openM hM47
               have HP47 := (Kd.R_seg HO_6.out ((ji40) : Int) (of_decide_eq_true (by first | (with_reducible assumption) | assumption)) (by have h_ : ((ji40) : Int) < ((x6_1.length : Int) : Int) := of_decide_eq_true (by first | (with_reducible assumption) | assumption); first | exact h_ | (have e_ := (Kd.R_reads' HO_6.out).1; omega) | simpa using h_) (seg := [.bool t121, .int .i64 t122, .string t123]) (j := 0) hcl47 hcc47 (show 3 ≤ 3 from by decide) (x' := (⟨t121, t122, t123⟩ : S90)) (k90_mkM _ _ _ (⟨t121, t122, t123⟩ : S90) ) (fun _ hk => hk)).1
               rw [← Ny125.out] at HP47
               have HQ47 := Aside0.mk HP47
               clear hcl47 hcc47 hfr47 hM47 HP47
               refine hK.out _ _ ⟨sc BK119 0, sc BK119 1, sc BK119 2, HS3_, HS4_, HS5_⟩ (fun hHeld => ?_)
               clear hK K
               refine norm_ (a' := ?_) ?_ ?_
               rotate_left
               ·show Act.put _ (some 75) _ = _
                simp only [Act.put, List.setIfInBounds_toArray, List.set_cons_zero, List.set_cons_succ, i64_w, i32_w]
                rfl
               refine pureK 10 (some 65) #[true, true, true, true, true, true, true, true, true, true, true, false, false, false, false, false] HT_ ?_
               refine pureK 11 (some 76) #[true, true, true, true, true, true, true, true, true, true, true, true, false, false, false, false] HT_ ?_
               refine pureK 12 (some 77) #[true, true, true, true, true, true, true, true, true, true, true, true, true, false, false, false] HT_ ?_
               refine pureK 13 (some 78) #[true, true, true, true, true, true, true, true, true, true, true, true, true, true, false, false] HT_ ?_
               refine last_ (i := 14) (N := none) #[true, true, true, true, true, true, true, true, true, true, true, true, true, true, true, false] rfl rfl (one_of HT_.out (by kernel_rfl)) (by decide) (fun K hK => ?_)
               refine skip_ (w1 := ?_) (by rfl) rfl ?_ ?_
               rotate_left
               ·go_simp
                rfl
               refine hK.out _ _ ?_
               clear hK K
               refine pureK 15 (some 11) #[true, true, true, true, true, true, true, true, true, true, true, true, true, true, true, true] HT_ ?_
               refine done_ (done_of HT_.out (by kernel_rfl)) ?_
               try go_wp2
               go_meet
               case rel => exact ⟨_, (y125), (t124), (t115), (t116), (t117), (by first | rfl | (simp; done) | (simp [*]; done)), H', ⟨by have := HK1.out; have := HJ21.out; first | omega | exact Nat.le_refl _⟩, ⟨by (try simp only [hl6_1]); (with_reducible repeat (first | apply Kd.R_alloc | apply Kd.R_drewN | apply Kd.R_drew)); exact HQ47.out⟩, ⟨by (try simp only [hl6_1]); (with_reducible repeat (first | refine blk_drewN ?_ _ | refine blk_drew ?_ | refine blk_alloc ?_ _)); refine blk_far ?_ (by have h_ := Kd.R_ne HO_6.out BK111.out (by decide); intro e_; exact h_ (by rw [e_]; rfl)) _; (with_reducible repeat (first | refine blk_drewN ?_ _ | refine blk_drew ?_ | refine blk_alloc ?_ _)); refine blk_far ?_ (by have h_ := Kd.R_ne HO_6.out BK111.out (by decide); intro e_; exact h_ (by rw [e_]; rfl)) _; (with_reducible repeat (first | refine blk_drewN ?_ _ | refine blk_drew ?_ | refine blk_alloc ?_ _)); refine blk_far ?_ (by have h_ := Kd.R_ne HO_6.out BK111.out (by decide); intro e_; exact h_ (by rw [e_]; rfl)) _; (with_reducible repeat (first | refine blk_drewN ?_ _ | refine blk_drew ?_ | refine blk_alloc ?_ _)); exact BK111.out⟩, ⟨by (try simp only [hl6_1]); (with_reducible repeat (first | refine blk_drewN ?_ _ | refine blk_drew ?_ | refine blk_alloc ?_ _)); refine blk_far ?_ (by have h_ := Kd.R_away HO_6.out (fun _ hk => hk); intro e_; exact h_ (by rw [e_]; rfl)) _; (with_reducible repeat (first | refine blk_drewN ?_ _ | refine blk_drew ?_ | refine blk_alloc ?_ _)); refine blk_far ?_ (by have h_ := Kd.R_away HO_6.out (fun _ hk => hk); intro e_; exact h_ (by rw [e_]; rfl)) _; (with_reducible repeat (first | refine blk_drewN ?_ _ | refine blk_drew ?_ | refine blk_alloc ?_ _)); refine blk_far ?_ (by have h_ := Kd.R_away HO_6.out (fun _ hk => hk); intro e_; exact h_ (by rw [e_]; rfl)) _; (with_reducible repeat (first | refine blk_drewN ?_ _ | refine blk_drew ?_ | refine blk_alloc ?_ _)); exact BK119.out⟩, ⟨by repeat (first | (with_reducible first | exact HB.out | apply below_alloc | apply pw_below_drewN | apply below_drew1 | refine below_set ?_ GB7.out | refine below_set ?_ GB7.out | refine below_set ?_ GB7.out | refine below_set ?_ GE111.out | refine below_set ?_ GE119.out) | exact HB.out)⟩⟩
              ·rw [if_neg c42] at H
               exact absurd H (by simp)
             ·rw [if_neg c41] at H
              exact absurd H (by simp)
            ·replace c39 := Bool.eq_false_iff.mpr c39
             subst c39
             have H1 : (fuglemanref14_All.j2 kj21 l0 (l0.length : Int) x6_1 x7_1 true ((rd_T54 l0 x7_1).f0) ((rd_T54 l0 x7_1).f1) ((rd_T54 l0 x7_1).f2) ((rd_T54 l0 x7_1).f3) ((rd_T54 l0 x7_1).f4) t115 t116 t117) = some (r1, r2, r3) := by rw [if_neg (show ¬ (false = true) by decide)] at H; exact H
             clear H
             have H := H1
             clear H1
             have H' := Aside0.mk H
             clear H
             go_wp2
             go_meet
             case rel => exact ⟨_, (x6_1), (true), (t115), (t116), (t117), (by first | rfl | (simp; done) | (simp [*]; done)), H', ⟨by have := HK1.out; have := HJ21.out; first | omega | exact Nat.le_refl _⟩, ⟨by (try simp only [hl6_1]); (with_reducible repeat (first | apply Kd.R_alloc | apply Kd.R_drewN | apply Kd.R_drew)); exact HO_6.out⟩, ⟨by (try simp only [hl6_1]); (with_reducible repeat (first | refine blk_drewN ?_ _ | refine blk_drew ?_ | refine blk_alloc ?_ _)); exact BK111.out⟩, ⟨by (try simp only [hl6_1]); (with_reducible repeat (first | refine blk_drewN ?_ _ | refine blk_drew ?_ | refine blk_alloc ?_ _)); exact BK119.out⟩, (sB0 HB)⟩
           case rest =>
            clear HC38
            (try clear c2); (try clear c2b0); (try clear c2b1); (try clear c4); (try clear c4b0); (try clear c4b1); (try clear c5); (try clear c5b0); (try clear c5b1); (try clear c6); (try clear c6b0); (try clear c6b1); (try clear p7); (try clear q7); (try clear qi7); (try clear c12); (try clear c12b0); (try clear c13); (try clear c13b0); (try clear c14); (try clear c14b0); (try clear c16); (try clear c17); (try clear c17b0); (try clear c19); (try clear c21); (try clear c21b0); (try clear c21b1); (try clear c33); (try clear c33b0); (try clear c33b1); (try clear c39); (try clear c41); (try clear c41b0); (try clear c42); (try clear c42b0); (try clear p44); (try clear q44); (try clear z24_0 z24_1 z24_2 z24_3 z24_4 q24_0 q24_1 q24_2 q24_3 q24_4); (try clear z35_0 z35_1 z35_2 z35_3 z35_4 q35_0 q35_1 q35_2 q35_3 q35_4); (try clear z37_0 z37_1 z37_2 z37_3 z37_4 q37_0 q37_1 q37_2 q37_3 q37_4); (try clear hx10_0); (try clear hx110_0); (try clear hx110_1); (try clear hx110_2); (try clear hx110_3); (try clear hx110_4); (try clear hx113_0); (try clear hx113_1); (try clear hx113_2); (try clear hx114_0); (try clear hx114_1); (try clear hx114_2); (try clear hx120_0); (try clear hx120_1); (try clear hx120_2); (try clear hx44_0); (try clear hx44_1); (try clear hx44_2); (try clear hx7_0); (try clear hx7_1); (try clear hx7_2); (try clear p110); (try clear p113); (try clear p114); (try clear p120); (try clear p44); (try clear p7); (try clear q110); (try clear q113); (try clear q114); (try clear q120); (try clear q44); (try clear q7)
            obtain ⟨kq, x6_37, x11_37, x120000_37, x120001_37, x120002_37, rfl, HA, HJ37, HO_6, BK111, BK119, HB⟩ := hcut
            have hl6_37 := (Kd.R_reads' HO_6.out).1
            rw [hl6_37] at HO_6
            (try simp only [hl6_37])
            (try simp only [hl6_37] at BK111)
            (try simp only [hl6_37] at BK119)
            cases kq with
            | zero => exact absurd HA.out (by simp [fuglemanref14_All.j2])
            | succ kj37 =>
             have H := HA.out
             clear HA
             simp only [fuglemanref14_All.j2] at H
             have HC48 := Aside0.mk H
             clear H
             go_upto_region 19 with (fail)
             go_cut [89] (fun v89 wc => ∃ (kq : Nat) (x89_47 : Bool), v89 = .bool x89_47 ∧ Aside0 (fuglemanref14_All.j3 kq l0 (l0.length : Int) x6_37 x7_1 x11_37 x89_47 ((rd_T54 l0 x7_1).f0) ((rd_T54 l0 x7_1).f1) ((rd_T54 l0 x7_1).f2) ((rd_T54 l0 x7_1).f3) ((rd_T54 l0 x7_1).f4) x120000_37 x120001_37 x120002_37 = some (r1, r2, r3)) ∧ Aside0 (kq ≤ kj37) ∧ Aside0 (Kd.R k90 90 wc w.heap.size (fun k_ => k_ ≠ gb119) (.slice (some ⟨go7, 0, none⟩) x6_37.length co7) x6_37) ∧ Aside0 (wc.heap[gb111]? = some (.cells #[.int .i64 ((rd_T54 l0 x7_1).f0), .int .i64 ((rd_T54 l0 x7_1).f1), .int .i64 ((rd_T54 l0 x7_1).f2), .int .i64 ((rd_T54 l0 x7_1).f3), .int .i64 ((rd_T54 l0 x7_1).f4)] 54 (0, 0))) ∧ Aside0 (wc.heap[gb119]? = some (.cells #[.bool x120000_37, .int .i64 x120001_37, .string x120002_37] 90 (0, 0))) ∧ Aside0 (Below w.heap.size w wc))
             case first =>
              have H := HC48.out
              clear HC48
              by_cases c49 : x11_37 = true
              ·subst c49
               have H1 : (if ((rd_T54 l0 x7_1).f0) ≥ 25 then (fuglemanref14_All.j3 kj37 l0 (l0.length : Int) x6_37 x7_1 true (decide (((rd_T54 l0 x7_1).f0) ≤ 27)) ((rd_T54 l0 x7_1).f0) ((rd_T54 l0 x7_1).f1) ((rd_T54 l0 x7_1).f2) ((rd_T54 l0 x7_1).f3) ((rd_T54 l0 x7_1).f4) x120000_37 x120001_37 x120002_37) else (fuglemanref14_All.j3 kj37 l0 (l0.length : Int) x6_37 x7_1 true false ((rd_T54 l0 x7_1).f0) ((rd_T54 l0 x7_1).f1) ((rd_T54 l0 x7_1).f2) ((rd_T54 l0 x7_1).f3) ((rd_T54 l0 x7_1).f4) x120000_37 x120001_37 x120002_37)) = some (r1, r2, r3) := by rw [if_pos rfl] at H; exact H
               clear H
               have H := H1
               clear H1
               by_cases c50 : ((rd_T54 l0 x7_1).f0) ≥ 25
               ·rw [if_pos c50] at H
                have c50b0 : decide (25 ≤ ((rd_T54 l0 x7_1).f0)) = true := decide_eq_true c50
                clear c50
                (first | rw [c50b0] | (simp only [i64_w, i32_w]; rw [c50b0]) | skip)
                have H' := Aside0.mk H
                clear H
                have hnb51 := NB111_119.out
                have hnc51 := NB119_111.out
                obtain ⟨z52_0, z52_1, z52_2, z52_3, z52_4, q52_0, q52_1, q52_2, q52_3, q52_4⟩ := bk5 BK111
                go_wp2
                go_meet
                case rel => exact ⟨_, (decide (((rd_T54 l0 x7_1).f0) ≤ 27)), (by first | rfl | (simp; done) | (simp [*]; done)), H', ⟨by have := HK1.out; have := HJ21.out; have := HJ37.out; first | omega | exact Nat.le_refl _⟩, ⟨by (try simp only [hl6_1]); (try simp only [hl6_37]); (with_reducible repeat (first | apply Kd.R_alloc | apply Kd.R_drewN | apply Kd.R_drew)); exact HO_6.out⟩, ⟨by (try simp only [hl6_1]); (try simp only [hl6_37]); (with_reducible repeat (first | refine blk_drewN ?_ _ | refine blk_drew ?_ | refine blk_alloc ?_ _)); exact BK111.out⟩, ⟨by (try simp only [hl6_1]); (try simp only [hl6_37]); (with_reducible repeat (first | refine blk_drewN ?_ _ | refine blk_drew ?_ | refine blk_alloc ?_ _)); exact BK119.out⟩, (sB0 HB)⟩
               ·rw [if_neg c50] at H
                have c50b0 : decide (25 ≤ ((rd_T54 l0 x7_1).f0)) = false := decide_eq_false c50
                clear c50
                (first | rw [c50b0] | (simp only [i64_w, i32_w]; rw [c50b0]) | skip)
                have H' := Aside0.mk H
                clear H
                have hnb53 := NB111_119.out
                have hnc53 := NB119_111.out
                obtain ⟨z54_0, z54_1, z54_2, z54_3, z54_4, q54_0, q54_1, q54_2, q54_3, q54_4⟩ := bk5 BK111
                go_wp2
                go_meet
                case rel => exact ⟨_, (false), (by first | rfl | (simp; done) | (simp [*]; done)), H', ⟨by have := HK1.out; have := HJ21.out; have := HJ37.out; first | omega | exact Nat.le_refl _⟩, ⟨by (try simp only [hl6_1]); (try simp only [hl6_37]); (with_reducible repeat (first | apply Kd.R_alloc | apply Kd.R_drewN | apply Kd.R_drew)); exact HO_6.out⟩, ⟨by (try simp only [hl6_1]); (try simp only [hl6_37]); (with_reducible repeat (first | refine blk_drewN ?_ _ | refine blk_drew ?_ | refine blk_alloc ?_ _)); exact BK111.out⟩, ⟨by (try simp only [hl6_1]); (try simp only [hl6_37]); (with_reducible repeat (first | refine blk_drewN ?_ _ | refine blk_drew ?_ | refine blk_alloc ?_ _)); exact BK119.out⟩, (sB0 HB)⟩
              ·replace c49 := Bool.eq_false_iff.mpr c49
               subst c49
               have H1 : (fuglemanref14_All.j3 kj37 l0 (l0.length : Int) x6_37 x7_1 false false ((rd_T54 l0 x7_1).f0) ((rd_T54 l0 x7_1).f1) ((rd_T54 l0 x7_1).f2) ((rd_T54 l0 x7_1).f3) ((rd_T54 l0 x7_1).f4) x120000_37 x120001_37 x120002_37) = some (r1, r2, r3) := by rw [if_neg (show ¬ (false = true) by decide)] at H; exact H
               clear H
               have H := H1
               clear H1
               have H' := Aside0.mk H
               clear H
               go_wp2
               go_meet
               case rel => exact ⟨_, (false), (by first | rfl | (simp; done) | (simp [*]; done)), H', ⟨by have := HK1.out; have := HJ21.out; have := HJ37.out; first | omega | exact Nat.le_refl _⟩, ⟨by (try simp only [hl6_1]); (try simp only [hl6_37]); (with_reducible repeat (first | apply Kd.R_alloc | apply Kd.R_drewN | apply Kd.R_drew)); exact HO_6.out⟩, ⟨by (try simp only [hl6_1]); (try simp only [hl6_37]); (with_reducible repeat (first | refine blk_drewN ?_ _ | refine blk_drew ?_ | refine blk_alloc ?_ _)); exact BK111.out⟩, ⟨by (try simp only [hl6_1]); (try simp only [hl6_37]); (with_reducible repeat (first | refine blk_drewN ?_ _ | refine blk_drew ?_ | refine blk_alloc ?_ _)); exact BK119.out⟩, (sB0 HB)⟩
             case rest =>
              clear HC48
              (try clear c2); (try clear c2b0); (try clear c2b1); (try clear c4); (try clear c4b0); (try clear c4b1); (try clear c5); (try clear c5b0); (try clear c5b1); (try clear c6); (try clear c6b0); (try clear c6b1); (try clear p7); (try clear q7); (try clear qi7); (try clear c12); (try clear c12b0); (try clear c13); (try clear c13b0); (try clear c14); (try clear c14b0); (try clear c16); (try clear c17); (try clear c17b0); (try clear c19); (try clear c21); (try clear c21b0); (try clear c21b1); (try clear c33); (try clear c33b0); (try clear c33b1); (try clear c39); (try clear c41); (try clear c41b0); (try clear c42); (try clear c42b0); (try clear p44); (try clear q44); (try clear c49); (try clear c50); (try clear c50b0); (try clear z24_0 z24_1 z24_2 z24_3 z24_4 q24_0 q24_1 q24_2 q24_3 q24_4); (try clear z35_0 z35_1 z35_2 z35_3 z35_4 q35_0 q35_1 q35_2 q35_3 q35_4); (try clear z37_0 z37_1 z37_2 z37_3 z37_4 q37_0 q37_1 q37_2 q37_3 q37_4); (try clear z52_0 z52_1 z52_2 z52_3 z52_4 q52_0 q52_1 q52_2 q52_3 q52_4); (try clear z54_0 z54_1 z54_2 z54_3 z54_4 q54_0 q54_1 q54_2 q54_3 q54_4); (try clear hx10_0); (try clear hx110_0); (try clear hx110_1); (try clear hx110_2); (try clear hx110_3); (try clear hx110_4); (try clear hx113_0); (try clear hx113_1); (try clear hx113_2); (try clear hx114_0); (try clear hx114_1); (try clear hx114_2); (try clear hx120_0); (try clear hx120_1); (try clear hx120_2); (try clear hx44_0); (try clear hx44_1); (try clear hx44_2); (try clear hx7_0); (try clear hx7_1); (try clear hx7_2); (try clear p110); (try clear p113); (try clear p114); (try clear p120); (try clear p44); (try clear p7); (try clear q110); (try clear q113); (try clear q114); (try clear q120); (try clear q44); (try clear q7)
              obtain ⟨kq, x89_47, rfl, HA, HJ47, HO_6, BK111, BK119, HB⟩ := hcut
              cases kq with
              | zero => exact absurd HA.out (by simp [fuglemanref14_All.j3])
              | succ kj47 =>
               have H := HA.out
               clear HA
               simp only [fuglemanref14_All.j3] at H
               by_cases c55 : x89_47 = true
               ·subst c55
                have H1 : (if 0 ≤ ((rd_T54 l0 x7_1).f3) then (if ((rd_T54 l0 x7_1).f3) < (x6_37.length : Int) then ((fuglemanref14_join.f ((rd_T90 x6_37 ((rd_T54 l0 x7_1).f3)).f0) ((rd_T90 x6_37 ((rd_T54 l0 x7_1).f3)).f1) ((rd_T90 x6_37 ((rd_T54 l0 x7_1).f3)).f2) x120000_37 x120001_37 x120002_37).bind fun bt127 => (if bt127.2.2.2 = true then (fuglemanref14_All.l0 kj47 l0 (l0.length : Int) (x6_37.set (((rd_T54 l0 x7_1).f3) : Int).toNat (⟨bt127.1, bt127.2.1, bt127.2.2.1⟩ : S90)) (wrap64 (x7_1 + 1))) else (some (([] : List (S90)), 7, x7_1)))) else (none)) else (none)) = some (r1, r2, r3) := by rw [if_pos rfl] at H; exact H
                clear H
                have H := H1
                clear H1
                by_cases c56 : 0 ≤ ((rd_T54 l0 x7_1).f3)
                ·rw [if_pos c56] at H
                 have c56b0 : decide (0 ≤ ((rd_T54 l0 x7_1).f3)) = true := decide_eq_true c56
                 clear c56
                 by_cases c57 : ((rd_T54 l0 x7_1).f3) < (x6_37.length : Int)
                 ·rw [if_pos c57] at H
                  have c57b0 : decide (((rd_T54 l0 x7_1).f3) < (x6_37.length : Int)) = true := decide_eq_true c57
                  clear c57
                  replace H := Option.bind_eq_some_iff.mp H
                  obtain ⟨⟨t127, t128, t129, t130⟩, A580, H⟩ := H
                  replace H : (if t130 = true then (fuglemanref14_All.l0 kj47 l0 (l0.length : Int) (x6_37.set (((rd_T54 l0 x7_1).f3) : Int).toNat (⟨t127, t128, t129⟩ : S90)) (wrap64 (x7_1 + 1))) else (some (([] : List (S90)), 7, x7_1))) = some (r1, r2, r3) := H
                  have A58 := Aside0.mk A580
                  clear A580
                  obtain ⟨y131, hy131⟩ : ∃ y_ : List (S90), y_ = (x6_37.set (((rd_T54 l0 x7_1).f3) : Int).toNat (⟨t127, t128, t129⟩ : S90)) := ⟨_, rfl⟩
                  replace H : (if t130 = true then (fuglemanref14_All.l0 kj47 l0 (l0.length : Int) y131 (wrap64 (x7_1 + 1))) else (some (([] : List (S90)), 7, x7_1))) = some (r1, r2, r3) := by first | (rw [hy131]; with_reducible exact H) | (have H2_ := (Option.bind_some _ _).symm.trans H; rw [hy131]; with_reducible exact H2_) | (have H2_ := (Option.bind_some _ _).symm.trans H; with_reducible exact H2_) | with_reducible exact H | (rw [hy131]; exact H) | exact H
                  have Ny131 := Aside0.mk hy131
                  clear hy131
                  by_cases c60 : t130 = true
                  ·subst c60
                   have H1 : (fuglemanref14_All.l0 kj47 l0 (l0.length : Int) y131 (wrap64 (x7_1 + 1))) = some (r1, r2, r3) := by rw [if_pos rfl] at H; exact H
                   clear H
                   have H := H1
                   clear H1
                   have H' := Aside0.mk H
                   clear H
                   try go_wp2
                   replace HO_6 := Aside0.mk (Kd.R_drew HO_6.out)
                   replace BK111 := Aside0.mk (blk_drew BK111.out)
                   replace BK119 := Aside0.mk (blk_drew BK119.out)
                   replace HB := Aside0.mk (below_drew1 HB.out)
                   have p126 : 0 ≤ (((rd_T54 l0 x7_1).f3) : Int) := of_decide_eq_true (by first | (with_reducible assumption) | assumption)
                   have q126 : ((rd_T54 l0 x7_1).f3) < (x6_37.length : Int) := of_decide_eq_true (by first | (with_reducible assumption) | assumption)
                   obtain ⟨ad126, e126, hx126_0, hx126_1, hx126_2⟩ := at_T90 (Kd.R_reads' HO_6.out).2.2 ((rd_T54 l0 x7_1).f3) p126 q126
                   (try rw [← Nbq18.out] at hx126_0)
                   obtain rfl : (⟨go7, 0, none⟩ : Addr) = ad126 := (by injection e126)
                   (first | simp only [add_plain] at hx126_0 | simp only [add_at] at hx126_0 | simp only [Addr.add, Nat.zero_add] at hx126_0 | skip)
                   (first | simp only [add_plain] at hx126_1 | simp only [add_at] at hx126_1 | simp only [Addr.add, Nat.zero_add] at hx126_1 | skip)
                   (first | simp only [add_plain] at hx126_2 | simp only [add_at] at hx126_2 | simp only [Addr.add, Nat.zero_add] at hx126_2 | skip)
                   replace p126 := eq_true p126
                   replace q126 := eq_true q126
                   refine start_ (n := 16) (S := fun w' => w'.cell? ⟨gb111, 0, none⟩ = some (.int .i64 ((rd_T54 l0 x7_1).f0)) ∧ w'.cell? ⟨gb111, 1, none⟩ = some (.int .i64 ((rd_T54 l0 x7_1).f1)) ∧ w'.cell? ⟨gb111, 2, none⟩ = some (.int .i64 ((rd_T54 l0 x7_1).f2)) ∧ w'.cell? ⟨gb111, 3, none⟩ = some (.int .i64 ((rd_T54 l0 x7_1).f3)) ∧ w'.cell? ⟨gb111, 4, none⟩ = some (.int .i64 ((rd_T54 l0 x7_1).f4)) ∧ w'.cell? ⟨gb119, 0, none⟩ = some (.bool x120000_37) ∧ w'.cell? ⟨gb119, 1, none⟩ = some (.int .i64 x120001_37) ∧ w'.cell? ⟨gb119, 2, none⟩ = some (.string x120002_37) ∧ w'.cell? ⟨go7, (((rd_T54 l0 x7_1).f3)).toNat * 3, none⟩ = some (.bool ((rd_T90 x6_37 ((rd_T54 l0 x7_1).f3)).f0)) ∧ w'.cell? ⟨go7, (((rd_T54 l0 x7_1).f3)).toNat * 3 + 1, none⟩ = some (.int .i64 ((rd_T90 x6_37 ((rd_T54 l0 x7_1).f3)).f1)) ∧ w'.cell? ⟨go7, (((rd_T54 l0 x7_1).f3)).toNat * 3 + 2, none⟩ = some (.string ((rd_T90 x6_37 ((rd_T54 l0 x7_1).f3)).f2))) (ds := [14]) #[false, false, false, false, false, false, false, false, false, false, false, false, false, false, false, false] (by kernel_rfl) rfl rfl ⟨sc BK111 0, sc BK111 1, sc BK111 2, sc BK111 3, sc BK111 4, sc BK119 0, sc BK119 1, sc BK119 2, hx126_0, hx126_1, hx126_2⟩ (fun hHeld => ?_); refine with_tabW fuglemanref14_All.tab20 fuglemanref14_All.bits20 (fun HT_ HW_ => ?_)
                   generalize wc.drew = w61 at HO_6 BK111 BK119 HB hx126_0 hx126_1 hx126_2 hHeld ⊢
                   refine pureK 0 (some 91) #[true, false, false, false, false, false, false, false, false, false, false, false, false, false, false, false] HT_ ?_
                   refine pureK 1 (some 92) #[true, true, false, false, false, false, false, false, false, false, false, false, false, false, false, false] HT_ ?_
                   refine pureK 3 (some 94) #[true, true, false, true, false, false, false, false, false, false, false, false, false, false, false, false] HT_ ?_
                   refine pureK 4 (some 95) #[true, true, false, true, true, false, false, false, false, false, false, false, false, false, false, false] HT_ ?_
                   refine takeK 2 (some 93) #[true, true, true, true, true, false, false, false, false, false, false, false, false, false, false, false] HT_ HW_ hHeld ?_ (hy := by (rintro w' ⟨s0, s1, s2, s3, s4, s5, s6, s7, s8, s9, s10⟩; go_simp; with_reducible rfl))
                   refine takeK 5 (some 96) #[true, true, true, true, true, true, false, false, false, false, false, false, false, false, false, false] HT_ HW_ hHeld ?_ (hy := by (rintro w' ⟨s0, s1, s2, s3, s4, s5, s6, s7, s8, s9, s10⟩; go_simp; with_reducible rfl))
                   refine pureK 6 (some 97) #[true, true, true, true, true, true, true, false, false, false, false, false, false, false, false, false] HT_ ?_
                   refine takeK 7 (some 98) #[true, true, true, true, true, true, true, true, false, false, false, false, false, false, false, false] HT_ HW_ hHeld ?_ (hy := by (rintro w' ⟨s0, s1, s2, s3, s4, s5, s6, s7, s8, s9, s10⟩; go_simp; with_reducible rfl))
                   refine takeK 8 (some 99) #[true, true, true, true, true, true, true, true, true, false, false, false, false, false, false, false] HT_ HW_ hHeld ?_ (hy := by (rintro w' ⟨s0, s1, s2, s3, s4, s5, s6, s7, s8, s9, s10⟩; go_simp; with_reducible rfl))
                   refine one_ (i := 9) (N := some 100) #[true, true, true, true, true, true, true, true, true, true, false, false, false, false, false, false] rfl rfl (one_of HT_.out (by kernel_rfl)) (by decide) (fun K hK => ?_)
                   refine goesR Try.func57 #[.agg #[.bool ((rd_T90 x6_37 ((rd_T54 l0 x7_1).f3)).f0), .int .i64 ((rd_T90 x6_37 ((rd_T54 l0 x7_1).f3)).f1), .string ((rd_T90 x6_37 ((rd_T54 l0 x7_1).f3)).f2)], .agg #[.bool x120000_37, .int .i64 x120001_37, .string x120002_37]] ?_
                   with_reducible refine (fuglemanref14_join.calls ((rd_T90 x6_37 ((rd_T54 l0 x7_1).f3)).f0) ((rd_T90 x6_37 ((rd_T54 l0 x7_1).f3)).f1) ((rd_T90 x6_37 ((rd_T54 l0 x7_1).f3)).f2) x120000_37 x120001_37 x120002_37 t127 t128 t129 true _ A58.out).mono ?_
                   rintro e w62 ⟨rfl, hb⟩
                   have HS8_ := (hb.cell (World.block_lt_of_cell? _ _ (hHeld.2.2.2.2.2.2.2.2.1))).trans (hHeld.2.2.2.2.2.2.2.2.1)
                   have HS9_ := (hb.cell (World.block_lt_of_cell? _ _ (hHeld.2.2.2.2.2.2.2.2.2.1))).trans (hHeld.2.2.2.2.2.2.2.2.2.1)
                   have HS10_ := (hb.cell (World.block_lt_of_cell? _ _ (hHeld.2.2.2.2.2.2.2.2.2.2))).trans (hHeld.2.2.2.2.2.2.2.2.2.2)
                   refine ⟨_, rfl, ?_⟩
                   replace HO_6 := sR HO_6 hb
                   replace BK111 := sK BK111 hb
                   replace BK119 := sK BK119 hb
                   replace HB := sB HB hb
                   (try clear hb)
                   have p59 : 0 ≤ (((rd_T54 l0 x7_1).f3) : Int) := of_decide_eq_true (by first | (with_reducible assumption) | assumption)
                   have q59 : (((rd_T54 l0 x7_1).f3) : Int) < ((x6_37.length : Int) : Int) := of_decide_eq_true (by first | (with_reducible assumption) | assumption)
                   obtain ⟨ce59, hcl59, hM59, hcc59, hfr59⟩ := Kd.R_elem HO_6.out z90 (((rd_T54 l0 x7_1).f3) : Int) p59 q59
                   obtain rfl := k90_openM hM59
                   have hx59_0 : World.cell? _ ⟨go7, (((rd_T54 l0 x7_1).f3) : Int).toNat * 3, none⟩ = some (.bool ((rd_T90 x6_37 ((rd_T54 l0 x7_1).f3)).f0)) := hcc59 0 _ rfl
                   have hx59_1 : World.cell? _ ⟨go7, (((rd_T54 l0 x7_1).f3) : Int).toNat * 3 + 1, none⟩ = some (.int .i64 ((rd_T90 x6_37 ((rd_T54 l0 x7_1).f3)).f1)) := hcc59 1 _ rfl
                   have hx59_2 : World.cell? _ ⟨go7, (((rd_T54 l0 x7_1).f3) : Int).toNat * 3 + 2, none⟩ = some (.string ((rd_T90 x6_37 ((rd_T54 l0 x7_1).f3)).f2)) := hcc59 2 _ rfl
                   have hf59_0 : World.frozen? _ ⟨go7, (((rd_T54 l0 x7_1).f3) : Int).toNat * 3, none⟩ = false := hfr59 0
                   have hf59_1 : World.frozen? _ ⟨go7, (((rd_T54 l0 x7_1).f3) : Int).toNat * 3 + 1, none⟩ = false := hfr59 1
                   have hf59_2 : World.frozen? _ ⟨go7, (((rd_T54 l0 x7_1).f3) : Int).toNat * 3 + 2, none⟩ = false := hfr59 2
                   clear hcl59 hcc59 hfr59 hM59
                   replace p59 := eq_true p59
                   replace q59 := eq_true q59
                   obtain ⟨ce63, hcl63, hM63, hcc63, hfr63⟩ := Kd.R_elem HO_6.out z90 (((rd_T54 l0 x7_1).f3) : Int) (of_decide_eq_true (by first | (with_reducible assumption) | assumption)) (by have h_ : (((rd_T54 l0 x7_1).f3) : Int) < ((x6_37.length : Int) : Int) := of_decide_eq_true (by first | (with_reducible assumption) | assumption); first | exact h_ | (have e_ := (Kd.R_reads' HO_6.out).1; omega) | simpa using h_)
                   obtain rfl := k90_openM hM63
                   have HP63 := (Kd.R_seg HO_6.out (((rd_T54 l0 x7_1).f3) : Int) (of_decide_eq_true (by first | (with_reducible assumption) | assumption)) (by have h_ : (((rd_T54 l0 x7_1).f3) : Int) < ((x6_37.length : Int) : Int) := of_decide_eq_true (by first | (with_reducible assumption) | assumption); first | exact h_ | (have e_ := (Kd.R_reads' HO_6.out).1; omega) | simpa using h_) (seg := [.bool t127, .int .i64 t128, .string t129]) (j := 0) hcl63 hcc63 (show 3 ≤ 3 from by decide) (x' := (⟨t127, t128, t129⟩ : S90)) (k90_mkM _ _ _ (⟨t127, t128, t129⟩ : S90) ) (fun _ hk => hk)).1
                   rw [← Ny131.out] at HP63
                   have HQ63 := Aside0.mk HP63
                   clear hcl63 hcc63 hfr63 hM63 HP63
                   refine hK.out _ _ ⟨sc BK111 0, sc BK111 1, sc BK111 2, sc BK111 3, sc BK111 4, sc BK119 0, sc BK119 1, sc BK119 2, HS8_, HS9_, HS10_⟩ (fun hHeld => ?_)
                   clear hK K
                   refine norm_ (a' := ?_) ?_ ?_
                   rotate_left
                   ·show Act.put _ (some 100) _ = _
                    simp only [Act.put, List.setIfInBounds_toArray, List.set_cons_zero, List.set_cons_succ, i64_w, i32_w]
                    rfl
                   refine pureK 10 (some 90) #[true, true, true, true, true, true, true, true, true, true, true, false, false, false, false, false] HT_ ?_
                   refine pureK 11 (some 101) #[true, true, true, true, true, true, true, true, true, true, true, true, false, false, false, false] HT_ ?_
                   refine pureK 12 (some 102) #[true, true, true, true, true, true, true, true, true, true, true, true, true, false, false, false] HT_ ?_
                   refine pureK 13 (some 103) #[true, true, true, true, true, true, true, true, true, true, true, true, true, true, false, false] HT_ ?_
                   refine last_ (i := 14) (N := none) #[true, true, true, true, true, true, true, true, true, true, true, true, true, true, true, false] rfl rfl (one_of HT_.out (by kernel_rfl)) (by decide) (fun K hK => ?_)
                   refine skip_ (w1 := ?_) (by rfl) rfl ?_ ?_
                   rotate_left
                   ·go_simp
                    rfl
                   refine hK.out _ _ ?_
                   clear hK K
                   refine pureK 15 (some 11) #[true, true, true, true, true, true, true, true, true, true, true, true, true, true, true, true] HT_ ?_
                   refine done_ (done_of HT_.out (by kernel_rfl)) ?_
                   try go_wp2
                   (try simp only [← hl6_1, ← hl6_37])
                   go_roundg kj47
                   case measure => have := HK1.out; have := HJ21.out; have := HJ37.out; have := HJ47.out; omega
                   case rel => exact ⟨(y131), (wrap64 (x7_1 + 1)), (by first | rfl | (simp; done) | (simp [*]; done)), H', ⟨by have := HK1.out; have := HJ21.out; have := HJ37.out; have := HJ47.out; omega⟩, ⟨by (try simp only [hl6_1]); (try simp only [hl6_37]); (with_reducible repeat (first | apply Kd.R_alloc | apply Kd.R_drewN | apply Kd.R_drew)); exact Kd.R_mono HQ63.out (fun _ hk => trivial)⟩, ⟨by repeat (first | (with_reducible first | exact HB.out | apply below_alloc | apply pw_below_drewN | apply below_drew1 | refine below_set ?_ GB7.out | refine below_set ?_ GB7.out | refine below_set ?_ GB7.out | refine below_set ?_ GE111.out | refine below_set ?_ GE119.out) | exact HB.out)⟩⟩
                  ·replace c60 := Bool.eq_false_iff.mpr c60
                   subst c60
                   have H1 : (some (([] : List (S90)), 7, x7_1)) = some (r1, r2, r3) := by rw [if_neg (show ¬ (false = true) by decide)] at H; exact H
                   clear H
                   have H := H1
                   clear H1
                   simp only [Option.some.injEq, Prod.mk.injEq] at H
                   obtain ⟨rfl, rfl, rfl⟩ := H
                   try go_wp2
                   replace HO_6 := Aside0.mk (Kd.R_drew HO_6.out)
                   replace BK111 := Aside0.mk (blk_drew BK111.out)
                   replace BK119 := Aside0.mk (blk_drew BK119.out)
                   replace HB := Aside0.mk (below_drew1 HB.out)
                   have p126 : 0 ≤ (((rd_T54 l0 x7_1).f3) : Int) := of_decide_eq_true (by first | (with_reducible assumption) | assumption)
                   have q126 : ((rd_T54 l0 x7_1).f3) < (x6_37.length : Int) := of_decide_eq_true (by first | (with_reducible assumption) | assumption)
                   obtain ⟨ad126, e126, hx126_0, hx126_1, hx126_2⟩ := at_T90 (Kd.R_reads' HO_6.out).2.2 ((rd_T54 l0 x7_1).f3) p126 q126
                   (try rw [← Nbq18.out] at hx126_0)
                   obtain rfl : (⟨go7, 0, none⟩ : Addr) = ad126 := (by injection e126)
                   (first | simp only [add_plain] at hx126_0 | simp only [add_at] at hx126_0 | simp only [Addr.add, Nat.zero_add] at hx126_0 | skip)
                   (first | simp only [add_plain] at hx126_1 | simp only [add_at] at hx126_1 | simp only [Addr.add, Nat.zero_add] at hx126_1 | skip)
                   (first | simp only [add_plain] at hx126_2 | simp only [add_at] at hx126_2 | simp only [Addr.add, Nat.zero_add] at hx126_2 | skip)
                   replace p126 := eq_true p126
                   replace q126 := eq_true q126
                   refine start_ (n := 16) (S := fun w' => w'.cell? ⟨gb111, 0, none⟩ = some (.int .i64 ((rd_T54 l0 x7_1).f0)) ∧ w'.cell? ⟨gb111, 1, none⟩ = some (.int .i64 ((rd_T54 l0 x7_1).f1)) ∧ w'.cell? ⟨gb111, 2, none⟩ = some (.int .i64 ((rd_T54 l0 x7_1).f2)) ∧ w'.cell? ⟨gb111, 3, none⟩ = some (.int .i64 ((rd_T54 l0 x7_1).f3)) ∧ w'.cell? ⟨gb111, 4, none⟩ = some (.int .i64 ((rd_T54 l0 x7_1).f4)) ∧ w'.cell? ⟨gb119, 0, none⟩ = some (.bool x120000_37) ∧ w'.cell? ⟨gb119, 1, none⟩ = some (.int .i64 x120001_37) ∧ w'.cell? ⟨gb119, 2, none⟩ = some (.string x120002_37) ∧ w'.cell? ⟨go7, (((rd_T54 l0 x7_1).f3)).toNat * 3, none⟩ = some (.bool ((rd_T90 x6_37 ((rd_T54 l0 x7_1).f3)).f0)) ∧ w'.cell? ⟨go7, (((rd_T54 l0 x7_1).f3)).toNat * 3 + 1, none⟩ = some (.int .i64 ((rd_T90 x6_37 ((rd_T54 l0 x7_1).f3)).f1)) ∧ w'.cell? ⟨go7, (((rd_T54 l0 x7_1).f3)).toNat * 3 + 2, none⟩ = some (.string ((rd_T90 x6_37 ((rd_T54 l0 x7_1).f3)).f2))) (ds := [14]) #[false, false, false, false, false, false, false, false, false, false, false, false, false, false, false, false] (by kernel_rfl) rfl rfl ⟨sc BK111 0, sc BK111 1, sc BK111 2, sc BK111 3, sc BK111 4, sc BK119 0, sc BK119 1, sc BK119 2, hx126_0, hx126_1, hx126_2⟩ (fun hHeld => ?_); refine with_tabW fuglemanref14_All.tab20 fuglemanref14_All.bits20 (fun HT_ HW_ => ?_)
                   generalize wc.drew = w64 at HO_6 BK111 BK119 HB hx126_0 hx126_1 hx126_2 hHeld ⊢
                   refine pureK 0 (some 91) #[true, false, false, false, false, false, false, false, false, false, false, false, false, false, false, false] HT_ ?_
                   refine pureK 1 (some 92) #[true, true, false, false, false, false, false, false, false, false, false, false, false, false, false, false] HT_ ?_
                   refine pureK 3 (some 94) #[true, true, false, true, false, false, false, false, false, false, false, false, false, false, false, false] HT_ ?_
                   refine pureK 4 (some 95) #[true, true, false, true, true, false, false, false, false, false, false, false, false, false, false, false] HT_ ?_
                   refine takeK 2 (some 93) #[true, true, true, true, true, false, false, false, false, false, false, false, false, false, false, false] HT_ HW_ hHeld ?_ (hy := by (rintro w' ⟨s0, s1, s2, s3, s4, s5, s6, s7, s8, s9, s10⟩; go_simp; with_reducible rfl))
                   refine takeK 5 (some 96) #[true, true, true, true, true, true, false, false, false, false, false, false, false, false, false, false] HT_ HW_ hHeld ?_ (hy := by (rintro w' ⟨s0, s1, s2, s3, s4, s5, s6, s7, s8, s9, s10⟩; go_simp; with_reducible rfl))
                   refine pureK 6 (some 97) #[true, true, true, true, true, true, true, false, false, false, false, false, false, false, false, false] HT_ ?_
                   refine takeK 7 (some 98) #[true, true, true, true, true, true, true, true, false, false, false, false, false, false, false, false] HT_ HW_ hHeld ?_ (hy := by (rintro w' ⟨s0, s1, s2, s3, s4, s5, s6, s7, s8, s9, s10⟩; go_simp; with_reducible rfl))
                   refine takeK 8 (some 99) #[true, true, true, true, true, true, true, true, true, false, false, false, false, false, false, false] HT_ HW_ hHeld ?_ (hy := by (rintro w' ⟨s0, s1, s2, s3, s4, s5, s6, s7, s8, s9, s10⟩; go_simp; with_reducible rfl))
                   refine one_ (i := 9) (N := some 100) #[true, true, true, true, true, true, true, true, true, true, false, false, false, false, false, false] rfl rfl (one_of HT_.out (by kernel_rfl)) (by decide) (fun K hK => ?_)
                   refine goesR Try.func57 #[.agg #[.bool ((rd_T90 x6_37 ((rd_T54 l0 x7_1).f3)).f0), .int .i64 ((rd_T90 x6_37 ((rd_T54 l0 x7_1).f3)).f1), .string ((rd_T90 x6_37 ((rd_T54 l0 x7_1).f3)).f2)], .agg #[.bool x120000_37, .int .i64 x120001_37, .string x120002_37]] ?_
                   with_reducible refine (fuglemanref14_join.calls ((rd_T90 x6_37 ((rd_T54 l0 x7_1).f3)).f0) ((rd_T90 x6_37 ((rd_T54 l0 x7_1).f3)).f1) ((rd_T90 x6_37 ((rd_T54 l0 x7_1).f3)).f2) x120000_37 x120001_37 x120002_37 t127 t128 t129 false _ A58.out).mono ?_
                   rintro e w65 ⟨rfl, hb⟩
                   have HS8_ := (hb.cell (World.block_lt_of_cell? _ _ (hHeld.2.2.2.2.2.2.2.2.1))).trans (hHeld.2.2.2.2.2.2.2.2.1)
                   have HS9_ := (hb.cell (World.block_lt_of_cell? _ _ (hHeld.2.2.2.2.2.2.2.2.2.1))).trans (hHeld.2.2.2.2.2.2.2.2.2.1)
                   have HS10_ := (hb.cell (World.block_lt_of_cell? _ _ (hHeld.2.2.2.2.2.2.2.2.2.2))).trans (hHeld.2.2.2.2.2.2.2.2.2.2)
                   refine ⟨_, rfl, ?_⟩
                   replace HO_6 := sR HO_6 hb
                   replace BK111 := sK BK111 hb
                   replace BK119 := sK BK119 hb
                   replace HB := sB HB hb
                   (try clear hb)
                   have p59 : 0 ≤ (((rd_T54 l0 x7_1).f3) : Int) := of_decide_eq_true (by first | (with_reducible assumption) | assumption)
                   have q59 : (((rd_T54 l0 x7_1).f3) : Int) < ((x6_37.length : Int) : Int) := of_decide_eq_true (by first | (with_reducible assumption) | assumption)
                   obtain ⟨ce59, hcl59, hM59, hcc59, hfr59⟩ := Kd.R_elem HO_6.out z90 (((rd_T54 l0 x7_1).f3) : Int) p59 q59
                   obtain rfl := k90_openM hM59
                   have hx59_0 : World.cell? _ ⟨go7, (((rd_T54 l0 x7_1).f3) : Int).toNat * 3, none⟩ = some (.bool ((rd_T90 x6_37 ((rd_T54 l0 x7_1).f3)).f0)) := hcc59 0 _ rfl
                   have hx59_1 : World.cell? _ ⟨go7, (((rd_T54 l0 x7_1).f3) : Int).toNat * 3 + 1, none⟩ = some (.int .i64 ((rd_T90 x6_37 ((rd_T54 l0 x7_1).f3)).f1)) := hcc59 1 _ rfl
                   have hx59_2 : World.cell? _ ⟨go7, (((rd_T54 l0 x7_1).f3) : Int).toNat * 3 + 2, none⟩ = some (.string ((rd_T90 x6_37 ((rd_T54 l0 x7_1).f3)).f2)) := hcc59 2 _ rfl
                   have hf59_0 : World.frozen? _ ⟨go7, (((rd_T54 l0 x7_1).f3) : Int).toNat * 3, none⟩ = false := hfr59 0
                   have hf59_1 : World.frozen? _ ⟨go7, (((rd_T54 l0 x7_1).f3) : Int).toNat * 3 + 1, none⟩ = false := hfr59 1
                   have hf59_2 : World.frozen? _ ⟨go7, (((rd_T54 l0 x7_1).f3) : Int).toNat * 3 + 2, none⟩ = false := hfr59 2
                   clear hcl59 hcc59 hfr59 hM59
                   replace p59 := eq_true p59
                   replace q59 := eq_true q59
                   obtain ⟨ce66, hcl66, hM66, hcc66, hfr66⟩ := Kd.R_elem HO_6.out z90 (((rd_T54 l0 x7_1).f3) : Int) (of_decide_eq_true (by first | (with_reducible assumption) | assumption)) (by have h_ : (((rd_T54 l0 x7_1).f3) : Int) < ((x6_37.length : Int) : Int) := of_decide_eq_true (by first | (with_reducible assumption) | assumption); first | exact h_ | (have e_ := (Kd.R_reads' HO_6.out).1; omega) | simpa using h_)
                   obtain rfl := k90_openM hM66
                   have HP66 := (Kd.R_seg HO_6.out (((rd_T54 l0 x7_1).f3) : Int) (of_decide_eq_true (by first | (with_reducible assumption) | assumption)) (by have h_ : (((rd_T54 l0 x7_1).f3) : Int) < ((x6_37.length : Int) : Int) := of_decide_eq_true (by first | (with_reducible assumption) | assumption); first | exact h_ | (have e_ := (Kd.R_reads' HO_6.out).1; omega) | simpa using h_) (seg := [.bool t127, .int .i64 t128, .string t129]) (j := 0) hcl66 hcc66 (show 3 ≤ 3 from by decide) (x' := (⟨t127, t128, t129⟩ : S90)) (k90_mkM _ _ _ (⟨t127, t128, t129⟩ : S90) ) (fun _ hk => hk)).1
                   rw [← Ny131.out] at HP66
                   have HQ66 := Aside0.mk HP66
                   clear hcl66 hcc66 hfr66 hM66 HP66
                   refine hK.out _ _ ⟨sc BK111 0, sc BK111 1, sc BK111 2, sc BK111 3, sc BK111 4, sc BK119 0, sc BK119 1, sc BK119 2, HS8_, HS9_, HS10_⟩ (fun hHeld => ?_)
                   clear hK K
                   refine norm_ (a' := ?_) ?_ ?_
                   rotate_left
                   ·show Act.put _ (some 100) _ = _
                    simp only [Act.put, List.setIfInBounds_toArray, List.set_cons_zero, List.set_cons_succ, i64_w, i32_w]
                    rfl
                   refine pureK 10 (some 90) #[true, true, true, true, true, true, true, true, true, true, true, false, false, false, false, false] HT_ ?_
                   refine pureK 11 (some 101) #[true, true, true, true, true, true, true, true, true, true, true, true, false, false, false, false] HT_ ?_
                   refine pureK 12 (some 102) #[true, true, true, true, true, true, true, true, true, true, true, true, true, false, false, false] HT_ ?_
                   refine pureK 13 (some 103) #[true, true, true, true, true, true, true, true, true, true, true, true, true, true, false, false] HT_ ?_
                   refine last_ (i := 14) (N := none) #[true, true, true, true, true, true, true, true, true, true, true, true, true, true, true, false] rfl rfl (one_of HT_.out (by kernel_rfl)) (by decide) (fun K hK => ?_)
                   refine skip_ (w1 := ?_) (by rfl) rfl ?_ ?_
                   rotate_left
                   ·go_simp
                    rfl
                   refine hK.out _ _ ?_
                   clear hK K
                   refine pureK 15 (some 11) #[true, true, true, true, true, true, true, true, true, true, true, true, true, true, true, true] HT_ ?_
                   refine done_ (done_of HT_.out (by kernel_rfl)) ?_
                   try go_wp2
                   go_ret3
                   exact ⟨_, by first | rfl | (simp [errW_none, errW_some] <;> rfl) | (simp only [← hji3]; first | rfl | (simp [errW_none, errW_some] <;> rfl)) | (simp [*, errW_none, errW_some] <;> rfl), by first | exact Kd.R_nil _ _ _ _ _ | exact Kd.N_nil _ _ _ _ _ | exact Kd.V_nil _ _ _ _ _ | exact Kd.Q_nil _ _ _ _ _ | exact Kd.S_nil _ _ _ _ _, by repeat (first | (with_reducible first | exact HB.out | apply below_alloc | apply pw_below_drewN | apply below_drew1 | refine below_set ?_ GB7.out | refine below_set ?_ GB7.out | refine below_set ?_ GB7.out | refine below_set ?_ GE111.out | refine below_set ?_ GE119.out) | exact HB.out)⟩
                 ·rw [if_neg c57] at H
                  exact absurd H (by simp)
                ·rw [if_neg c56] at H
                 exact absurd H (by simp)
               ·replace c55 := Bool.eq_false_iff.mpr c55
                subst c55
                have H1 : (if x11_37 = true then (fuglemanref14_All.l0 kj47 l0 (l0.length : Int) x6_37 (wrap64 (x7_1 + 1))) else (some (([] : List (S90)), 7, x7_1))) = some (r1, r2, r3) := by rw [if_neg (show ¬ (false = true) by decide)] at H; exact H
                clear H
                have H := H1
                clear H1
                by_cases c67 : x11_37 = true
                ·subst c67
                 have H1 : (fuglemanref14_All.l0 kj47 l0 (l0.length : Int) x6_37 (wrap64 (x7_1 + 1))) = some (r1, r2, r3) := by rw [if_pos rfl] at H; exact H
                 clear H
                 have H := H1
                 clear H1
                 have H' := Aside0.mk H
                 clear H
                 go_wp2
                 (try simp only [← hl6_1, ← hl6_37])
                 go_roundg kj47
                 case measure => have := HK1.out; have := HJ21.out; have := HJ37.out; have := HJ47.out; omega
                 case rel => exact ⟨(x6_37), (wrap64 (x7_1 + 1)), (by first | rfl | (simp; done) | (simp [*]; done)), H', ⟨by have := HK1.out; have := HJ21.out; have := HJ37.out; have := HJ47.out; omega⟩, ⟨by (try simp only [hl6_1]); (try simp only [hl6_37]); (with_reducible repeat (first | apply Kd.R_alloc | apply Kd.R_drewN | apply Kd.R_drew)); exact Kd.R_mono HO_6.out (fun _ hk => trivial)⟩, (sB0 HB)⟩
                ·replace c67 := Bool.eq_false_iff.mpr c67
                 subst c67
                 have H1 : (some (([] : List (S90)), 7, x7_1)) = some (r1, r2, r3) := by rw [if_neg (show ¬ (false = true) by decide)] at H; exact H
                 clear H
                 have H := H1
                 clear H1
                 simp only [Option.some.injEq, Prod.mk.injEq] at H
                 obtain ⟨rfl, rfl, rfl⟩ := H
                 go_wp2
                 go_ret3
                 exact ⟨_, by first | rfl | (simp [errW_none, errW_some] <;> rfl) | (simp only [← hji3]; first | rfl | (simp [errW_none, errW_some] <;> rfl)) | (simp [*, errW_none, errW_some] <;> rfl), by first | exact Kd.R_nil _ _ _ _ _ | exact Kd.N_nil _ _ _ _ _ | exact Kd.V_nil _ _ _ _ _ | exact Kd.Q_nil _ _ _ _ _ | exact Kd.S_nil _ _ _ _ _, by repeat (first | (with_reducible first | exact HB.out | apply below_alloc | apply pw_below_drewN | apply below_drew1 | refine below_set ?_ (Aside0.out (by assumption))) | exact HB.out)⟩
        ·rw [if_neg c21] at H
         have c21b0 : (t118 == 0) = false := beq_eq_false_iff_ne.mpr c21
         have c21b1 : (t118 != 0) = true := bne_iff_ne.mpr c21
         simp only [Option.some.injEq, Prod.mk.injEq] at H
         obtain ⟨rfl, rfl, rfl⟩ := H
         have p110 : 0 ≤ (x7_1 : Int) := of_decide_eq_true (by first | (with_reducible assumption) | assumption)
         have q110 : x7_1 < (l0.length : Int) := of_decide_eq_true (by first | (with_reducible assumption) | assumption)
         obtain ⟨ad110, e110, hx110_0, hx110_1, hx110_2, hx110_3, hx110_4⟩ := at_T54 HR0.out x7_1 p110 q110
         cases e110
         replace hx110_0 := (HB.out.cell (World.block_lt_of_cell? w _ hx110_0)).trans hx110_0
         replace hx110_1 := (HB.out.cell (World.block_lt_of_cell? w _ hx110_1)).trans hx110_1
         replace hx110_2 := (HB.out.cell (World.block_lt_of_cell? w _ hx110_2)).trans hx110_2
         replace hx110_3 := (HB.out.cell (World.block_lt_of_cell? w _ hx110_3)).trans hx110_3
         replace hx110_4 := (HB.out.cell (World.block_lt_of_cell? w _ hx110_4)).trans hx110_4
         replace p110 := eq_true p110
         replace q110 := eq_true q110
         try go_wp2_with (first | ((with_reducible refine gate_dst (N := 8) rfl ?_); refine boxK (N := 8) (#[.int .i64 0, .int .i64 0, .int .i64 0, .int .i64 0, .int .i64 0]) 54 ?_; intro gb111 hg w68 hbox hb; replace HO_6 := sR HO_6 hb; have BK111 := Aside0.mk (hbox); have GW111 := sG hg HB; have GE111 := sG hg HB; replace HB := sB HB hb; clear hb hbox hg; obtain ⟨z69_0, z69_1, z69_2, z69_3, z69_4, q69_0, q69_1, q69_2, q69_3, q69_4⟩ := bk5 BK111) | ((with_reducible refine gate_callee (f := 55) rfl ?_); refine goesK (some 33) Try.func55 #[.agg #[.int .i64 ((rd_T54 l0 x7_1).f0), .int .i64 ((rd_T54 l0 x7_1).f1), .int .i64 ((rd_T54 l0 x7_1).f2), .int .i64 ((rd_T54 l0 x7_1).f3), .int .i64 ((rd_T54 l0 x7_1).f4)]] ?_; (with_reducible refine (fuglemanref12_Right.calls ((rd_T54 l0 x7_1).f0) ((rd_T54 l0 x7_1).f1) ((rd_T54 l0 x7_1).f2) ((rd_T54 l0 x7_1).f3) ((rd_T54 l0 x7_1).f4) true _ A15.out).mono ?_); rintro e w70 ⟨rfl, hb⟩; refine ⟨_, rfl, ?_⟩; replace HO_6 := Aside0.mk (Kd.R_below (by (with_reducible repeat (first | apply Kd.R_alloc | apply Kd.R_drewN | apply Kd.R_drew)); exact (sfR (Kd.R_types HO_6.out BK111.out (by decide)))) hb); replace BK111 := sKp (.cells #[.int .i64 ((rd_T54 l0 x7_1).f0), .int .i64 ((rd_T54 l0 x7_1).f1), .int .i64 ((rd_T54 l0 x7_1).f2), .int .i64 ((rd_T54 l0 x7_1).f3), .int .i64 ((rd_T54 l0 x7_1).f4)] 54 (0, 0)) BK111 hb; replace HB := sB HB hb; (try clear hb); have p113 : 0 ≤ (x7_1 : Int) := of_decide_eq_true (by first | (with_reducible assumption) | assumption); have q113 : x7_1 < (x6_1.length : Int) := of_decide_eq_true (by first | (with_reducible assumption) | assumption); obtain ⟨ad113, e113, hx113_0, hx113_1, hx113_2⟩ := at_T90 (Kd.R_reads' HO_6.out).2.2 x7_1 p113 q113; (try rw [← Nbq18.out] at hx113_0); obtain rfl : (⟨go7, 0, none⟩ : Addr) = ad113 := (by injection e113); (first | simp only [add_plain] at hx113_0 | simp only [add_at] at hx113_0 | simp only [Addr.add, Nat.zero_add] at hx113_0 | skip); (first | simp only [add_plain] at hx113_1 | simp only [add_at] at hx113_1 | simp only [Addr.add, Nat.zero_add] at hx113_1 | skip); (first | simp only [add_plain] at hx113_2 | simp only [add_at] at hx113_2 | simp only [Addr.add, Nat.zero_add] at hx113_2 | skip); replace p113 := eq_true p113; replace q113 := eq_true q113))
         replace HO_6 := Aside0.mk (Kd.R_drew HO_6.out)
         replace BK111 := Aside0.mk (blk_drew BK111.out)
         replace HB := Aside0.mk (below_drew1 HB.out)
         have p114 : 0 ≤ (x7_1 : Int) := of_decide_eq_true (by first | (with_reducible assumption) | assumption)
         have q114 : x7_1 < (x6_1.length : Int) := of_decide_eq_true (by first | (with_reducible assumption) | assumption)
         obtain ⟨ad114, e114, hx114_0, hx114_1, hx114_2⟩ := at_T90 (Kd.R_reads' HO_6.out).2.2 x7_1 p114 q114
         (try rw [← Nbq18.out] at hx114_0)
         obtain rfl : (⟨go7, 0, none⟩ : Addr) = ad114 := (by injection e114)
         (first | simp only [add_plain] at hx114_0 | simp only [add_at] at hx114_0 | simp only [Addr.add, Nat.zero_add] at hx114_0 | skip)
         (first | simp only [add_plain] at hx114_1 | simp only [add_at] at hx114_1 | simp only [Addr.add, Nat.zero_add] at hx114_1 | skip)
         (first | simp only [add_plain] at hx114_2 | simp only [add_at] at hx114_2 | simp only [Addr.add, Nat.zero_add] at hx114_2 | skip)
         replace p114 := eq_true p114
         replace q114 := eq_true q114
         refine start_ (n := 14) (S := fun w' => w'.cell? ⟨gb111, 0, none⟩ = some (.int .i64 ((rd_T54 l0 x7_1).f0)) ∧ w'.cell? ⟨gb111, 1, none⟩ = some (.int .i64 ((rd_T54 l0 x7_1).f1)) ∧ w'.cell? ⟨gb111, 2, none⟩ = some (.int .i64 ((rd_T54 l0 x7_1).f2)) ∧ w'.cell? ⟨gb111, 3, none⟩ = some (.int .i64 ((rd_T54 l0 x7_1).f3)) ∧ w'.cell? ⟨gb111, 4, none⟩ = some (.int .i64 ((rd_T54 l0 x7_1).f4)) ∧ w'.cell? ⟨go7, (x7_1).toNat * 3, none⟩ = some (.bool (true)) ∧ w'.cell? ⟨go7, (x7_1).toNat * 3 + 1, none⟩ = some (.int .i64 ((rd_T90 x6_1 x7_1).f1)) ∧ w'.cell? ⟨go7, (x7_1).toNat * 3 + 2, none⟩ = some (.string ((rd_T90 x6_1 x7_1).f2))) (ds := []) #[false, false, false, false, false, false, false, false, false, false, false, false, false, false] (by kernel_rfl) rfl rfl ⟨sc BK111 0, sc BK111 1, sc BK111 2, sc BK111 3, sc BK111 4, hx114_0, hx114_1, hx114_2⟩ (fun hHeld => ?_); refine with_tabW fuglemanref14_All.tab13 fuglemanref14_All.bits13 (fun HT_ HW_ => ?_)
         generalize w70.drew = w71 at HO_6 BK111 HB hx114_0 hx114_1 hx114_2 hHeld ⊢
         refine pureK 1 (some 44) #[false, true, false, false, false, false, false, false, false, false, false, false, false, false] HT_ ?_
         refine pureK 2 (some 45) #[false, true, true, false, false, false, false, false, false, false, false, false, false, false] HT_ ?_
         refine pureK 3 (some 46) #[false, true, true, true, false, false, false, false, false, false, false, false, false, false] HT_ ?_
         refine pureK 4 (some 47) #[false, true, true, true, true, false, false, false, false, false, false, false, false, false] HT_ ?_
         refine pureK 5 (some 48) #[false, true, true, true, true, true, false, false, false, false, false, false, false, false] HT_ ?_
         refine takeK 0 (some 43) #[true, true, true, true, true, true, false, false, false, false, false, false, false, false] HT_ HW_ hHeld ?_ (hy := by (rintro w' ⟨s0, s1, s2, s3, s4, s5, s6, s7⟩; go_simp; with_reducible rfl))
         refine takeK 6 (some 49) #[true, true, true, true, true, true, true, false, false, false, false, false, false, false] HT_ HW_ hHeld ?_ (hy := by (rintro w' ⟨s0, s1, s2, s3, s4, s5, s6, s7⟩; go_simp; with_reducible rfl))
         refine join_ (σ := Nat) 2 #[true, true, true, true, true, true, true, true, true, true, true, true, false, false] (fun s_ => [(50, .tuple #[.agg #[.bool t115, .int .i64 t116, .string t117], .int .i64 t118]), (9, .pointer (some ⟨s_, 0, none⟩)), (42, .tuple #[.agg #[.bool t115, .int .i64 t116, .string t117], .int .i64 t118]), (51, .agg #[.bool t115, .int .i64 t116, .string t117]), (52, .int .i64 t118)]) (fun s_ w' => (w'.cell? ⟨gb111, 0, none⟩ = some (.int .i64 ((rd_T54 l0 x7_1).f0)) ∧ w'.cell? ⟨gb111, 1, none⟩ = some (.int .i64 ((rd_T54 l0 x7_1).f1)) ∧ w'.cell? ⟨gb111, 2, none⟩ = some (.int .i64 ((rd_T54 l0 x7_1).f2)) ∧ w'.cell? ⟨gb111, 3, none⟩ = some (.int .i64 ((rd_T54 l0 x7_1).f3)) ∧ w'.cell? ⟨gb111, 4, none⟩ = some (.int .i64 ((rd_T54 l0 x7_1).f4)) ∧ w'.cell? ⟨go7, (x7_1).toNat * 3, none⟩ = some (.bool (true)) ∧ w'.cell? ⟨go7, (x7_1).toNat * 3 + 1, none⟩ = some (.int .i64 ((rd_T90 x6_1 x7_1).f1)) ∧ w'.cell? ⟨go7, (x7_1).toNat * 3 + 2, none⟩ = some (.string ((rd_T90 x6_1 x7_1).f2))) ∧ (Kd.R k90 90 w' w.heap.size (fun k_ => k_ ≠ s_) (.slice (some ⟨go7, 0, none⟩) x6_1.length co7) x6_1) ∧ (w'.heap[gb111]? = some (.cells #[.int .i64 ((rd_T54 l0 x7_1).f0), .int .i64 ((rd_T54 l0 x7_1).f1), .int .i64 ((rd_T54 l0 x7_1).f2), .int .i64 ((rd_T54 l0 x7_1).f3), .int .i64 ((rd_T54 l0 x7_1).f4)] 54 (0, 0))) ∧ (w'.heap[s_]? = some (.cells #[.bool false, .int .i64 0, .string (⟨#[]⟩ : ByteArray)] 90 (0, 0))) ∧ (w.heap.size ≤ s_) ∧ (w.heap.size ≤ s_) ∧ (gb111 ≠ s_) ∧ (s_ ≠ gb111) ∧ (Below w.heap.size w w')) ?_ ?_
         rotate_left
         ·intro hCont
          refine two_ (i := 7) (j := 11) (Ni := some 50) (Nj := some 9) #[true, true, true, true, true, true, true, true, false, false, false, false, false, false] #[true, true, true, true, true, true, true, false, false, false, false, true, false, false] rfl rfl rfl rfl (two_of HT_.out (by kernel_rfl)) (by decide) (by decide) (fun K hK => ?_) (fun K hK => ?_)
          ·skip
           refine goesR Try.func56 #[.agg #[.int .i64 ((rd_T54 l0 x7_1).f0), .int .i64 ((rd_T54 l0 x7_1).f1), .int .i64 ((rd_T54 l0 x7_1).f2), .int .i64 ((rd_T54 l0 x7_1).f3), .int .i64 ((rd_T54 l0 x7_1).f4)], .int .i64 x7_1, .int .i64 (l0.length : Int), .agg #[.bool true, .int .i64 ((rd_T90 x6_1 x7_1).f1), .string ((rd_T90 x6_1 x7_1).f2)]] ?_
           with_reducible refine (fuglemanref14_behind.calls ((rd_T54 l0 x7_1).f0) ((rd_T54 l0 x7_1).f1) ((rd_T54 l0 x7_1).f2) ((rd_T54 l0 x7_1).f3) ((rd_T54 l0 x7_1).f4) x7_1 (l0.length : Int) true ((rd_T90 x6_1 x7_1).f1) ((rd_T90 x6_1 x7_1).f2) t115 t116 t117 t118 _ A20.out).mono ?_
           rintro e w72 ⟨rfl, hb⟩
           have HS5_ := (hb.cell (World.block_lt_of_cell? _ _ (hHeld.2.2.2.2.2.1))).trans (hHeld.2.2.2.2.2.1)
           have HS6_ := (hb.cell (World.block_lt_of_cell? _ _ (hHeld.2.2.2.2.2.2.1))).trans (hHeld.2.2.2.2.2.2.1)
           have HS7_ := (hb.cell (World.block_lt_of_cell? _ _ (hHeld.2.2.2.2.2.2.2))).trans (hHeld.2.2.2.2.2.2.2)
           refine ⟨_, rfl, ?_⟩
           replace HO_6 := sR HO_6 hb
           replace BK111 := sK BK111 hb
           replace HB := sB HB hb
           (try clear hb)
           refine hK.out _ _ ⟨sc BK111 0, sc BK111 1, sc BK111 2, sc BK111 3, sc BK111 4, HS5_, HS6_, HS7_⟩ (fun hHeld => ?_)
           clear hK K
           refine norm_ (a' := ?_) ?_ ?_
           rotate_left
           ·show Act.put _ (some 50) _ = _
            simp only [Act.put, List.setIfInBounds_toArray, List.set_cons_zero, List.set_cons_succ, i64_w, i32_w]
            rfl
           refine pureK 8 (some 42) #[true, true, true, true, true, true, true, true, true, false, false, false, false, false] HT_ ?_
           refine pureK 9 (some 51) #[true, true, true, true, true, true, true, true, true, true, false, false, false, false] HT_ ?_
           refine pureK 10 (some 52) #[true, true, true, true, true, true, true, true, true, true, true, false, false, false] HT_ ?_
           refine one_ (i := 11) (N := some 9) #[true, true, true, true, true, true, true, true, true, true, true, true, false, false] rfl rfl (one_of HT_.out (by kernel_rfl)) (by decide) (fun K hK => ?_)
           refine box_step ?hg (N := 9) ?hd (cs := #[.bool false, .int .i64 0, .string (⟨#[]⟩ : ByteArray)]) (t := 90) ?hr ?_; (case hd => rfl); (case hg => rfl); (case hr => first | (go_simp; done) | (go_simp; rfl))
           intro gb119 hg w73 hbox hb
           have HS5_ := (hb.cell (World.block_lt_of_cell? _ _ (hHeld.2.2.2.2.2.1))).trans (hHeld.2.2.2.2.2.1)
           have HS6_ := (hb.cell (World.block_lt_of_cell? _ _ (hHeld.2.2.2.2.2.2.1))).trans (hHeld.2.2.2.2.2.2.1)
           have HS7_ := (hb.cell (World.block_lt_of_cell? _ _ (hHeld.2.2.2.2.2.2.2))).trans (hHeld.2.2.2.2.2.2.2)
           replace HO_6 := sRe HO_6 gb119 hg hb
           have BK119 := Aside0.mk (hbox)
           have GW119 := sG hg HB
           have GE119 := sG hg HB
           replace HB := sB HB hb
           have NB111_119 := sNl hg BK111
           have NB119_111 := sNg hg BK111
           replace BK111 := sK BK111 hb
           clear hb hbox hg
           refine hK.out _ _ ⟨sc BK111 0, sc BK111 1, sc BK111 2, sc BK111 3, sc BK111 4, HS5_, HS6_, HS7_⟩ (fun hHeld => ?_)
           clear hK K
           refine norm_ (a' := ?_) ?_ ?_
           rotate_left
           ·show Act.put _ (some 9) _ = _
            simp only [Act.put, List.setIfInBounds_toArray, List.set_cons_zero, List.set_cons_succ, i64_w, i32_w]
            rfl
           exact norm_ (by simp only [putAll, Act.put, List.setIfInBounds_toArray, List.set_cons_zero, List.set_cons_succ]) (hCont (gb119) _ ⟨hHeld, (by (with_reducible repeat (first | apply Kd.R_alloc | apply Kd.R_drewN | apply Kd.R_drew)); exact Kd.R_mono HO_6.out (fun _ hk => hk.2)), (by (with_reducible repeat (first | refine blk_drewN ?_ _ | refine blk_drew ?_ | refine blk_alloc ?_ _)); exact BK111.out), (by (with_reducible repeat (first | refine blk_drewN ?_ _ | refine blk_drew ?_ | refine blk_alloc ?_ _)); exact BK119.out), GW119.out, GE119.out, NB111_119.out, NB119_111.out, (by repeat (first | (with_reducible first | exact HB.out | apply below_alloc | apply pw_below_drewN | apply below_drew1 | refine below_set ?_ (Aside0.out (by assumption))) | exact HB.out))⟩)
          ·skip
           refine box_step ?hg (N := 9) ?hd (cs := #[.bool false, .int .i64 0, .string (⟨#[]⟩ : ByteArray)]) (t := 90) ?hr ?_; (case hd => rfl); (case hg => rfl); (case hr => first | (go_simp; done) | (go_simp; rfl))
           intro gb119 hg w72 hbox hb
           have HS5_ := (hb.cell (World.block_lt_of_cell? _ _ (hHeld.2.2.2.2.2.1))).trans (hHeld.2.2.2.2.2.1)
           have HS6_ := (hb.cell (World.block_lt_of_cell? _ _ (hHeld.2.2.2.2.2.2.1))).trans (hHeld.2.2.2.2.2.2.1)
           have HS7_ := (hb.cell (World.block_lt_of_cell? _ _ (hHeld.2.2.2.2.2.2.2))).trans (hHeld.2.2.2.2.2.2.2)
           replace HO_6 := sRe HO_6 gb119 hg hb
           have BK119 := Aside0.mk (hbox)
           have GW119 := sG hg HB
           have GE119 := sG hg HB
           replace HB := sB HB hb
           have NB111_119 := sNl hg BK111
           have NB119_111 := sNg hg BK111
           replace BK111 := sK BK111 hb
           clear hb hbox hg
           refine hK.out _ _ ⟨sc BK111 0, sc BK111 1, sc BK111 2, sc BK111 3, sc BK111 4, HS5_, HS6_, HS7_⟩ (fun hHeld => ?_)
           clear hK K
           refine norm_ (a' := ?_) ?_ ?_
           rotate_left
           ·show Act.put _ (some 9) _ = _
            simp only [Act.put, List.setIfInBounds_toArray, List.set_cons_zero, List.set_cons_succ, i64_w, i32_w]
            rfl
           refine one_ (i := 7) (N := some 50) #[true, true, true, true, true, true, true, true, false, false, false, true, false, false] rfl rfl (one_of HT_.out (by kernel_rfl)) (by decide) (fun K hK => ?_)
           refine goesR Try.func56 #[.agg #[.int .i64 ((rd_T54 l0 x7_1).f0), .int .i64 ((rd_T54 l0 x7_1).f1), .int .i64 ((rd_T54 l0 x7_1).f2), .int .i64 ((rd_T54 l0 x7_1).f3), .int .i64 ((rd_T54 l0 x7_1).f4)], .int .i64 x7_1, .int .i64 (l0.length : Int), .agg #[.bool true, .int .i64 ((rd_T90 x6_1 x7_1).f1), .string ((rd_T90 x6_1 x7_1).f2)]] ?_
           with_reducible refine (fuglemanref14_behind.calls ((rd_T54 l0 x7_1).f0) ((rd_T54 l0 x7_1).f1) ((rd_T54 l0 x7_1).f2) ((rd_T54 l0 x7_1).f3) ((rd_T54 l0 x7_1).f4) x7_1 (l0.length : Int) true ((rd_T90 x6_1 x7_1).f1) ((rd_T90 x6_1 x7_1).f2) t115 t116 t117 t118 _ A20.out).mono ?_
           rintro e w73 ⟨rfl, hb⟩
           have HS5_ := (hb.cell (World.block_lt_of_cell? _ _ (hHeld.2.2.2.2.2.1))).trans (hHeld.2.2.2.2.2.1)
           have HS6_ := (hb.cell (World.block_lt_of_cell? _ _ (hHeld.2.2.2.2.2.2.1))).trans (hHeld.2.2.2.2.2.2.1)
           have HS7_ := (hb.cell (World.block_lt_of_cell? _ _ (hHeld.2.2.2.2.2.2.2))).trans (hHeld.2.2.2.2.2.2.2)
           refine ⟨_, rfl, ?_⟩
           replace HO_6 := sR HO_6 hb
           replace BK111 := sK BK111 hb
           replace BK119 := sK BK119 hb
           replace HB := sB HB hb
           (try clear hb)
           refine hK.out _ _ ⟨sc BK111 0, sc BK111 1, sc BK111 2, sc BK111 3, sc BK111 4, HS5_, HS6_, HS7_⟩ (fun hHeld => ?_)
           clear hK K
           refine norm_ (a' := ?_) ?_ ?_
           rotate_left
           ·show Act.put _ (some 50) _ = _
            simp only [Act.put, List.setIfInBounds_toArray, List.set_cons_zero, List.set_cons_succ, i64_w, i32_w]
            rfl
           refine pureK 8 (some 42) #[true, true, true, true, true, true, true, true, true, false, false, true, false, false] HT_ ?_
           refine pureK 9 (some 51) #[true, true, true, true, true, true, true, true, true, true, false, true, false, false] HT_ ?_
           refine pureK 10 (some 52) #[true, true, true, true, true, true, true, true, true, true, true, true, false, false] HT_ ?_
           exact norm_ (by simp only [putAll, Act.put, List.setIfInBounds_toArray, List.set_cons_zero, List.set_cons_succ]) (hCont (gb119) _ ⟨hHeld, (by (with_reducible repeat (first | apply Kd.R_alloc | apply Kd.R_drewN | apply Kd.R_drew)); exact Kd.R_mono HO_6.out (fun _ hk => hk.2)), (by (with_reducible repeat (first | refine blk_drewN ?_ _ | refine blk_drew ?_ | refine blk_alloc ?_ _)); exact BK111.out), (by (with_reducible repeat (first | refine blk_drewN ?_ _ | refine blk_drew ?_ | refine blk_alloc ?_ _)); exact BK119.out), GW119.out, GE119.out, NB111_119.out, NB119_111.out, (by repeat (first | (with_reducible first | exact HB.out | apply below_alloc | apply pw_below_drewN | apply below_drew1 | refine below_set ?_ (Aside0.out (by assumption))) | exact HB.out))⟩)
         rintro gb119 w74 ⟨hS_, h0_, h1_, h2_, h3_, h4_, h5_, h6_, h7_⟩
         have n0_ : Aside0 (Kd.R k90 90 w74 w.heap.size (fun k_ => k_ ≠ gb119) (.slice (some ⟨go7, 0, none⟩) x6_1.length co7) x6_1) := ⟨h0_⟩
         have n1_ : Aside0 (w74.heap[gb111]? = some (.cells #[.int .i64 ((rd_T54 l0 x7_1).f0), .int .i64 ((rd_T54 l0 x7_1).f1), .int .i64 ((rd_T54 l0 x7_1).f2), .int .i64 ((rd_T54 l0 x7_1).f3), .int .i64 ((rd_T54 l0 x7_1).f4)] 54 (0, 0))) := ⟨h1_⟩
         have n2_ : Aside0 (w74.heap[gb119]? = some (.cells #[.bool false, .int .i64 0, .string (⟨#[]⟩ : ByteArray)] 90 (0, 0))) := ⟨h2_⟩
         have n3_ : Aside0 (w.heap.size ≤ gb119) := ⟨h3_⟩
         have n4_ : Aside0 (w.heap.size ≤ gb119) := ⟨h4_⟩
         have n5_ : Aside0 (gb111 ≠ gb119) := ⟨h5_⟩
         have n6_ : Aside0 (gb119 ≠ gb111) := ⟨h6_⟩
         have n7_ : Aside0 (Below w.heap.size w w74) := ⟨h7_⟩
         clear HO_6
         clear BK111
         clear HB
         clear h0_ h1_ h2_ h3_ h4_ h5_ h6_ h7_
         have HO_6 := n0_
         have BK111 := n1_
         have BK119 := n2_
         have GW119 := n3_
         have GE119 := n4_
         have NB111_119 := n5_
         have NB119_111 := n6_
         have HB := n7_
         clear n0_ n1_ n2_ n3_ n4_ n5_ n6_ n7_
         have hHeld : w74.cell? ⟨gb111, 0, none⟩ = some (.int .i64 ((rd_T54 l0 x7_1).f0)) ∧ w74.cell? ⟨gb111, 1, none⟩ = some (.int .i64 ((rd_T54 l0 x7_1).f1)) ∧ w74.cell? ⟨gb111, 2, none⟩ = some (.int .i64 ((rd_T54 l0 x7_1).f2)) ∧ w74.cell? ⟨gb111, 3, none⟩ = some (.int .i64 ((rd_T54 l0 x7_1).f3)) ∧ w74.cell? ⟨gb111, 4, none⟩ = some (.int .i64 ((rd_T54 l0 x7_1).f4)) ∧ w74.cell? ⟨go7, (x7_1).toNat * 3, none⟩ = some (.bool (true)) ∧ w74.cell? ⟨go7, (x7_1).toNat * 3 + 1, none⟩ = some (.int .i64 ((rd_T90 x6_1 x7_1).f1)) ∧ w74.cell? ⟨go7, (x7_1).toNat * 3 + 2, none⟩ = some (.string ((rd_T90 x6_1 x7_1).f2)) := hS_
         refine norm_ (a' := ?_) ?_ ?_
         rotate_left
         ·simp only [putAll, Act.put, List.setIfInBounds_toArray, List.set_cons_zero, List.set_cons_succ]
          rfl
         refine one_ (i := 12) (N := none) #[true, true, true, true, true, true, true, true, true, true, true, true, true, false] rfl rfl (one_of HT_.out (by kernel_rfl)) (by decide) (fun K hK => ?_)
         have hs75 : w74.cell? ⟨gb119, 0, none⟩ = some (.bool false) := sc BK119 0
         have hfs75 := blk_frozen BK119.out 0
         have hns75_0 := NB111_119.out
         have hms75_0 := NB119_111.out
         have hs76 : w74.cell? ⟨gb119, 1, none⟩ = some (.int .i64 0) := sc BK119 1
         have hfs76 := blk_frozen BK119.out 1
         have hns76_0 := NB111_119.out
         have hms76_0 := NB119_111.out
         have hs77 : w74.cell? ⟨gb119, 2, none⟩ = some (.string (⟨#[]⟩ : ByteArray)) := sc BK119 2
         have hfs77 := blk_frozen BK119.out 2
         have hns77_0 := NB111_119.out
         have hms77_0 := NB119_111.out
         refine skip_ (w1 := ?_) (by rfl) rfl ?_ ?_
         rotate_left
         ·go_simp
          rfl
         refine hK.out _ _ ⟨((cell_far (p := ⟨gb119, _, none⟩) NB111_119.out _).trans (((cell_far (p := ⟨gb119, _, none⟩) NB111_119.out _).trans (((cell_far (p := ⟨gb119, _, none⟩) NB111_119.out _).trans (hHeld.1)))))), ((cell_far (p := ⟨gb119, _, none⟩) NB111_119.out _).trans (((cell_far (p := ⟨gb119, _, none⟩) NB111_119.out _).trans (((cell_far (p := ⟨gb119, _, none⟩) NB111_119.out _).trans (hHeld.2.1)))))), ((cell_far (p := ⟨gb119, _, none⟩) NB111_119.out _).trans (((cell_far (p := ⟨gb119, _, none⟩) NB111_119.out _).trans (((cell_far (p := ⟨gb119, _, none⟩) NB111_119.out _).trans (hHeld.2.2.1)))))), ((cell_far (p := ⟨gb119, _, none⟩) NB111_119.out _).trans (((cell_far (p := ⟨gb119, _, none⟩) NB111_119.out _).trans (((cell_far (p := ⟨gb119, _, none⟩) NB111_119.out _).trans (hHeld.2.2.2.1)))))), ((cell_far (p := ⟨gb119, _, none⟩) NB111_119.out _).trans (((cell_far (p := ⟨gb119, _, none⟩) NB111_119.out _).trans (((cell_far (p := ⟨gb119, _, none⟩) NB111_119.out _).trans (hHeld.2.2.2.2.1)))))), ((cell_far (p := ⟨gb119, _, none⟩) (by first | exact Kd.own_blk (Kd.R_away HO_6.out (fun _ hk => hk)) | (rw [add_block]; exact Kd.own_blk (Kd.R_away HO_6.out (fun _ hk => hk))) | (show (Addr.add _ _).block ≠ _; rw [add_block]; exact Kd.own_blk (Kd.R_away HO_6.out (fun _ hk => hk))) | (dsimp only; exact Kd.own_blk (Kd.R_away HO_6.out (fun _ hk => hk)))) _).trans (((cell_far (p := ⟨gb119, _, none⟩) (by first | exact Kd.own_blk (Kd.R_away HO_6.out (fun _ hk => hk)) | (rw [add_block]; exact Kd.own_blk (Kd.R_away HO_6.out (fun _ hk => hk))) | (show (Addr.add _ _).block ≠ _; rw [add_block]; exact Kd.own_blk (Kd.R_away HO_6.out (fun _ hk => hk))) | (dsimp only; exact Kd.own_blk (Kd.R_away HO_6.out (fun _ hk => hk)))) _).trans (((cell_far (p := ⟨gb119, _, none⟩) (by first | exact Kd.own_blk (Kd.R_away HO_6.out (fun _ hk => hk)) | (rw [add_block]; exact Kd.own_blk (Kd.R_away HO_6.out (fun _ hk => hk))) | (show (Addr.add _ _).block ≠ _; rw [add_block]; exact Kd.own_blk (Kd.R_away HO_6.out (fun _ hk => hk))) | (dsimp only; exact Kd.own_blk (Kd.R_away HO_6.out (fun _ hk => hk)))) _).trans (hHeld.2.2.2.2.2.1)))))), ((cell_far (p := ⟨gb119, _, none⟩) (by first | exact Kd.own_blk (Kd.R_away HO_6.out (fun _ hk => hk)) | (rw [add_block]; exact Kd.own_blk (Kd.R_away HO_6.out (fun _ hk => hk))) | (show (Addr.add _ _).block ≠ _; rw [add_block]; exact Kd.own_blk (Kd.R_away HO_6.out (fun _ hk => hk))) | (dsimp only; exact Kd.own_blk (Kd.R_away HO_6.out (fun _ hk => hk)))) _).trans (((cell_far (p := ⟨gb119, _, none⟩) (by first | exact Kd.own_blk (Kd.R_away HO_6.out (fun _ hk => hk)) | (rw [add_block]; exact Kd.own_blk (Kd.R_away HO_6.out (fun _ hk => hk))) | (show (Addr.add _ _).block ≠ _; rw [add_block]; exact Kd.own_blk (Kd.R_away HO_6.out (fun _ hk => hk))) | (dsimp only; exact Kd.own_blk (Kd.R_away HO_6.out (fun _ hk => hk)))) _).trans (((cell_far (p := ⟨gb119, _, none⟩) (by first | exact Kd.own_blk (Kd.R_away HO_6.out (fun _ hk => hk)) | (rw [add_block]; exact Kd.own_blk (Kd.R_away HO_6.out (fun _ hk => hk))) | (show (Addr.add _ _).block ≠ _; rw [add_block]; exact Kd.own_blk (Kd.R_away HO_6.out (fun _ hk => hk))) | (dsimp only; exact Kd.own_blk (Kd.R_away HO_6.out (fun _ hk => hk)))) _).trans (hHeld.2.2.2.2.2.2.1)))))), ((cell_far (p := ⟨gb119, _, none⟩) (by first | exact Kd.own_blk (Kd.R_away HO_6.out (fun _ hk => hk)) | (rw [add_block]; exact Kd.own_blk (Kd.R_away HO_6.out (fun _ hk => hk))) | (show (Addr.add _ _).block ≠ _; rw [add_block]; exact Kd.own_blk (Kd.R_away HO_6.out (fun _ hk => hk))) | (dsimp only; exact Kd.own_blk (Kd.R_away HO_6.out (fun _ hk => hk)))) _).trans (((cell_far (p := ⟨gb119, _, none⟩) (by first | exact Kd.own_blk (Kd.R_away HO_6.out (fun _ hk => hk)) | (rw [add_block]; exact Kd.own_blk (Kd.R_away HO_6.out (fun _ hk => hk))) | (show (Addr.add _ _).block ≠ _; rw [add_block]; exact Kd.own_blk (Kd.R_away HO_6.out (fun _ hk => hk))) | (dsimp only; exact Kd.own_blk (Kd.R_away HO_6.out (fun _ hk => hk)))) _).trans (((cell_far (p := ⟨gb119, _, none⟩) (by first | exact Kd.own_blk (Kd.R_away HO_6.out (fun _ hk => hk)) | (rw [add_block]; exact Kd.own_blk (Kd.R_away HO_6.out (fun _ hk => hk))) | (show (Addr.add _ _).block ≠ _; rw [add_block]; exact Kd.own_blk (Kd.R_away HO_6.out (fun _ hk => hk))) | (dsimp only; exact Kd.own_blk (Kd.R_away HO_6.out (fun _ hk => hk)))) _).trans (hHeld.2.2.2.2.2.2.2))))))⟩ (fun hHeld => ?_)
         clear hK K
         refine pureK 13 (some 10) #[true, true, true, true, true, true, true, true, true, true, true, true, true, true] HT_ ?_
         refine done_ (done_of HT_.out (by kernel_rfl)) ?_
         try go_wp2
         go_ret3
         exact ⟨_, by first | rfl | (simp [errW_none, errW_some] <;> rfl) | (simp only [← hji3]; first | rfl | (simp [errW_none, errW_some] <;> rfl)) | (simp [*, errW_none, errW_some] <;> rfl), by first | exact Kd.R_nil _ _ _ _ _ | exact Kd.N_nil _ _ _ _ _ | exact Kd.V_nil _ _ _ _ _ | exact Kd.Q_nil _ _ _ _ _ | exact Kd.S_nil _ _ _ _ _, by repeat (first | (with_reducible first | exact HB.out | apply below_alloc | apply pw_below_drewN | apply below_drew1 | refine below_set ?_ (Aside0.out (by assumption))) | exact HB.out)⟩
       ·replace c19 := Bool.eq_false_iff.mpr c19
        subst c19
        have H1 : (fuglemanref14_All.l0 k1 l0 (l0.length : Int) x6_1 (wrap64 (x7_1 + 1))) = some (r1, r2, r3) := by rw [if_neg (show ¬ (false = true) by decide)] at H; exact H
        clear H
        have H := H1
        clear H1
        have H' := Aside0.mk H
        clear H
        have p110 : 0 ≤ (x7_1 : Int) := of_decide_eq_true (by first | (with_reducible assumption) | assumption)
        have q110 : x7_1 < (l0.length : Int) := of_decide_eq_true (by first | (with_reducible assumption) | assumption)
        obtain ⟨ad110, e110, hx110_0, hx110_1, hx110_2, hx110_3, hx110_4⟩ := at_T54 HR0.out x7_1 p110 q110
        cases e110
        replace hx110_0 := (HB.out.cell (World.block_lt_of_cell? w _ hx110_0)).trans hx110_0
        replace hx110_1 := (HB.out.cell (World.block_lt_of_cell? w _ hx110_1)).trans hx110_1
        replace hx110_2 := (HB.out.cell (World.block_lt_of_cell? w _ hx110_2)).trans hx110_2
        replace hx110_3 := (HB.out.cell (World.block_lt_of_cell? w _ hx110_3)).trans hx110_3
        replace hx110_4 := (HB.out.cell (World.block_lt_of_cell? w _ hx110_4)).trans hx110_4
        replace p110 := eq_true p110
        replace q110 := eq_true q110
        go_wp2_with (first | ((with_reducible refine gate_dst (N := 8) rfl ?_); refine boxK (N := 8) (#[.int .i64 0, .int .i64 0, .int .i64 0, .int .i64 0, .int .i64 0]) 54 ?_; intro gb111 hg w78 hbox hb; replace HO_6 := sR HO_6 hb; have BK111 := Aside0.mk (hbox); have GW111 := sG hg HB; have GE111 := sG hg HB; replace HB := sB HB hb; clear hb hbox hg; obtain ⟨z79_0, z79_1, z79_2, z79_3, z79_4, q79_0, q79_1, q79_2, q79_3, q79_4⟩ := bk5 BK111) | ((with_reducible refine gate_callee (f := 55) rfl ?_); refine goesK (some 33) Try.func55 #[.agg #[.int .i64 ((rd_T54 l0 x7_1).f0), .int .i64 ((rd_T54 l0 x7_1).f1), .int .i64 ((rd_T54 l0 x7_1).f2), .int .i64 ((rd_T54 l0 x7_1).f3), .int .i64 ((rd_T54 l0 x7_1).f4)]] ?_; (with_reducible refine (fuglemanref12_Right.calls ((rd_T54 l0 x7_1).f0) ((rd_T54 l0 x7_1).f1) ((rd_T54 l0 x7_1).f2) ((rd_T54 l0 x7_1).f3) ((rd_T54 l0 x7_1).f4) true _ A15.out).mono ?_); rintro e w80 ⟨rfl, hb⟩; refine ⟨_, rfl, ?_⟩; replace HO_6 := Aside0.mk (Kd.R_below (by (with_reducible repeat (first | apply Kd.R_alloc | apply Kd.R_drewN | apply Kd.R_drew)); exact (sfR (Kd.R_types HO_6.out BK111.out (by decide)))) hb); replace BK111 := sKp (.cells #[.int .i64 ((rd_T54 l0 x7_1).f0), .int .i64 ((rd_T54 l0 x7_1).f1), .int .i64 ((rd_T54 l0 x7_1).f2), .int .i64 ((rd_T54 l0 x7_1).f3), .int .i64 ((rd_T54 l0 x7_1).f4)] 54 (0, 0)) BK111 hb; replace HB := sB HB hb; (try clear hb); have p113 : 0 ≤ (x7_1 : Int) := of_decide_eq_true (by first | (with_reducible assumption) | assumption); have q113 : x7_1 < (x6_1.length : Int) := of_decide_eq_true (by first | (with_reducible assumption) | assumption); obtain ⟨ad113, e113, hx113_0, hx113_1, hx113_2⟩ := at_T90 (Kd.R_reads' HO_6.out).2.2 x7_1 p113 q113; (try rw [← Nbq18.out] at hx113_0); obtain rfl : (⟨go7, 0, none⟩ : Addr) = ad113 := (by injection e113); (first | simp only [add_plain] at hx113_0 | simp only [add_at] at hx113_0 | simp only [Addr.add, Nat.zero_add] at hx113_0 | skip); (first | simp only [add_plain] at hx113_1 | simp only [add_at] at hx113_1 | simp only [Addr.add, Nat.zero_add] at hx113_1 | skip); (first | simp only [add_plain] at hx113_2 | simp only [add_at] at hx113_2 | simp only [Addr.add, Nat.zero_add] at hx113_2 | skip); replace p113 := eq_true p113; replace q113 := eq_true q113))
        (try simp only [← hl6_1])
        go_roundg k1
        case measure => have := HK1.out; omega
        case rel => exact ⟨(x6_1), (wrap64 (x7_1 + 1)), (by first | rfl | (simp; done) | (simp [*]; done)), H', ⟨by have := HK1.out; omega⟩, ⟨by (try simp only [hl6_1]); (with_reducible repeat (first | apply Kd.R_alloc | apply Kd.R_drewN | apply Kd.R_drew)); exact HO_6.out⟩, (sB0 HB)⟩
      ·rw [if_neg c17] at H
       exact absurd H (by simp)
     ·replace c16 := Bool.eq_false_iff.mpr c16
      subst c16
      have H1 : (some (([] : List (S90)), 3, x7_1)) = some (r1, r2, r3) := by rw [if_neg (show ¬ (false = true) by decide)] at H; exact H
      clear H
      have H := H1
      clear H1
      simp only [Option.some.injEq, Prod.mk.injEq] at H
      obtain ⟨rfl, rfl, rfl⟩ := H
      have p110 : 0 ≤ (x7_1 : Int) := of_decide_eq_true (by first | (with_reducible assumption) | assumption)
      have q110 : x7_1 < (l0.length : Int) := of_decide_eq_true (by first | (with_reducible assumption) | assumption)
      obtain ⟨ad110, e110, hx110_0, hx110_1, hx110_2, hx110_3, hx110_4⟩ := at_T54 HR0.out x7_1 p110 q110
      cases e110
      replace hx110_0 := (HB.out.cell (World.block_lt_of_cell? w _ hx110_0)).trans hx110_0
      replace hx110_1 := (HB.out.cell (World.block_lt_of_cell? w _ hx110_1)).trans hx110_1
      replace hx110_2 := (HB.out.cell (World.block_lt_of_cell? w _ hx110_2)).trans hx110_2
      replace hx110_3 := (HB.out.cell (World.block_lt_of_cell? w _ hx110_3)).trans hx110_3
      replace hx110_4 := (HB.out.cell (World.block_lt_of_cell? w _ hx110_4)).trans hx110_4
      replace p110 := eq_true p110
      replace q110 := eq_true q110
      go_wp2_with (first | ((with_reducible refine gate_dst (N := 8) rfl ?_); refine boxK (N := 8) (#[.int .i64 0, .int .i64 0, .int .i64 0, .int .i64 0, .int .i64 0]) 54 ?_; intro gb111 hg w81 hbox hb; replace HO_6 := sR HO_6 hb; have BK111 := Aside0.mk (hbox); have GW111 := sG hg HB; have GE111 := sG hg HB; replace HB := sB HB hb; clear hb hbox hg; obtain ⟨z82_0, z82_1, z82_2, z82_3, z82_4, q82_0, q82_1, q82_2, q82_3, q82_4⟩ := bk5 BK111) | ((with_reducible refine gate_callee (f := 55) rfl ?_); refine goesK (some 33) Try.func55 #[.agg #[.int .i64 ((rd_T54 l0 x7_1).f0), .int .i64 ((rd_T54 l0 x7_1).f1), .int .i64 ((rd_T54 l0 x7_1).f2), .int .i64 ((rd_T54 l0 x7_1).f3), .int .i64 ((rd_T54 l0 x7_1).f4)]] ?_; (with_reducible refine (fuglemanref12_Right.calls ((rd_T54 l0 x7_1).f0) ((rd_T54 l0 x7_1).f1) ((rd_T54 l0 x7_1).f2) ((rd_T54 l0 x7_1).f3) ((rd_T54 l0 x7_1).f4) false _ A15.out).mono ?_); rintro e w83 ⟨rfl, hb⟩; refine ⟨_, rfl, ?_⟩; replace HO_6 := Aside0.mk (Kd.R_below (by (with_reducible repeat (first | apply Kd.R_alloc | apply Kd.R_drewN | apply Kd.R_drew)); exact (sfR (Kd.R_types HO_6.out BK111.out (by decide)))) hb); replace BK111 := sKp (.cells #[.int .i64 ((rd_T54 l0 x7_1).f0), .int .i64 ((rd_T54 l0 x7_1).f1), .int .i64 ((rd_T54 l0 x7_1).f2), .int .i64 ((rd_T54 l0 x7_1).f3), .int .i64 ((rd_T54 l0 x7_1).f4)] 54 (0, 0)) BK111 hb; replace HB := sB HB hb; (try clear hb)))
      go_ret3
      exact ⟨_, by first | rfl | (simp [errW_none, errW_some] <;> rfl) | (simp only [← hji3]; first | rfl | (simp [errW_none, errW_some] <;> rfl)) | (simp [*, errW_none, errW_some] <;> rfl), by first | exact Kd.R_nil _ _ _ _ _ | exact Kd.N_nil _ _ _ _ _ | exact Kd.V_nil _ _ _ _ _ | exact Kd.Q_nil _ _ _ _ _ | exact Kd.S_nil _ _ _ _ _, by repeat (first | (with_reducible first | exact HB.out | apply below_alloc | apply pw_below_drewN | apply below_drew1 | refine below_set ?_ (Aside0.out (by assumption))) | exact HB.out)⟩
    ·rw [if_neg c14] at H
     exact absurd H (by simp)
   ·rw [if_neg c13] at H
    exact absurd H (by simp)
  ·rw [if_neg c12] at H
   have c12b0 : decide (x7_1 < (l0.length : Int)) = false := decide_eq_false c12
   clear c12
   by_cases c84 : 0 ≤ (l0.length : Int)
   ·rw [if_pos c84] at H
    have c84b0 : decide (0 ≤ (l0.length : Int)) = true := decide_eq_true c84
    have c84b1 : decide (0 ≤ l0.length) = true := decide_eq_true (by omega)
    clear c84
    by_cases c85 : (l0.length : Int) < (x6_1.length : Int)
    ·rw [if_pos c85] at H
     have c85b0 : decide ((l0.length : Int) < (x6_1.length : Int)) = true := decide_eq_true c85
     have c85b1 : decide (l0.length < x6_1.length) = true := decide_eq_true (Int.ofNat_lt.mp c85)
     clear c85
     obtain ⟨bq86, hbq86⟩ : ∃ b_ : Bool, b_ = ((rd_T90 x6_1 (l0.length : Int)).f0) := ⟨_, rfl⟩
     replace H : (if bq86 = true then (if ((rd_T90 x6_1 (l0.length : Int)).f2).toList = ([] : List UInt8) then (some (x6_1, 0, 0)) else (some (([] : List (S90)), 3, (l0.length : Int)))) else (some (x6_1, 0, 0))) = some (r1, r2, r3) := by rw [← hbq86] at H; exact H
     have Nbq86 := Aside0.mk hbq86
     clear hbq86
     by_cases c87 : bq86 = true
     ·subst c87
      have H1 : (if ((rd_T90 x6_1 (l0.length : Int)).f2).toList = ([] : List UInt8) then (some (x6_1, 0, 0)) else (some (([] : List (S90)), 3, (l0.length : Int)))) = some (r1, r2, r3) := by rw [if_pos rfl] at H; exact H
      clear H
      have H := H1
      clear H1
      by_cases c88 : ((rd_T90 x6_1 (l0.length : Int)).f2).toList = ([] : List UInt8)
      ·rw [if_pos c88] at H
       have c88b0 : (((rd_T90 x6_1 (l0.length : Int)).f2).toList == ([] : List UInt8)) = true := beq_iff_eq.mpr c88
       have c88b1 : (((rd_T90 x6_1 (l0.length : Int)).f2).toList != ([] : List UInt8)) = false := bne_eq_false_iff_eq.mpr c88
       clear c88
       simp only [Option.some.injEq, Prod.mk.injEq] at H
       obtain ⟨rfl, rfl, rfl⟩ := H
       have p108 : 0 ≤ ((l0.length : Int) : Int) := of_decide_eq_true (by first | (with_reducible assumption) | assumption)
       have q108 : (l0.length : Int) < (x6_1.length : Int) := of_decide_eq_true (by first | (with_reducible assumption) | assumption)
       obtain ⟨ad108, e108, hx108_0, hx108_1, hx108_2⟩ := at_T90 (Kd.R_reads' HO_6.out).2.2 (l0.length : Int) p108 q108
       (try rw [← Nbq86.out] at hx108_0)
       obtain rfl : (⟨go7, 0, none⟩ : Addr) = ad108 := (by injection e108)
       (first | simp only [add_plain] at hx108_0 | simp only [add_at] at hx108_0 | simp only [Addr.add, Nat.zero_add] at hx108_0 | skip)
       (first | simp only [add_plain] at hx108_1 | simp only [add_at] at hx108_1 | simp only [Addr.add, Nat.zero_add] at hx108_1 | skip)
       (first | simp only [add_plain] at hx108_2 | simp only [add_at] at hx108_2 | simp only [Addr.add, Nat.zero_add] at hx108_2 | skip)
       (try simp only [Go.IntWalk.toNatUp] at hx108_0)
       (try simp only [Go.IntWalk.toNatUp] at hx108_1)
       (try simp only [Go.IntWalk.toNatUp] at hx108_2)
       (try simp only [hl6_1] at p108)
       (try simp only [hl6_1] at q108)
       (try simp only [hl6_1] at hx108_0)
       (try simp only [hl6_1] at hx108_1)
       (try simp only [hl6_1] at hx108_2)
       replace p108 := eq_true p108
       replace q108 := eq_true q108
       have p109 : 0 ≤ ((l0.length : Int) : Int) := of_decide_eq_true (by first | (with_reducible assumption) | assumption)
       have q109 : (l0.length : Int) < (x6_1.length : Int) := of_decide_eq_true (by first | (with_reducible assumption) | assumption)
       obtain ⟨ad109, e109, hx109_0, hx109_1, hx109_2⟩ := at_T90 (Kd.R_reads' HO_6.out).2.2 (l0.length : Int) p109 q109
       (try rw [← Nbq86.out] at hx109_0)
       obtain rfl : (⟨go7, 0, none⟩ : Addr) = ad109 := (by injection e109)
       (first | simp only [add_plain] at hx109_0 | simp only [add_at] at hx109_0 | simp only [Addr.add, Nat.zero_add] at hx109_0 | skip)
       (first | simp only [add_plain] at hx109_1 | simp only [add_at] at hx109_1 | simp only [Addr.add, Nat.zero_add] at hx109_1 | skip)
       (first | simp only [add_plain] at hx109_2 | simp only [add_at] at hx109_2 | simp only [Addr.add, Nat.zero_add] at hx109_2 | skip)
       (try simp only [Go.IntWalk.toNatUp] at hx109_0)
       (try simp only [Go.IntWalk.toNatUp] at hx109_1)
       (try simp only [Go.IntWalk.toNatUp] at hx109_2)
       (try simp only [hl6_1] at p109)
       (try simp only [hl6_1] at q109)
       (try simp only [hl6_1] at hx109_0)
       (try simp only [hl6_1] at hx109_1)
       (try simp only [hl6_1] at hx109_2)
       replace p109 := eq_true p109
       replace q109 := eq_true q109
       go_wp2
       go_ret3
       exact ⟨_, by first | rfl | (simp [errW_none, errW_some] <;> rfl) | (simp only [← hji3]; first | rfl | (simp [errW_none, errW_some] <;> rfl)) | (simp [*, errW_none, errW_some] <;> rfl), by (with_reducible repeat (first | apply Kd.R_alloc | apply Kd.R_drewN | apply Kd.R_drew)); exact HO_6.out, by repeat (first | (with_reducible first | exact HB.out | apply below_alloc | apply pw_below_drewN | apply below_drew1 | refine below_set ?_ (Aside0.out (by assumption))) | exact HB.out)⟩
      ·rw [if_neg c88] at H
       have c88b0 : (((rd_T90 x6_1 (l0.length : Int)).f2).toList == ([] : List UInt8)) = false := beq_eq_false_iff_ne.mpr c88
       have c88b1 : (((rd_T90 x6_1 (l0.length : Int)).f2).toList != ([] : List UInt8)) = true := bne_iff_ne.mpr c88
       simp only [Option.some.injEq, Prod.mk.injEq] at H
       obtain ⟨rfl, rfl, rfl⟩ := H
       have p108 : 0 ≤ ((l0.length : Int) : Int) := of_decide_eq_true (by first | (with_reducible assumption) | assumption)
       have q108 : (l0.length : Int) < (x6_1.length : Int) := of_decide_eq_true (by first | (with_reducible assumption) | assumption)
       obtain ⟨ad108, e108, hx108_0, hx108_1, hx108_2⟩ := at_T90 (Kd.R_reads' HO_6.out).2.2 (l0.length : Int) p108 q108
       (try rw [← Nbq86.out] at hx108_0)
       obtain rfl : (⟨go7, 0, none⟩ : Addr) = ad108 := (by injection e108)
       (first | simp only [add_plain] at hx108_0 | simp only [add_at] at hx108_0 | simp only [Addr.add, Nat.zero_add] at hx108_0 | skip)
       (first | simp only [add_plain] at hx108_1 | simp only [add_at] at hx108_1 | simp only [Addr.add, Nat.zero_add] at hx108_1 | skip)
       (first | simp only [add_plain] at hx108_2 | simp only [add_at] at hx108_2 | simp only [Addr.add, Nat.zero_add] at hx108_2 | skip)
       (try simp only [Go.IntWalk.toNatUp] at hx108_0)
       (try simp only [Go.IntWalk.toNatUp] at hx108_1)
       (try simp only [Go.IntWalk.toNatUp] at hx108_2)
       (try simp only [hl6_1] at p108)
       (try simp only [hl6_1] at q108)
       (try simp only [hl6_1] at hx108_0)
       (try simp only [hl6_1] at hx108_1)
       (try simp only [hl6_1] at hx108_2)
       replace p108 := eq_true p108
       replace q108 := eq_true q108
       have p109 : 0 ≤ ((l0.length : Int) : Int) := of_decide_eq_true (by first | (with_reducible assumption) | assumption)
       have q109 : (l0.length : Int) < (x6_1.length : Int) := of_decide_eq_true (by first | (with_reducible assumption) | assumption)
       obtain ⟨ad109, e109, hx109_0, hx109_1, hx109_2⟩ := at_T90 (Kd.R_reads' HO_6.out).2.2 (l0.length : Int) p109 q109
       (try rw [← Nbq86.out] at hx109_0)
       obtain rfl : (⟨go7, 0, none⟩ : Addr) = ad109 := (by injection e109)
       (first | simp only [add_plain] at hx109_0 | simp only [add_at] at hx109_0 | simp only [Addr.add, Nat.zero_add] at hx109_0 | skip)
       (first | simp only [add_plain] at hx109_1 | simp only [add_at] at hx109_1 | simp only [Addr.add, Nat.zero_add] at hx109_1 | skip)
       (first | simp only [add_plain] at hx109_2 | simp only [add_at] at hx109_2 | simp only [Addr.add, Nat.zero_add] at hx109_2 | skip)
       (try simp only [Go.IntWalk.toNatUp] at hx109_0)
       (try simp only [Go.IntWalk.toNatUp] at hx109_1)
       (try simp only [Go.IntWalk.toNatUp] at hx109_2)
       (try simp only [hl6_1] at p109)
       (try simp only [hl6_1] at q109)
       (try simp only [hl6_1] at hx109_0)
       (try simp only [hl6_1] at hx109_1)
       (try simp only [hl6_1] at hx109_2)
       replace p109 := eq_true p109
       replace q109 := eq_true q109
       go_wp2
       go_ret3
       exact ⟨_, by first | rfl | (simp [errW_none, errW_some] <;> rfl) | (simp only [← hji3]; first | rfl | (simp [errW_none, errW_some] <;> rfl)) | (simp [*, errW_none, errW_some] <;> rfl), by first | exact Kd.R_nil _ _ _ _ _ | exact Kd.N_nil _ _ _ _ _ | exact Kd.V_nil _ _ _ _ _ | exact Kd.Q_nil _ _ _ _ _ | exact Kd.S_nil _ _ _ _ _, by repeat (first | (with_reducible first | exact HB.out | apply below_alloc | apply pw_below_drewN | apply below_drew1 | refine below_set ?_ (Aside0.out (by assumption))) | exact HB.out)⟩
     ·replace c87 := Bool.eq_false_iff.mpr c87
      subst c87
      have H1 : (some (x6_1, 0, 0)) = some (r1, r2, r3) := by rw [if_neg (show ¬ (false = true) by decide)] at H; exact H
      clear H
      have H := H1
      clear H1
      simp only [Option.some.injEq, Prod.mk.injEq] at H
      obtain ⟨rfl, rfl, rfl⟩ := H
      have p108 : 0 ≤ ((l0.length : Int) : Int) := of_decide_eq_true (by first | (with_reducible assumption) | assumption)
      have q108 : (l0.length : Int) < (x6_1.length : Int) := of_decide_eq_true (by first | (with_reducible assumption) | assumption)
      obtain ⟨ad108, e108, hx108_0, hx108_1, hx108_2⟩ := at_T90 (Kd.R_reads' HO_6.out).2.2 (l0.length : Int) p108 q108
      (try rw [← Nbq86.out] at hx108_0)
      obtain rfl : (⟨go7, 0, none⟩ : Addr) = ad108 := (by injection e108)
      (first | simp only [add_plain] at hx108_0 | simp only [add_at] at hx108_0 | simp only [Addr.add, Nat.zero_add] at hx108_0 | skip)
      (first | simp only [add_plain] at hx108_1 | simp only [add_at] at hx108_1 | simp only [Addr.add, Nat.zero_add] at hx108_1 | skip)
      (first | simp only [add_plain] at hx108_2 | simp only [add_at] at hx108_2 | simp only [Addr.add, Nat.zero_add] at hx108_2 | skip)
      (try simp only [Go.IntWalk.toNatUp] at hx108_0)
      (try simp only [Go.IntWalk.toNatUp] at hx108_1)
      (try simp only [Go.IntWalk.toNatUp] at hx108_2)
      (try simp only [hl6_1] at p108)
      (try simp only [hl6_1] at q108)
      (try simp only [hl6_1] at hx108_0)
      (try simp only [hl6_1] at hx108_1)
      (try simp only [hl6_1] at hx108_2)
      replace p108 := eq_true p108
      replace q108 := eq_true q108
      go_wp2
      go_ret3
      exact ⟨_, by first | rfl | (simp [errW_none, errW_some] <;> rfl) | (simp only [← hji3]; first | rfl | (simp [errW_none, errW_some] <;> rfl)) | (simp [*, errW_none, errW_some] <;> rfl), by (with_reducible repeat (first | apply Kd.R_alloc | apply Kd.R_drewN | apply Kd.R_drew)); exact HO_6.out, by repeat (first | (with_reducible first | exact HB.out | apply below_alloc | apply pw_below_drewN | apply below_drew1 | refine below_set ?_ (Aside0.out (by assumption))) | exact HB.out)⟩
    ·rw [if_neg c85] at H
     exact absurd H (by simp)
   ·rw [if_neg c84] at H
    exact absurd H (by simp)

end Go.Proofs.Ytedmikeamgebjaa.P
