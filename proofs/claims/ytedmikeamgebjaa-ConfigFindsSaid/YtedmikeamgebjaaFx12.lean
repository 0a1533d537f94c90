-- Written by a program out of the translation; not trusted: Lean checks it.
import Derived.Test.YtedmikeamgebjaaK
import Derived.Test.YtedmikeamgebjaaFx0
import Derived.Test.YtedmikeamgebjaaFx5
import Derived.Test.YtedmikeamgebjaaFx6
import Derived.Test.YtedmikeamgebjaaFx7
import Derived.Test.YtedmikeamgebjaaFx8
import Derived.Test.YtedmikeamgebjaaFx9
import Derived.Test.YtedmikeamgebjaaFx10
import Derived.Test.YtedmikeamgebjaaFx11
namespace Go.Proofs.Ytedmikeamgebjaa.F
open Go.Proofs.YtedmikeamgebjaaW.PrintK Go.RowKit Go.Proofs.YtedmikeamgebjaaW.PrintWords Go.Proofs.YtedmikeamgebjaaW.PrintLast Go.Proofs.YtedmikeamgebjaaW.PrintMore
attribute [local go_sem] max2_int min2_int max_two min_two max_three min_three max_four min_four   -- for this text's walks alone
set_option linter.unusedVariables false
set_option linter.unusedSimpArgs false

/-! ### fuglemanlaw20_ConfigFinds: function 5 -/
mutual
def fuglemanlaw20_ConfigFinds.j0 : Nat → Bool → Int → Int → Int → Int → Int → Int → List (S63) → List (S37) → Int → Int → Int → List (S54) → List (S56) → List (S56) → Int → Int → Int → List (S54) → List (S56) → List (S56) → Option (Bool)
 | 0, _, _, _, _, _, _, _, _, _, _, _, _, _, _, _, _, _, _, _, _, _ => none
 | k + 1, x55, x231000, x231001, x231002, x231003, x231004, x231005, x231006, x231007, x247000, x247001, x247002, x247003, x247004, x247005, x261000, x261001, x261002, x261003, x261004, x261005 => if x55 = true then (some false) else ((config_Values.f k x231000 x231001 x231002 x231003 x231004 x231005 x231006 x231007 x247000 x247001 x247002 x247003 x247004 x247005).bind fun t266 => ((fuglemanref20_Values.f k x231000 x231001 x231002 x231003 x231004 x231005 x231006 x231007 x261000 x261001 x261002 x261003 x261004 x261005).bind fun t269 => (if (t266.length : Int) = (t269.length : Int) then (fuglemanlaw20_ConfigFinds.l0 k t266 t269 (t266.length : Int) 0) else (some false))))
def fuglemanlaw20_ConfigFinds.l0 : Nat → List Int → List Int → Int → Int → Option (Bool)
 | 0, _, _, _, _ => none
 | k + 1, x11, x12, x68, x69 => if x69 < x68 then (if 0 ≤ x69 then (if x69 < (x11.length : Int) then (if x69 < (x12.length : Int) then (if (rd x11 x69) = (rd x12 x69) then (fuglemanlaw20_ConfigFinds.l0 k x11 x12 x68 (wrap64 (x69 + 1))) else (some false)) else (none)) else (none)) else (none)) else (some true)
end
def fuglemanlaw20_ConfigFinds.f (k : Nat) (a0_0 : Int) (a0_1 : Int) (a0_2 : Int) (a0_3 : Int) (a0_4 : Int) (a0_5 : Int) (l0_6 : List (S63)) (l0_7 : List (S37)) (a1 : Int) (a2 : Int) : Option (Bool) := (fuglemanlaw20_awake.f k).bind fun t231 => (if t231 = true then ((fuglemanlaw20_Small.f k a0_0 a0_1 a0_2 a0_3 a0_4 a0_5 l0_6 l0_7).bind fun t232 => (if t232 = true then ((config_Find.f a0_0 a0_1 a0_2 a0_3 a0_4 a0_5 l0_6 l0_7 a1).bind fun bt233 => ((fuglemanref20_Find.f k a0_0 a0_1 a0_2 a0_3 a0_4 a0_5 l0_6 l0_7 a1).bind fun bt247 => (if (bt233.2.2.2.2.2.2 != bt247.2.2.2.2.2.2) = true then (fuglemanlaw20_ConfigFinds.j0 k true a0_0 a0_1 a0_2 a0_3 a0_4 a0_5 l0_6 l0_7 bt233.1 bt233.2.1 bt233.2.2.1 bt233.2.2.2.1 bt233.2.2.2.2.1 bt233.2.2.2.2.2.1 bt247.1 bt247.2.1 bt247.2.2.1 bt247.2.2.2.1 bt247.2.2.2.2.1 bt247.2.2.2.2.2.1) else ((fuglemanlaw20_same.f k bt233.1 bt233.2.1 bt233.2.2.1 bt233.2.2.2.1 bt233.2.2.2.2.1 bt233.2.2.2.2.2.1 bt247.1 bt247.2.1 bt247.2.2.1 bt247.2.2.2.1 bt247.2.2.2.2.1 bt247.2.2.2.2.2.1).bind fun t261 => (if t261 = true then ((config_Addrs.f a0_0 a0_1 a0_2 a0_3 a0_4 a0_5 l0_6 l0_7).bind fun t262 => ((fuglemanref20_Addrs.f k a0_0 a0_1 a0_2 a0_3 a0_4 a0_5 l0_6 l0_7).bind fun t263 => (if t262 = t263 then ((config_Readers.f a0_0 a0_1 a0_2 a0_3 a0_4 a0_5 l0_6 l0_7 a2).bind fun t264 => ((fuglemanref20_Readers.f k a0_0 a0_1 a0_2 a0_3 a0_4 a0_5 l0_6 l0_7 a2).bind fun t265 => (fuglemanlaw20_ConfigFinds.j0 k (t264 != t265) a0_0 a0_1 a0_2 a0_3 a0_4 a0_5 l0_6 l0_7 bt233.1 bt233.2.1 bt233.2.2.1 bt233.2.2.2.1 bt233.2.2.2.2.1 bt233.2.2.2.2.2.1 bt247.1 bt247.2.1 bt247.2.2.1 bt247.2.2.2.1 bt247.2.2.2.2.1 bt247.2.2.2.2.2.1))) else (fuglemanlaw20_ConfigFinds.j0 k true a0_0 a0_1 a0_2 a0_3 a0_4 a0_5 l0_6 l0_7 bt233.1 bt233.2.1 bt233.2.2.1 bt233.2.2.2.1 bt233.2.2.2.2.1 bt233.2.2.2.2.2.1 bt247.1 bt247.2.1 bt247.2.2.1 bt247.2.2.2.1 bt247.2.2.2.2.1 bt247.2.2.2.2.2.1)))) else (fuglemanlaw20_ConfigFinds.j0 k true a0_0 a0_1 a0_2 a0_3 a0_4 a0_5 l0_6 l0_7 bt233.1 bt233.2.1 bt233.2.2.1 bt233.2.2.2.1 bt233.2.2.2.2.1 bt233.2.2.2.2.2.1 bt247.1 bt247.2.1 bt247.2.2.1 bt247.2.2.2.1 bt247.2.2.2.2.1 bt247.2.2.2.2.2.1)))))) else (some true))) else (some false))
theorem fuglemanlaw20_ConfigFinds.mono_l : ∀ k, (∀ y0 y1 y2 y3 y4 y5 y6 y7 y8 y9 y10 y11 y12 y13 y14 y15 y16 y17 y18 y19 y20, LeO (fuglemanlaw20_ConfigFinds.j0 k y0 y1 y2 y3 y4 y5 y6 y7 y8 y9 y10 y11 y12 y13 y14 y15 y16 y17 y18 y19 y20) (fuglemanlaw20_ConfigFinds.j0 (k + 1) y0 y1 y2 y3 y4 y5 y6 y7 y8 y9 y10 y11 y12 y13 y14 y15 y16 y17 y18 y19 y20)) ∧ (∀ y0 y1 y2 y3, LeO (fuglemanlaw20_ConfigFinds.l0 k y0 y1 y2 y3) (fuglemanlaw20_ConfigFinds.l0 (k + 1) y0 y1 y2 y3))
 | 0 => ⟨fun _ _ _ _ _ _ _ _ _ _ _ _ _ _ _ _ _ _ _ _ _ r h => by simp [fuglemanlaw20_ConfigFinds.j0] at h, fun _ _ _ _ r h => by simp [fuglemanlaw20_ConfigFinds.l0] at h⟩
 | k + 1 => by
  obtain ⟨ih0, ih1⟩ := fuglemanlaw20_ConfigFinds.mono_l k
  refine ⟨?_, ?_⟩
  ·intro y0 y1 y2 y3 y4 y5 y6 y7 y8 y9 y10 y11 y12 y13 y14 y15 y16 y17 y18 y19 y20
   unfold fuglemanlaw20_ConfigFinds.j0
   repeat' first
   | (with_reducible exact ih0 _ _ _ _ _ _ _ _ _ _ _ _ _ _ _ _ _ _ _ _ _)
   | (with_reducible exact ih1 _ _ _ _)
   | (with_reducible exact config_Values.mono _ _ _ _ _ _ _ _ _ _ _ _ _ _ _)
   | (with_reducible exact fuglemanlaw20_Small.mono _ _ _ _ _ _ _ _ _)
   | (with_reducible exact fuglemanlaw20_awake.mono _)
   | (with_reducible exact fuglemanlaw20_same.mono _ _ _ _ _ _ _ _ _ _ _ _ _)
   | (with_reducible exact fuglemanref20_Addrs.mono _ _ _ _ _ _ _ _ _)
   | (with_reducible exact fuglemanref20_Find.mono _ _ _ _ _ _ _ _ _ _)
   | (with_reducible exact fuglemanref20_Readers.mono _ _ _ _ _ _ _ _ _ _)
   | (with_reducible exact fuglemanref20_Values.mono _ _ _ _ _ _ _ _ _ _ _ _ _ _ _)
   | (with_reducible exact LeO.refl _)
   | (with_reducible exact LeO.none _)
   | (with_reducible refine LeO.ite ?_ ?_)
   | (with_reducible refine LeO.bind ?_ (fun _ => ?_))
   | exact ih0 _ _ _ _ _ _ _ _ _ _ _ _ _ _ _ _ _ _ _ _ _
   | exact ih1 _ _ _ _
   | exact config_Values.mono _ _ _ _ _ _ _ _ _ _ _ _ _ _ _
   | exact fuglemanlaw20_Small.mono _ _ _ _ _ _ _ _ _
   | exact fuglemanlaw20_awake.mono _
   | exact fuglemanlaw20_same.mono _ _ _ _ _ _ _ _ _ _ _ _ _
   | exact fuglemanref20_Addrs.mono _ _ _ _ _ _ _ _ _
   | exact fuglemanref20_Find.mono _ _ _ _ _ _ _ _ _ _
   | exact fuglemanref20_Readers.mono _ _ _ _ _ _ _ _ _ _
   | exact fuglemanref20_Values.mono _ _ _ _ _ _ _ _ _ _ _ _ _ _ _
   | exact LeO.none _
   | refine LeO.ite ?_ ?_
   | refine LeO.bind ?_ (fun _ => ?_)
  ·intro y0 y1 y2 y3
   unfold fuglemanlaw20_ConfigFinds.l0
   repeat' first
   | (with_reducible exact ih0 _ _ _ _ _ _ _ _ _ _ _ _ _ _ _ _ _ _ _ _ _)
   | (with_reducible exact ih1 _ _ _ _)
   | (with_reducible exact config_Values.mono _ _ _ _ _ _ _ _ _ _ _ _ _ _ _)
   | (with_reducible exact fuglemanlaw20_Small.mono _ _ _ _ _ _ _ _ _)
   | (with_reducible exact fuglemanlaw20_awake.mono _)
   | (with_reducible exact fuglemanlaw20_same.mono _ _ _ _ _ _ _ _ _ _ _ _ _)
   | (with_reducible exact fuglemanref20_Addrs.mono _ _ _ _ _ _ _ _ _)
   | (with_reducible exact fuglemanref20_Find.mono _ _ _ _ _ _ _ _ _ _)
   | (with_reducible exact fuglemanref20_Readers.mono _ _ _ _ _ _ _ _ _ _)
   | (with_reducible exact fuglemanref20_Values.mono _ _ _ _ _ _ _ _ _ _ _ _ _ _ _)
   | (with_reducible exact LeO.refl _)
   | (with_reducible exact LeO.none _)
   | (with_reducible refine LeO.ite ?_ ?_)
   | (with_reducible refine LeO.bind ?_ (fun _ => ?_))
   | exact ih0 _ _ _ _ _ _ _ _ _ _ _ _ _ _ _ _ _ _ _ _ _
   | exact ih1 _ _ _ _
   | exact config_Values.mono _ _ _ _ _ _ _ _ _ _ _ _ _ _ _
   | exact fuglemanlaw20_Small.mono _ _ _ _ _ _ _ _ _
   | exact fuglemanlaw20_awake.mono _
   | exact fuglemanlaw20_same.mono _ _ _ _ _ _ _ _ _ _ _ _ _
   | exact fuglemanref20_Addrs.mono _ _ _ _ _ _ _ _ _
   | exact fuglemanref20_Find.mono _ _ _ _ _ _ _ _ _ _
   | exact fuglemanref20_Readers.mono _ _ _ _ _ _ _ _ _ _
   | exact fuglemanref20_Values.mono _ _ _ _ _ _ _ _ _ _ _ _ _ _ _
   | exact LeO.none _
   | refine LeO.ite ?_ ?_
   | refine LeO.bind ?_ (fun _ => ?_)
theorem fuglemanlaw20_ConfigFinds.mono : ∀ a0 a1 a2 a3 a4 a5 a6 a7 a8 a9 k, LeO (fuglemanlaw20_ConfigFinds.f k a0 a1 a2 a3 a4 a5 a6 a7 a8 a9) (fuglemanlaw20_ConfigFinds.f (k + 1) a0 a1 a2 a3 a4 a5 a6 a7 a8 a9) := by
 intro a0 a1 a2 a3 a4 a5 a6 a7 a8 a9 k
 obtain ⟨ih0, ih1⟩ := fuglemanlaw20_ConfigFinds.mono_l k
 unfold fuglemanlaw20_ConfigFinds.f
 repeat' first
   | (with_reducible exact ih0 _ _ _ _ _ _ _ _ _ _ _ _ _ _ _ _ _ _ _ _ _)
   | (with_reducible exact ih1 _ _ _ _)
   | (with_reducible exact config_Values.mono _ _ _ _ _ _ _ _ _ _ _ _ _ _ _)
   | (with_reducible exact fuglemanlaw20_Small.mono _ _ _ _ _ _ _ _ _)
   | (with_reducible exact fuglemanlaw20_awake.mono _)
   | (with_reducible exact fuglemanlaw20_same.mono _ _ _ _ _ _ _ _ _ _ _ _ _)
   | (with_reducible exact fuglemanref20_Addrs.mono _ _ _ _ _ _ _ _ _)
   | (with_reducible exact fuglemanref20_Find.mono _ _ _ _ _ _ _ _ _ _)
   | (with_reducible exact fuglemanref20_Readers.mono _ _ _ _ _ _ _ _ _ _)
   | (with_reducible exact fuglemanref20_Values.mono _ _ _ _ _ _ _ _ _ _ _ _ _ _ _)
   | (with_reducible exact LeO.refl _)
   | (with_reducible exact LeO.none _)
   | (with_reducible refine LeO.ite ?_ ?_)
   | (with_reducible refine LeO.bind ?_ (fun _ => ?_))
   | exact ih0 _ _ _ _ _ _ _ _ _ _ _ _ _ _ _ _ _ _ _ _ _
   | exact ih1 _ _ _ _
   | exact config_Values.mono _ _ _ _ _ _ _ _ _ _ _ _ _ _ _
   | exact fuglemanlaw20_Small.mono _ _ _ _ _ _ _ _ _
   | exact fuglemanlaw20_awake.mono _
   | exact fuglemanlaw20_same.mono _ _ _ _ _ _ _ _ _ _ _ _ _
   | exact fuglemanref20_Addrs.mono _ _ _ _ _ _ _ _ _
   | exact fuglemanref20_Find.mono _ _ _ _ _ _ _ _ _ _
   | exact fuglemanref20_Readers.mono _ _ _ _ _ _ _ _ _ _
   | exact fuglemanref20_Values.mono _ _ _ _ _ _ _ _ _ _ _ _ _ _ _
   | exact LeO.none _
   | refine LeO.ite ?_ ?_
   | refine LeO.bind ?_ (fun _ => ?_)
def fuglemanlaw20_ConfigFinds.T7 : Bool × List (List Nat × List Nat) := (true, [([], []), ([], []), ([0, 1], [0, 1]), ([2], [2]), ([3], [3]), ([3], [3]), ([4, 5, 3, 3], [3, 4, 5]), ([6, 3], [3, 6]), ([3, 7], [3, 7]), ([8, 6], [8]), ([9], [9]), ([10, 9, 9], [9, 10]), ([9], [9]), ([12, 11, 9], [9, 12]), ([11, 13, 9], [9, 11, 13]), ([9, 14], [9, 14]), ([15, 13], [15]), ([16], [16]), ([16], [16]), ([17, 18, 16, 16], [16, 17, 18]), ([16], [16]), ([16], [16]), ([20, 21, 19, 16], [16, 20, 21]), ([19, 22, 16], [16, 19, 22]), ([16, 23], [16, 23])])
def fuglemanlaw20_ConfigFinds.B7 : List Nat := [0, 0, 3, 7, 15, 15, 63, 127, 255, 511, 1023, 2047, 1023, 8191, 16383, 32767, 65535, 131071, 131071, 524287, 131071, 131071, 4194303, 8388607, 16777215]
theorem fuglemanlaw20_ConfigFinds.tab7 : rtab .any (opsOf Try.f5 7) = fuglemanlaw20_ConfigFinds.T7 := by kernel_rfl
theorem fuglemanlaw20_ConfigFinds.bits7 : waitsOk fuglemanlaw20_ConfigFinds.T7.2 fuglemanlaw20_ConfigFinds.B7 = true := by kernel_rfl
def fuglemanlaw20_ConfigFinds.T9 : Bool × List (List Nat × List Nat) := (true, [([], []), ([], []), ([0, 1], [0, 1]), ([], []), ([], []), ([3, 4, 2], [3, 4]), ([2, 5, 0, 1, 2], [2]), ([5, 6, 0, 1, 2, 3, 4, 5, 6], [5])])
def fuglemanlaw20_ConfigFinds.B9 : List Nat := [0, 0, 3, 0, 0, 31, 63, 127]
theorem fuglemanlaw20_ConfigFinds.tab9 : rtab .any (opsOf Try.f5 9) = fuglemanlaw20_ConfigFinds.T9 := by kernel_rfl
theorem fuglemanlaw20_ConfigFinds.bits9 : waitsOk fuglemanlaw20_ConfigFinds.T9.2 fuglemanlaw20_ConfigFinds.B9 = true := by kernel_rfl
def fuglemanlaw20_ConfigFinds.T15 : Bool × List (List Nat × List Nat) := (true, [([], []), ([], []), ([0, 1], [0, 1]), ([2], [2]), ([], []), ([], []), ([4, 5], [4, 5]), ([6], [6]), ([3, 7], [3, 7])])
def fuglemanlaw20_ConfigFinds.B15 : List Nat := [0, 0, 3, 7, 0, 0, 48, 112, 255]
theorem fuglemanlaw20_ConfigFinds.tab15 : rtab .any (opsOf Try.f5 15) = fuglemanlaw20_ConfigFinds.T15 := by kernel_rfl
theorem fuglemanlaw20_ConfigFinds.bits15 : waitsOk fuglemanlaw20_ConfigFinds.T15.2 fuglemanlaw20_ConfigFinds.B15 = true := by kernel_rfl
set_option maxHeartbeats 8000000 in
set_option maxRecDepth 100000 in
theorem fuglemanlaw20_ConfigFinds.calls (k : Nat) (a0_0 : Int) (a0_1 : Int) (a0_2 : Int) (a0_3 : Int) (a0_4 : Int) (a0_5 : Int) (A0_6 : Option Addr) (c0_6 : Nat) (l0_6 : List (S63)) (A0_7 : Option Addr) (c0_7 : Nat) (l0_7 : List (S37)) (a1 : Int) (a2 : Int) (r : Bool) (w : World) (hr0_6 : Kd.C k63 w A0_6 l0_6.length l0_6) (hc0_6 : l0_6.length ≤ c0_6) (hr0_7 : Kd.C k37 w A0_7 l0_7.length l0_7) (hc0_7 : l0_7.length ≤ c0_7) (h : fuglemanlaw20_ConfigFinds.f k a0_0 a0_1 a0_2 a0_3 a0_4 a0_5 l0_6 l0_7 a1 a2 = some r) :
  Calls Try.prog 5 #[.agg #[.int .i64 a0_0, .int .i64 a0_1, .int .i64 a0_2, .int .i64 a0_3, .int .i64 a0_4, .int .i64 a0_5, .slice A0_6 l0_6.length c0_6, .slice A0_7 l0_7.length c0_7], .int .i64 a1, .int .i64 a2] w fun e w' => e = .returned (.bool r) ∧ Below w.heap.size w w' := by
 have hu25 := Try.underlying25
 have hu37 := Try.underlying37
 have HR0_6 := Aside0.mk hr0_6
 have HC0_6 := Aside0.mk hc0_6
 clear hr0_6 hc0_6
 have HR0_7 := Aside0.mk hr0_7
 have HC0_7 := Aside0.mk hc0_7
 clear hr0_7 hc0_7
 have HB := Aside0.mk (Below.refl w.heap.size w)
 have H : ((fuglemanlaw20_awake.f k).bind fun t231 => (if t231 = true then ((fuglemanlaw20_Small.f k a0_0 a0_1 a0_2 a0_3 a0_4 a0_5 l0_6 l0_7).bind fun t232 => (if t232 = true then ((config_Find.f a0_0 a0_1 a0_2 a0_3 a0_4 a0_5 l0_6 l0_7 a1).bind fun bt233 => ((fuglemanref20_Find.f k a0_0 a0_1 a0_2 a0_3 a0_4 a0_5 l0_6 l0_7 a1).bind fun bt247 => (if (bt233.2.2.2.2.2.2 != bt247.2.2.2.2.2.2) = true then (fuglemanlaw20_ConfigFinds.j0 k true a0_0 a0_1 a0_2 a0_3 a0_4 a0_5 l0_6 l0_7 bt233.1 bt233.2.1 bt233.2.2.1 bt233.2.2.2.1 bt233.2.2.2.2.1 bt233.2.2.2.2.2.1 bt247.1 bt247.2.1 bt247.2.2.1 bt247.2.2.2.1 bt247.2.2.2.2.1 bt247.2.2.2.2.2.1) else ((fuglemanlaw20_same.f k bt233.1 bt233.2.1 bt233.2.2.1 bt233.2.2.2.1 bt233.2.2.2.2.1 bt233.2.2.2.2.2.1 bt247.1 bt247.2.1 bt247.2.2.1 bt247.2.2.2.1 bt247.2.2.2.2.1 bt247.2.2.2.2.2.1).bind fun t261 => (if t261 = true then ((config_Addrs.f a0_0 a0_1 a0_2 a0_3 a0_4 a0_5 l0_6 l0_7).bind fun t262 => ((fuglemanref20_Addrs.f k a0_0 a0_1 a0_2 a0_3 a0_4 a0_5 l0_6 l0_7).bind fun t263 => (if t262 = t263 then ((config_Readers.f a0_0 a0_1 a0_2 a0_3 a0_4 a0_5 l0_6 l0_7 a2).bind fun t264 => ((fuglemanref20_Readers.f k a0_0 a0_1 a0_2 a0_3 a0_4 a0_5 l0_6 l0_7 a2).bind fun t265 => (fuglemanlaw20_ConfigFinds.j0 k (t264 != t265) a0_0 a0_1 a0_2 a0_3 a0_4 a0_5 l0_6 l0_7 bt233.1 bt233.2.1 bt233.2.2.1 bt233.2.2.2.1 bt233.2.2.2.2.1 bt233.2.2.2.2.2.1 bt247.1 bt247.2.1 bt247.2.2.1 bt247.2.2.2.1 bt247.2.2.2.2.1 bt247.2.2.2.2.2.1))) else (fuglemanlaw20_ConfigFinds.j0 k true a0_0 a0_1 a0_2 a0_3 a0_4 a0_5 l0_6 l0_7 bt233.1 bt233.2.1 bt233.2.2.1 bt233.2.2.2.1 bt233.2.2.2.2.1 bt233.2.2.2.2.2.1 bt247.1 bt247.2.1 bt247.2.2.1 bt247.2.2.2.1 bt247.2.2.2.2.1 bt247.2.2.2.2.2.1)))) else (fuglemanlaw20_ConfigFinds.j0 k true a0_0 a0_1 a0_2 a0_3 a0_4 a0_5 l0_6 l0_7 bt233.1 bt233.2.1 bt233.2.2.1 bt233.2.2.2.1 bt233.2.2.2.2.1 bt233.2.2.2.2.2.1 bt247.1 bt247.2.1 bt247.2.2.1 bt247.2.2.2.1 bt247.2.2.2.2.1 bt247.2.2.2.2.2.1)))))) else (some true))) else (some false))) = some r := h
 clear h
 replace H := Option.bind_eq_some_iff.mp H
 obtain ⟨t231, A40, H⟩ := H
 replace H : (if t231 = true then ((fuglemanlaw20_Small.f k a0_0 a0_1 a0_2 a0_3 a0_4 a0_5 l0_6 l0_7).bind fun t232 => (if t232 = true then ((config_Find.f a0_0 a0_1 a0_2 a0_3 a0_4 a0_5 l0_6 l0_7 a1).bind fun bt233 => ((fuglemanref20_Find.f k a0_0 a0_1 a0_2 a0_3 a0_4 a0_5 l0_6 l0_7 a1).bind fun bt247 => (if (bt233.2.2.2.2.2.2 != bt247.2.2.2.2.2.2) = true then (fuglemanlaw20_ConfigFinds.j0 k true a0_0 a0_1 a0_2 a0_3 a0_4 a0_5 l0_6 l0_7 bt233.1 bt233.2.1 bt233.2.2.1 bt233.2.2.2.1 bt233.2.2.2.2.1 bt233.2.2.2.2.2.1 bt247.1 bt247.2.1 bt247.2.2.1 bt247.2.2.2.1 bt247.2.2.2.2.1 bt247.2.2.2.2.2.1) else ((fuglemanlaw20_same.f k bt233.1 bt233.2.1 bt233.2.2.1 bt233.2.2.2.1 bt233.2.2.2.2.1 bt233.2.2.2.2.2.1 bt247.1 bt247.2.1 bt247.2.2.1 bt247.2.2.2.1 bt247.2.2.2.2.1 bt247.2.2.2.2.2.1).bind fun t261 => (if t261 = true then ((config_Addrs.f a0_0 a0_1 a0_2 a0_3 a0_4 a0_5 l0_6 l0_7).bind fun t262 => ((fuglemanref20_Addrs.f k a0_0 a0_1 a0_2 a0_3 a0_4 a0_5 l0_6 l0_7).bind fun t263 => (if t262 = t263 then ((config_Readers.f a0_0 a0_1 a0_2 a0_3 a0_4 a0_5 l0_6 l0_7 a2).bind fun t264 => ((fuglemanref20_Readers.f k a0_0 a0_1 a0_2 a0_3 a0_4 a0_5 l0_6 l0_7 a2).bind fun t265 => (fuglemanlaw20_ConfigFinds.j0 k (t264 != t265) a0_0 a0_1 a0_2 a0_3 a0_4 a0_5 l0_6 l0_7 bt233.1 bt233.2.1 bt233.2.2.1 bt233.2.2.2.1 bt233.2.2.2.2.1 bt233.2.2.2.2.2.1 bt247.1 bt247.2.1 bt247.2.2.1 bt247.2.2.2.1 bt247.2.2.2.2.1 bt247.2.2.2.2.2.1))) else (fuglemanlaw20_ConfigFinds.j0 k true a0_0 a0_1 a0_2 a0_3 a0_4 a0_5 l0_6 l0_7 bt233.1 bt233.2.1 bt233.2.2.1 bt233.2.2.2.1 bt233.2.2.2.2.1 bt233.2.2.2.2.2.1 bt247.1 bt247.2.1 bt247.2.2.1 bt247.2.2.2.1 bt247.2.2.2.2.1 bt247.2.2.2.2.2.1)))) else (fuglemanlaw20_ConfigFinds.j0 k true a0_0 a0_1 a0_2 a0_3 a0_4 a0_5 l0_6 l0_7 bt233.1 bt233.2.1 bt233.2.2.1 bt233.2.2.2.1 bt233.2.2.2.2.1 bt233.2.2.2.2.2.1 bt247.1 bt247.2.1 bt247.2.2.1 bt247.2.2.2.1 bt247.2.2.2.2.1 bt247.2.2.2.2.2.1)))))) else (some true))) else (some false)) = some r := H
 have A4 := Aside0.mk A40
 clear A40
 by_cases c5 : t231 = true
 case neg =>
  replace c5 := Bool.eq_false_iff.mpr c5
  subst c5
  have H1 : (some false) = some r := by rw [if_neg (show ¬ (false = true) by decide)] at H; exact H
  clear H
  have H := H1
  clear H1
  obtain rfl := Option.some.inj H
  go_enter Try.func5, Try.ntmps5
  go_wp2_with (first | ((with_reducible refine gate_dst (N := 3) rfl ?_); refine boxK (N := 3) (#[.int .i64 a0_0, .int .i64 a0_1, .int .i64 a0_2, .int .i64 a0_3, .int .i64 a0_4, .int .i64 a0_5, .slice A0_6 l0_6.length c0_6, .slice A0_7 l0_7.length c0_7]) 25 ?_; intro gb230 hg w83 hbox hb; have BK230 := Aside0.mk (hbox); have GW230 := sG hg HB; have GE230 := sG hg HB; replace HB := sB HB hb; clear hb hbox hg) | ((with_reducible refine gate_callee (f := 6) rfl ?_); refine goesK (some 14) Try.func6 #[] ?_; (with_reducible refine (fuglemanlaw20_awake.calls k  false _ A4.out).mono ?_); rintro e w84 ⟨rfl, hb⟩; refine ⟨_, rfl, ?_⟩; replace BK230 := sK BK230 hb; replace HB := sB HB hb; (try clear hb)))
  go_ret
  exact sEnd HB
 subst c5
 have H1 : ((fuglemanlaw20_Small.f k a0_0 a0_1 a0_2 a0_3 a0_4 a0_5 l0_6 l0_7).bind fun t232 => (if t232 = true then ((config_Find.f a0_0 a0_1 a0_2 a0_3 a0_4 a0_5 l0_6 l0_7 a1).bind fun bt233 => ((fuglemanref20_Find.f k a0_0 a0_1 a0_2 a0_3 a0_4 a0_5 l0_6 l0_7 a1).bind fun bt247 => (if (bt233.2.2.2.2.2.2 != bt247.2.2.2.2.2.2) = true then (fuglemanlaw20_ConfigFinds.j0 k true a0_0 a0_1 a0_2 a0_3 a0_4 a0_5 l0_6 l0_7 bt233.1 bt233.2.1 bt233.2.2.1 bt233.2.2.2.1 bt233.2.2.2.2.1 bt233.2.2.2.2.2.1 bt247.1 bt247.2.1 bt247.2.2.1 bt247.2.2.2.1 bt247.2.2.2.2.1 bt247.2.2.2.2.2.1) else ((fuglemanlaw20_same.f k bt233.1 bt233.2.1 bt233.2.2.1 bt233.2.2.2.1 bt233.2.2.2.2.1 bt233.2.2.2.2.2.1 bt247.1 bt247.2.1 bt247.2.2.1 bt247.2.2.2.1 bt247.2.2.2.2.1 bt247.2.2.2.2.2.1).bind fun t261 => (if t261 = true then ((config_Addrs.f a0_0 a0_1 a0_2 a0_3 a0_4 a0_5 l0_6 l0_7).bind fun t262 => ((fuglemanref20_Addrs.f k a0_0 a0_1 a0_2 a0_3 a0_4 a0_5 l0_6 l0_7).bind fun t263 => (if t262 = t263 then ((config_Readers.f a0_0 a0_1 a0_2 a0_3 a0_4 a0_5 l0_6 l0_7 a2).bind fun t264 => ((fuglemanref20_Readers.f k a0_0 a0_1 a0_2 a0_3 a0_4 a0_5 l0_6 l0_7 a2).bind fun t265 => (fuglemanlaw20_ConfigFinds.j0 k (t264 != t265) a0_0 a0_1 a0_2 a0_3 a0_4 a0_5 l0_6 l0_7 bt233.1 bt233.2.1 bt233.2.2.1 bt233.2.2.2.1 bt233.2.2.2.2.1 bt233.2.2.2.2.2.1 bt247.1 bt247.2.1 bt247.2.2.1 bt247.2.2.2.1 bt247.2.2.2.2.1 bt247.2.2.2.2.2.1))) else (fuglemanlaw20_ConfigFinds.j0 k true a0_0 a0_1 a0_2 a0_3 a0_4 a0_5 l0_6 l0_7 bt233.1 bt233.2.1 bt233.2.2.1 bt233.2.2.2.1 bt233.2.2.2.2.1 bt233.2.2.2.2.2.1 bt247.1 bt247.2.1 bt247.2.2.1 bt247.2.2.2.1 bt247.2.2.2.2.1 bt247.2.2.2.2.2.1)))) else (fuglemanlaw20_ConfigFinds.j0 k true a0_0 a0_1 a0_2 a0_3 a0_4 a0_5 l0_6 l0_7 bt233.1 bt233.2.1 bt233.2.2.1 bt233.2.2.2.1 bt233.2.2.2.2.1 bt233.2.2.2.2.2.1 bt247.1 bt247.2.1 bt247.2.2.1 bt247.2.2.2.1 bt247.2.2.2.2.1 bt247.2.2.2.2.2.1)))))) else (some true))) = some r := by rw [if_pos rfl] at H; exact H
 clear H
 have H := H1
 clear H1
 replace H := Option.bind_eq_some_iff.mp H
 obtain ⟨t232, A60, H⟩ := H
 replace H : (if t232 = true then ((config_Find.f a0_0 a0_1 a0_2 a0_3 a0_4 a0_5 l0_6 l0_7 a1).bind fun bt233 => ((fuglemanref20_Find.f k a0_0 a0_1 a0_2 a0_3 a0_4 a0_5 l0_6 l0_7 a1).bind fun bt247 => (if (bt233.2.2.2.2.2.2 != bt247.2.2.2.2.2.2) = true then (fuglemanlaw20_ConfigFinds.j0 k true a0_0 a0_1 a0_2 a0_3 a0_4 a0_5 l0_6 l0_7 bt233.1 bt233.2.1 bt233.2.2.1 bt233.2.2.2.1 bt233.2.2.2.2.1 bt233.2.2.2.2.2.1 bt247.1 bt247.2.1 bt247.2.2.1 bt247.2.2.2.1 bt247.2.2.2.2.1 bt247.2.2.2.2.2.1) else ((fuglemanlaw20_same.f k bt233.1 bt233.2.1 bt233.2.2.1 bt233.2.2.2.1 bt233.2.2.2.2.1 bt233.2.2.2.2.2.1 bt247.1 bt247.2.1 bt247.2.2.1 bt247.2.2.2.1 bt247.2.2.2.2.1 bt247.2.2.2.2.2.1).bind fun t261 => (if t261 = true then ((config_Addrs.f a0_0 a0_1 a0_2 a0_3 a0_4 a0_5 l0_6 l0_7).bind fun t262 => ((fuglemanref20_Addrs.f k a0_0 a0_1 a0_2 a0_3 a0_4 a0_5 l0_6 l0_7).bind fun t263 => (if t262 = t263 then ((config_Readers.f a0_0 a0_1 a0_2 a0_3 a0_4 a0_5 l0_6 l0_7 a2).bind fun t264 => ((fuglemanref20_Readers.f k a0_0 a0_1 a0_2 a0_3 a0_4 a0_5 l0_6 l0_7 a2).bind fun t265 => (fuglemanlaw20_ConfigFinds.j0 k (t264 != t265) a0_0 a0_1 a0_2 a0_3 a0_4 a0_5 l0_6 l0_7 bt233.1 bt233.2.1 bt233.2.2.1 bt233.2.2.2.1 bt233.2.2.2.2.1 bt233.2.2.2.2.2.1 bt247.1 bt247.2.1 bt247.2.2.1 bt247.2.2.2.1 bt247.2.2.2.2.1 bt247.2.2.2.2.2.1))) else (fuglemanlaw20_ConfigFinds.j0 k true a0_0 a0_1 a0_2 a0_3 a0_4 a0_5 l0_6 l0_7 bt233.1 bt233.2.1 bt233.2.2.1 bt233.2.2.2.1 bt233.2.2.2.2.1 bt233.2.2.2.2.2.1 bt247.1 bt247.2.1 bt247.2.2.1 bt247.2.2.2.1 bt247.2.2.2.2.1 bt247.2.2.2.2.2.1)))) else (fuglemanlaw20_ConfigFinds.j0 k true a0_0 a0_1 a0_2 a0_3 a0_4 a0_5 l0_6 l0_7 bt233.1 bt233.2.1 bt233.2.2.1 bt233.2.2.2.1 bt233.2.2.2.2.1 bt233.2.2.2.2.2.1 bt247.1 bt247.2.1 bt247.2.2.1 bt247.2.2.2.1 bt247.2.2.2.2.1 bt247.2.2.2.2.2.1)))))) else (some true)) = some r := H
 have A6 := Aside0.mk A60
 clear A60
 by_cases c7 : t232 = true
 case neg =>
  replace c7 := Bool.eq_false_iff.mpr c7
  subst c7
  have H1 : (some true) = some r := by rw [if_neg (show ¬ (false = true) by decide)] at H; exact H
  clear H
  have H := H1
  clear H1
  obtain rfl := Option.some.inj H
  go_enter Try.func5, Try.ntmps5
  go_wp2_with (first | ((with_reducible refine gate_dst (N := 3) rfl ?_); refine boxK (N := 3) (#[.int .i64 a0_0, .int .i64 a0_1, .int .i64 a0_2, .int .i64 a0_3, .int .i64 a0_4, .int .i64 a0_5, .slice A0_6 l0_6.length c0_6, .slice A0_7 l0_7.length c0_7]) 25 ?_; intro gb230 hg w79 hbox hb; have BK230 := Aside0.mk (hbox); have GW230 := sG hg HB; have GE230 := sG hg HB; replace HB := sB HB hb; clear hb hbox hg) | ((with_reducible refine gate_callee (f := 6) rfl ?_); refine goesK (some 14) Try.func6 #[] ?_; (with_reducible refine (fuglemanlaw20_awake.calls k  true _ A4.out).mono ?_); rintro e w80 ⟨rfl, hb⟩; refine ⟨_, rfl, ?_⟩; replace BK230 := sK BK230 hb; replace HB := sB HB hb; (try clear hb); obtain ⟨z81_0, z81_1, z81_2, z81_3, z81_4, z81_5, z81_6, z81_7, q81_0, q81_1, q81_2, q81_3, q81_4, q81_5, q81_6, q81_7⟩ := bk8 BK230) | ((with_reducible refine gate_callee (f := 7) rfl ?_); refine goesK (some 17) Try.func7 #[.agg #[.int .i64 a0_0, .int .i64 a0_1, .int .i64 a0_2, .int .i64 a0_3, .int .i64 a0_4, .int .i64 a0_5, .slice A0_6 l0_6.length c0_6, .slice A0_7 l0_7.length c0_7]] ?_; (with_reducible refine (fuglemanlaw20_Small.calls k a0_0 a0_1 a0_2 a0_3 a0_4 a0_5 _ _ l0_6 _ _ l0_7 false _ ?side1 ?side2 ?side3 ?side4 A6.out).mono ?_); (case side1 => exact sC HR0_6 HB); (case side2 => exact HC0_6.out); (case side3 => exact sC HR0_7 HB); (case side4 => exact HC0_7.out); rintro e w82 ⟨rfl, hb⟩; refine ⟨_, rfl, ?_⟩; replace BK230 := sK BK230 hb; replace HB := sB HB hb; (try clear hb)))
  go_ret
  exact sEnd HB
 subst c7
 have H1 : ((config_Find.f a0_0 a0_1 a0_2 a0_3 a0_4 a0_5 l0_6 l0_7 a1).bind fun bt233 => ((fuglemanref20_Find.f k a0_0 a0_1 a0_2 a0_3 a0_4 a0_5 l0_6 l0_7 a1).bind fun bt247 => (if (bt233.2.2.2.2.2.2 != bt247.2.2.2.2.2.2) = true then (fuglemanlaw20_ConfigFinds.j0 k true a0_0 a0_1 a0_2 a0_3 a0_4 a0_5 l0_6 l0_7 bt233.1 bt233.2.1 bt233.2.2.1 bt233.2.2.2.1 bt233.2.2.2.2.1 bt233.2.2.2.2.2.1 bt247.1 bt247.2.1 bt247.2.2.1 bt247.2.2.2.1 bt247.2.2.2.2.1 bt247.2.2.2.2.2.1) else ((fuglemanlaw20_same.f k bt233.1 bt233.2.1 bt233.2.2.1 bt233.2.2.2.1 bt233.2.2.2.2.1 bt233.2.2.2.2.2.1 bt247.1 bt247.2.1 bt247.2.2.1 bt247.2.2.2.1 bt247.2.2.2.2.1 bt247.2.2.2.2.2.1).bind fun t261 => (if t261 = true then ((config_Addrs.f a0_0 a0_1 a0_2 a0_3 a0_4 a0_5 l0_6 l0_7).bind fun t262 => ((fuglemanref20_Addrs.f k a0_0 a0_1 a0_2 a0_3 a0_4 a0_5 l0_6 l0_7).bind fun t263 => (if t262 = t263 then ((config_Readers.f a0_0 a0_1 a0_2 a0_3 a0_4 a0_5 l0_6 l0_7 a2).bind fun t264 => ((fuglemanref20_Readers.f k a0_0 a0_1 a0_2 a0_3 a0_4 a0_5 l0_6 l0_7 a2).bind fun t265 => (fuglemanlaw20_ConfigFinds.j0 k (t264 != t265) a0_0 a0_1 a0_2 a0_3 a0_4 a0_5 l0_6 l0_7 bt233.1 bt233.2.1 bt233.2.2.1 bt233.2.2.2.1 bt233.2.2.2.2.1 bt233.2.2.2.2.2.1 bt247.1 bt247.2.1 bt247.2.2.1 bt247.2.2.2.1 bt247.2.2.2.2.1 bt247.2.2.2.2.2.1))) else (fuglemanlaw20_ConfigFinds.j0 k true a0_0 a0_1 a0_2 a0_3 a0_4 a0_5 l0_6 l0_7 bt233.1 bt233.2.1 bt233.2.2.1 bt233.2.2.2.1 bt233.2.2.2.2.1 bt233.2.2.2.2.2.1 bt247.1 bt247.2.1 bt247.2.2.1 bt247.2.2.2.1 bt247.2.2.2.2.1 bt247.2.2.2.2.2.1)))) else (fuglemanlaw20_ConfigFinds.j0 k true a0_0 a0_1 a0_2 a0_3 a0_4 a0_5 l0_6 l0_7 bt233.1 bt233.2.1 bt233.2.2.1 bt233.2.2.2.1 bt233.2.2.2.2.1 bt233.2.2.2.2.2.1 bt247.1 bt247.2.1 bt247.2.2.1 bt247.2.2.2.1 bt247.2.2.2.2.1 bt247.2.2.2.2.2.1)))))) = some r := by rw [if_pos rfl] at H; exact H
 clear H
 have H := H1
 clear H1
 replace H := Option.bind_eq_some_iff.mp H
 obtain ⟨⟨t233, t234, t235, t236, t239, t242, t245⟩, A80, H⟩ := H
 replace H : ((fuglemanref20_Find.f k a0_0 a0_1 a0_2 a0_3 a0_4 a0_5 l0_6 l0_7 a1).bind fun bt247 => (if (t245 != bt247.2.2.2.2.2.2) = true then (fuglemanlaw20_ConfigFinds.j0 k true a0_0 a0_1 a0_2 a0_3 a0_4 a0_5 l0_6 l0_7 t233 t234 t235 t236 t239 t242 bt247.1 bt247.2.1 bt247.2.2.1 bt247.2.2.2.1 bt247.2.2.2.2.1 bt247.2.2.2.2.2.1) else ((fuglemanlaw20_same.f k t233 t234 t235 t236 t239 t242 bt247.1 bt247.2.1 bt247.2.2.1 bt247.2.2.2.1 bt247.2.2.2.2.1 bt247.2.2.2.2.2.1).bind fun t261 => (if t261 = true then ((config_Addrs.f a0_0 a0_1 a0_2 a0_3 a0_4 a0_5 l0_6 l0_7).bind fun t262 => ((fuglemanref20_Addrs.f k a0_0 a0_1 a0_2 a0_3 a0_4 a0_5 l0_6 l0_7).bind fun t263 => (if t262 = t263 then ((config_Readers.f a0_0 a0_1 a0_2 a0_3 a0_4 a0_5 l0_6 l0_7 a2).bind fun t264 => ((fuglemanref20_Readers.f k a0_0 a0_1 a0_2 a0_3 a0_4 a0_5 l0_6 l0_7 a2).bind fun t265 => (fuglemanlaw20_ConfigFinds.j0 k (t264 != t265) a0_0 a0_1 a0_2 a0_3 a0_4 a0_5 l0_6 l0_7 t233 t234 t235 t236 t239 t242 bt247.1 bt247.2.1 bt247.2.2.1 bt247.2.2.2.1 bt247.2.2.2.2.1 bt247.2.2.2.2.2.1))) else (fuglemanlaw20_ConfigFinds.j0 k true a0_0 a0_1 a0_2 a0_3 a0_4 a0_5 l0_6 l0_7 t233 t234 t235 t236 t239 t242 bt247.1 bt247.2.1 bt247.2.2.1 bt247.2.2.2.1 bt247.2.2.2.2.1 bt247.2.2.2.2.2.1)))) else (fuglemanlaw20_ConfigFinds.j0 k true a0_0 a0_1 a0_2 a0_3 a0_4 a0_5 l0_6 l0_7 t233 t234 t235 t236 t239 t242 bt247.1 bt247.2.1 bt247.2.2.1 bt247.2.2.2.1 bt247.2.2.2.2.1 bt247.2.2.2.2.2.1))))) = some r := H
 have A8 := Aside0.mk A80
 clear A80
 replace H := Option.bind_eq_some_iff.mp H
 obtain ⟨⟨t247, t248, t249, t250, t253, t256, t259⟩, A90, H⟩ := H
 replace H : (if (t245 != t259) = true then (fuglemanlaw20_ConfigFinds.j0 k true a0_0 a0_1 a0_2 a0_3 a0_4 a0_5 l0_6 l0_7 t233 t234 t235 t236 t239 t242 t247 t248 t249 t250 t253 t256) else ((fuglemanlaw20_same.f k t233 t234 t235 t236 t239 t242 t247 t248 t249 t250 t253 t256).bind fun t261 => (if t261 = true then ((config_Addrs.f a0_0 a0_1 a0_2 a0_3 a0_4 a0_5 l0_6 l0_7).bind fun t262 => ((fuglemanref20_Addrs.f k a0_0 a0_1 a0_2 a0_3 a0_4 a0_5 l0_6 l0_7).bind fun t263 => (if t262 = t263 then ((config_Readers.f a0_0 a0_1 a0_2 a0_3 a0_4 a0_5 l0_6 l0_7 a2).bind fun t264 => ((fuglemanref20_Readers.f k a0_0 a0_1 a0_2 a0_3 a0_4 a0_5 l0_6 l0_7 a2).bind fun t265 => (fuglemanlaw20_ConfigFinds.j0 k (t264 != t265) a0_0 a0_1 a0_2 a0_3 a0_4 a0_5 l0_6 l0_7 t233 t234 t235 t236 t239 t242 t247 t248 t249 t250 t253 t256))) else (fuglemanlaw20_ConfigFinds.j0 k true a0_0 a0_1 a0_2 a0_3 a0_4 a0_5 l0_6 l0_7 t233 t234 t235 t236 t239 t242 t247 t248 t249 t250 t253 t256)))) else (fuglemanlaw20_ConfigFinds.j0 k true a0_0 a0_1 a0_2 a0_3 a0_4 a0_5 l0_6 l0_7 t233 t234 t235 t236 t239 t242 t247 t248 t249 t250 t253 t256)))) = some r := H
 have A9 := Aside0.mk A90
 clear A90
 have HC10 := Aside0.mk H
 clear H
 go_enter Try.func5, Try.ntmps5
 go_upto_region 7 with (first | ((with_reducible refine gate_dst (N := 3) rfl ?_); refine boxK (N := 3) (#[.int .i64 a0_0, .int .i64 a0_1, .int .i64 a0_2, .int .i64 a0_3, .int .i64 a0_4, .int .i64 a0_5, .slice A0_6 l0_6.length c0_6, .slice A0_7 l0_7.length c0_7]) 25 ?_; intro gb230 hg w11 hbox hb; have BK230 := Aside0.mk (hbox); have GW230 := sG hg HB; have GE230 := sG hg HB; replace HB := sB HB hb; clear hb hbox hg) | ((with_reducible refine gate_callee (f := 6) rfl ?_); refine goesK (some 14) Try.func6 #[] ?_; (with_reducible refine (fuglemanlaw20_awake.calls k  true _ A4.out).mono ?_); rintro e w12 ⟨rfl, hb⟩; refine ⟨_, rfl, ?_⟩; replace BK230 := sK BK230 hb; replace HB := sB HB hb; (try clear hb); obtain ⟨z13_0, z13_1, z13_2, z13_3, z13_4, z13_5, z13_6, z13_7, q13_0, q13_1, q13_2, q13_3, q13_4, q13_5, q13_6, q13_7⟩ := bk8 BK230) | ((with_reducible refine gate_callee (f := 7) rfl ?_); refine goesK (some 17) Try.func7 #[.agg #[.int .i64 a0_0, .int .i64 a0_1, .int .i64 a0_2, .int .i64 a0_3, .int .i64 a0_4, .int .i64 a0_5, .slice A0_6 l0_6.length c0_6, .slice A0_7 l0_7.length c0_7]] ?_; (with_reducible refine (fuglemanlaw20_Small.calls k a0_0 a0_1 a0_2 a0_3 a0_4 a0_5 _ _ l0_6 _ _ l0_7 true _ ?side1 ?side2 ?side3 ?side4 A6.out).mono ?_); (case side1 => exact sC HR0_6 HB); (case side2 => exact HC0_6.out); (case side3 => exact sC HR0_7 HB); (case side4 => exact HC0_7.out); rintro e w14 ⟨rfl, hb⟩; refine ⟨_, rfl, ?_⟩; replace BK230 := sK BK230 hb; replace HB := sB HB hb; (try clear hb); obtain ⟨z15_0, z15_1, z15_2, z15_3, z15_4, z15_5, z15_6, z15_7, q15_0, q15_1, q15_2, q15_3, q15_4, q15_5, q15_6, q15_7⟩ := bk8 BK230) | ((with_reducible refine gate_callee (f := 10) rfl ?_); refine goesK (some 22) Try.func10 #[.agg #[.int .i64 a0_0, .int .i64 a0_1, .int .i64 a0_2, .int .i64 a0_3, .int .i64 a0_4, .int .i64 a0_5, .slice A0_6 l0_6.length c0_6, .slice A0_7 l0_7.length c0_7], .int .i64 a1] ?_; (with_reducible refine (config_Find.calls a0_0 a0_1 a0_2 a0_3 a0_4 a0_5 _ _ l0_6 (fun k_ => k_ < w.heap.size) _ _ l0_7 a1 t233 t234 t235 t236 t239 t242 t245 _ ?side1 ?side2 ?side3 A8.out).mono ?_); (case side1 => exact sC HR0_6 HB); (case side2 => exact HC0_6.out); (case side3 => exact Kd.V_mk HC0_7.out (Kd.F_below (Kd.C_F k37_heap HR0_7.out) (by repeat (first | (with_reducible first | exact HB.out | apply below_alloc | apply pw_below_drewN | apply below_drew1 | refine below_set ?_ (Aside0.out (by assumption))) | exact HB.out)))); rintro e w16 ⟨v237, v240, v243, rfl, ho0, ho1, ho2, hb⟩; refine ⟨_, rfl, ?_⟩; have HO238 := Aside0.mk (Kd.V_lower (Kd.V_mono (ok' := fun k_ => k_ ≠ gb230) ho0 (fun k_ hk_ => Or.elim hk_ (fun hs_ => fun e_ => Nat.not_le.2 hs_ (by rw [e_]; exact GW230.out)) (fun hn_ => (Kd.freshB (g := gb230) (o := .cells #[.int .i64 a0_0, .int .i64 a0_1, .int .i64 a0_2, .int .i64 a0_3, .int .i64 a0_4, .int .i64 a0_5, .slice A0_6 l0_6.length c0_6, .slice A0_7 l0_7.length c0_7] 25 (0, 0)) (by (with_reducible repeat (first | refine blk_drewN ?_ _ | refine blk_drew ?_ | refine blk_alloc ?_ _)); exact BK230.out) k_ hn_)))) (below_size (by repeat (first | (with_reducible first | exact HB.out | apply below_alloc | apply pw_below_drewN | apply below_drew1 | refine below_set ?_ (Aside0.out (by assumption))) | exact HB.out)))); have HO241 := Aside0.mk (Kd.V_lower (Kd.V_mono (ok' := fun k_ => k_ ≠ gb230) ho1 (fun k_ hk_ => Or.elim hk_ (fun hs_ => fun e_ => Nat.not_le.2 hs_ (by rw [e_]; exact GW230.out)) (fun hn_ => (Kd.freshB (g := gb230) (o := .cells #[.int .i64 a0_0, .int .i64 a0_1, .int .i64 a0_2, .int .i64 a0_3, .int .i64 a0_4, .int .i64 a0_5, .slice A0_6 l0_6.length c0_6, .slice A0_7 l0_7.length c0_7] 25 (0, 0)) (by (with_reducible repeat (first | refine blk_drewN ?_ _ | refine blk_drew ?_ | refine blk_alloc ?_ _)); exact BK230.out) k_ hn_)))) (below_size (by repeat (first | (with_reducible first | exact HB.out | apply below_alloc | apply pw_below_drewN | apply below_drew1 | refine below_set ?_ (Aside0.out (by assumption))) | exact HB.out)))); have HO244 := Aside0.mk (Kd.V_lower (Kd.V_mono (ok' := fun k_ => k_ ≠ gb230) ho2 (fun k_ hk_ => Or.elim hk_ (fun hs_ => fun e_ => Nat.not_le.2 hs_ (by rw [e_]; exact GW230.out)) (fun hn_ => (Kd.freshB (g := gb230) (o := .cells #[.int .i64 a0_0, .int .i64 a0_1, .int .i64 a0_2, .int .i64 a0_3, .int .i64 a0_4, .int .i64 a0_5, .slice A0_6 l0_6.length c0_6, .slice A0_7 l0_7.length c0_7] 25 (0, 0)) (by (with_reducible repeat (first | refine blk_drewN ?_ _ | refine blk_drew ?_ | refine blk_alloc ?_ _)); exact BK230.out) k_ hn_)))) (below_size (by repeat (first | (with_reducible first | exact HB.out | apply below_alloc | apply pw_below_drewN | apply below_drew1 | refine below_set ?_ (Aside0.out (by assumption))) | exact HB.out)))); replace BK230 := sK BK230 hb; replace HB := sB HB hb; (try clear hb); (try clear ho0); (try clear ho1); (try clear ho2)) | ((with_reducible refine gate_dst (N := 7) rfl ?_); refine boxK (N := 7) (#[.int .i64 0, .int .i64 0, .int .i64 0, .slice none 0 0, .slice none 0 0, .slice none 0 0]) 37 ?_; intro gb246 hg w17 hbox hb; replace HO238 := sVe HO238 gb246 hg hb; replace HO241 := sVe HO241 gb246 hg hb; replace HO244 := sVe HO244 gb246 hg hb; have BK246 := Aside0.mk (hbox); have GW246 := sG hg HB; have GE246 := sG hg HB; replace HB := sB HB hb; have NB230_246 := sNl hg BK230; have NB246_230 := sNg hg BK230; replace BK230 := sK BK230 hb; clear hb hbox hg; have hnb18 := NB246_230.out; have hnc18 := NB230_246.out; obtain ⟨z19_0, z19_1, z19_2, z19_3, z19_4, z19_5, q19_0, q19_1, q19_2, q19_3, q19_4, q19_5⟩ := bk6 BK246; obtain ⟨Ao20, co20, eo20⟩ := Kd.V_slice HO238.out; subst eo20; obtain ⟨Ao21, co21, eo21⟩ := Kd.V_slice HO241.out; subst eo21; obtain ⟨Ao22, co22, eo22⟩ := Kd.V_slice HO244.out; subst eo22) | ((with_reducible refine gate_store (t := 37) (p := 7) rfl ?_); refine store_event (t := 37) (p := 7) (v := ?vo_w23) (w1 := ((((((w17.setCell ⟨gb246, 0, none⟩ (.int .i64 t233)).setCell ⟨gb246, 1, none⟩ (.int .i64 t234)).setCell ⟨gb246, 2, none⟩ (.int .i64 t235)).setCell ⟨gb246, 3, none⟩ (.slice Ao20 t236.length co20)).setCell ⟨gb246, 4, none⟩ (.slice Ao21 t239.length co21)).setCell ⟨gb246, 5, none⟩ (.slice Ao22 t242.length co22))) ?hg ?ho ?hn ?hr ?_; (case ho => rfl); (case hg => rfl); (case hn => rfl); (case hr => first | (go_simp; done) | (go_simp; rfl)); intro w23 hw; replace HO238 : Aside0 (Kd.V k54 54 w23 w.heap.size (fun k_ => k_ ≠ gb230 ∧ k_ ≠ gb246) (.slice Ao20 t236.length co20) t236) := ⟨(by rw [hw]; exact (by (with_reducible repeat (first | apply Kd.V_alloc | apply Kd.V_drewN | apply Kd.V_drew)); exact Kd.V_mono (Kd.V_far (p := ⟨gb246, 5, none⟩) (Kd.V_far (p := ⟨gb246, 4, none⟩) (Kd.V_far (p := ⟨gb246, 3, none⟩) (Kd.V_far (p := ⟨gb246, 2, none⟩) (Kd.V_far (p := ⟨gb246, 1, none⟩) (Kd.V_far (p := ⟨gb246, 0, none⟩) (Kd.V_mono HO238.out (fun k_ hk => (⟨hk, hk.2⟩ : _ ∧ k_ ≠ gb246))) (fun _ hk => hk.2) (.int .i64 t233)) (fun _ hk => hk.2) (.int .i64 t234)) (fun _ hk => hk.2) (.int .i64 t235)) (fun _ hk => hk.2) (.slice Ao20 t236.length co20)) (fun _ hk => hk.2) (.slice Ao21 t239.length co21)) (fun _ hk => hk.2) (.slice Ao22 t242.length co22)) (fun _ hk => ⟨hk.1.1, hk.1.2⟩)))⟩; replace HO241 : Aside0 (Kd.V k56 56 w23 w.heap.size (fun k_ => k_ ≠ gb230 ∧ k_ ≠ gb246) (.slice Ao21 t239.length co21) t239) := ⟨(by rw [hw]; exact (by (with_reducible repeat (first | apply Kd.V_alloc | apply Kd.V_drewN | apply Kd.V_drew)); exact Kd.V_mono (Kd.V_far (p := ⟨gb246, 5, none⟩) (Kd.V_far (p := ⟨gb246, 4, none⟩) (Kd.V_far (p := ⟨gb246, 3, none⟩) (Kd.V_far (p := ⟨gb246, 2, none⟩) (Kd.V_far (p := ⟨gb246, 1, none⟩) (Kd.V_far (p := ⟨gb246, 0, none⟩) (Kd.V_mono HO241.out (fun k_ hk => (⟨hk, hk.2⟩ : _ ∧ k_ ≠ gb246))) (fun _ hk => hk.2) (.int .i64 t233)) (fun _ hk => hk.2) (.int .i64 t234)) (fun _ hk => hk.2) (.int .i64 t235)) (fun _ hk => hk.2) (.slice Ao20 t236.length co20)) (fun _ hk => hk.2) (.slice Ao21 t239.length co21)) (fun _ hk => hk.2) (.slice Ao22 t242.length co22)) (fun _ hk => ⟨hk.1.1, hk.1.2⟩)))⟩; replace HO244 : Aside0 (Kd.V k56 56 w23 w.heap.size (fun k_ => k_ ≠ gb230 ∧ k_ ≠ gb246) (.slice Ao22 t242.length co22) t242) := ⟨(by rw [hw]; exact (by (with_reducible repeat (first | apply Kd.V_alloc | apply Kd.V_drewN | apply Kd.V_drew)); exact Kd.V_mono (Kd.V_far (p := ⟨gb246, 5, none⟩) (Kd.V_far (p := ⟨gb246, 4, none⟩) (Kd.V_far (p := ⟨gb246, 3, none⟩) (Kd.V_far (p := ⟨gb246, 2, none⟩) (Kd.V_far (p := ⟨gb246, 1, none⟩) (Kd.V_far (p := ⟨gb246, 0, none⟩) (Kd.V_mono HO244.out (fun k_ hk => (⟨hk, hk.2⟩ : _ ∧ k_ ≠ gb246))) (fun _ hk => hk.2) (.int .i64 t233)) (fun _ hk => hk.2) (.int .i64 t234)) (fun _ hk => hk.2) (.int .i64 t235)) (fun _ hk => hk.2) (.slice Ao20 t236.length co20)) (fun _ hk => hk.2) (.slice Ao21 t239.length co21)) (fun _ hk => hk.2) (.slice Ao22 t242.length co22)) (fun _ hk => ⟨hk.1.1, hk.1.2⟩)))⟩; replace BK230 : Aside0 (w23.heap[gb230]? = some (.cells #[.int .i64 a0_0, .int .i64 a0_1, .int .i64 a0_2, .int .i64 a0_3, .int .i64 a0_4, .int .i64 a0_5, .slice A0_6 l0_6.length c0_6, .slice A0_7 l0_7.length c0_7] 25 (0, 0))) := ⟨(by rw [hw]; exact (sKq BK230))⟩; replace BK246 : Aside0 (w23.heap[gb246]? = some (.cells #[.int .i64 t233, .int .i64 t234, .int .i64 t235, .slice Ao20 t236.length co20, .slice Ao21 t239.length co21, .slice Ao22 t242.length co22] 37 (0, 0))) := ⟨(by rw [hw]; exact (sKq BK246))⟩; replace HB : Aside0 (Below w.heap.size w w23) := ⟨(by rw [hw]; exact (by repeat (first | (with_reducible first | exact HB.out | apply below_alloc | apply pw_below_drewN | apply below_drew1 | refine below_set ?_ (Aside0.out (by assumption))) | exact HB.out)))⟩; clear hw; obtain ⟨z24_0, z24_1, z24_2, z24_3, z24_4, z24_5, z24_6, z24_7, q24_0, q24_1, q24_2, q24_3, q24_4, q24_5, q24_6, q24_7⟩ := bk8 BK230) | ((with_reducible refine gate_callee (f := 11) rfl ?_); refine goesK (some 28) Try.func11 #[.agg #[.int .i64 a0_0, .int .i64 a0_1, .int .i64 a0_2, .int .i64 a0_3, .int .i64 a0_4, .int .i64 a0_5, .slice A0_6 l0_6.length c0_6, .slice A0_7 l0_7.length c0_7], .int .i64 a1] ?_; (with_reducible refine (fuglemanref20_Find.calls k a0_0 a0_1 a0_2 a0_3 a0_4 a0_5 _ _ l0_6 (fun k_ => k_ < w.heap.size) _ _ l0_7 a1 t247 t248 t249 t250 t253 t256 t259 _ ?side1 ?side2 ?side3 A9.out).mono ?_); (case side1 => exact sC HR0_6 HB); (case side2 => exact HC0_6.out); (case side3 => exact Kd.V_mk HC0_7.out (Kd.F_below (Kd.C_F k37_heap HR0_7.out) (by repeat (first | (with_reducible first | exact HB.out | apply below_alloc | apply pw_below_drewN | apply below_drew1 | refine below_set ?_ (Aside0.out (by assumption))) | exact HB.out)))); rintro e w25 ⟨v251, v254, v257, rfl, ho0, ho1, ho2, hb⟩; refine ⟨_, rfl, ?_⟩; replace HO238 := sV HO238 hb; replace HO241 := sV HO241 hb; replace HO244 := sV HO244 hb; have HO252 := Aside0.mk (Kd.V_lower (Kd.V_mono (ok' := fun k_ => k_ ≠ gb230 ∧ k_ ≠ gb246) ho0 (fun k_ hk_ => ⟨Or.elim hk_ (fun hs_ => fun e_ => Nat.not_le.2 hs_ (by rw [e_]; exact GW230.out)) (fun hn_ => (Kd.freshB (g := gb230) (o := .cells #[.int .i64 a0_0, .int .i64 a0_1, .int .i64 a0_2, .int .i64 a0_3, .int .i64 a0_4, .int .i64 a0_5, .slice A0_6 l0_6.length c0_6, .slice A0_7 l0_7.length c0_7] 25 (0, 0)) (by (with_reducible repeat (first | refine blk_drewN ?_ _ | refine blk_drew ?_ | refine blk_alloc ?_ _)); exact BK230.out) k_ hn_)), Or.elim hk_ (fun hs_ => fun e_ => Nat.not_le.2 hs_ (by rw [e_]; exact GW246.out)) (fun hn_ => (Kd.freshB (g := gb246) (o := .cells #[.int .i64 t233, .int .i64 t234, .int .i64 t235, .slice Ao20 t236.length co20, .slice Ao21 t239.length co21, .slice Ao22 t242.length co22] 37 (0, 0)) (by (with_reducible repeat (first | refine blk_drewN ?_ _ | refine blk_drew ?_ | refine blk_alloc ?_ _)); exact BK246.out) k_ hn_))⟩)) (below_size (by repeat (first | (with_reducible first | exact HB.out | apply below_alloc | apply pw_below_drewN | apply below_drew1 | refine below_set ?_ (Aside0.out (by assumption))) | exact HB.out)))); have HO255 := Aside0.mk (Kd.V_lower (Kd.V_mono (ok' := fun k_ => k_ ≠ gb230 ∧ k_ ≠ gb246) ho1 (fun k_ hk_ => ⟨Or.elim hk_ (fun hs_ => fun e_ => Nat.not_le.2 hs_ (by rw [e_]; exact GW230.out)) (fun hn_ => (Kd.freshB (g := gb230) (o := .cells #[.int .i64 a0_0, .int .i64 a0_1, .int .i64 a0_2, .int .i64 a0_3, .int .i64 a0_4, .int .i64 a0_5, .slice A0_6 l0_6.length c0_6, .slice A0_7 l0_7.length c0_7] 25 (0, 0)) (by (with_reducible repeat (first | refine blk_drewN ?_ _ | refine blk_drew ?_ | refine blk_alloc ?_ _)); exact BK230.out) k_ hn_)), Or.elim hk_ (fun hs_ => fun e_ => Nat.not_le.2 hs_ (by rw [e_]; exact GW246.out)) (fun hn_ => (Kd.freshB (g := gb246) (o := .cells #[.int .i64 t233, .int .i64 t234, .int .i64 t235, .slice Ao20 t236.length co20, .slice Ao21 t239.length co21, .slice Ao22 t242.length co22] 37 (0, 0)) (by (with_reducible repeat (first | refine blk_drewN ?_ _ | refine blk_drew ?_ | refine blk_alloc ?_ _)); exact BK246.out) k_ hn_))⟩)) (below_size (by repeat (first | (with_reducible first | exact HB.out | apply below_alloc | apply pw_below_drewN | apply below_drew1 | refine below_set ?_ (Aside0.out (by assumption))) | exact HB.out)))); have HO258 := Aside0.mk (Kd.V_lower (Kd.V_mono (ok' := fun k_ => k_ ≠ gb230 ∧ k_ ≠ gb246) ho2 (fun k_ hk_ => ⟨Or.elim hk_ (fun hs_ => fun e_ => Nat.not_le.2 hs_ (by rw [e_]; exact GW230.out)) (fun hn_ => (Kd.freshB (g := gb230) (o := .cells #[.int .i64 a0_0, .int .i64 a0_1, .int .i64 a0_2, .int .i64 a0_3, .int .i64 a0_4, .int .i64 a0_5, .slice A0_6 l0_6.length c0_6, .slice A0_7 l0_7.length c0_7] 25 (0, 0)) (by (with_reducible repeat (first | refine blk_drewN ?_ _ | refine blk_drew ?_ | refine blk_alloc ?_ _)); exact BK230.out) k_ hn_)), Or.elim hk_ (fun hs_ => fun e_ => Nat.not_le.2 hs_ (by rw [e_]; exact GW246.out)) (fun hn_ => (Kd.freshB (g := gb246) (o := .cells #[.int .i64 t233, .int .i64 t234, .int .i64 t235, .slice Ao20 t236.length co20, .slice Ao21 t239.length co21, .slice Ao22 t242.length co22] 37 (0, 0)) (by (with_reducible repeat (first | refine blk_drewN ?_ _ | refine blk_drew ?_ | refine blk_alloc ?_ _)); exact BK246.out) k_ hn_))⟩)) (below_size (by repeat (first | (with_reducible first | exact HB.out | apply below_alloc | apply pw_below_drewN | apply below_drew1 | refine below_set ?_ (Aside0.out (by assumption))) | exact HB.out)))); replace BK230 := sK BK230 hb; replace BK246 := sK BK246 hb; replace HB := sB HB hb; (try clear hb); (try clear ho0); (try clear ho1); (try clear ho2)) | ((with_reducible refine gate_dst (N := 9) rfl ?_); refine boxK (N := 9) (#[.int .i64 0, .int .i64 0, .int .i64 0, .slice none 0 0, .slice none 0 0, .slice none 0 0]) 37 ?_; intro gb260 hg w26 hbox hb; replace HO238 := sVe HO238 gb260 hg hb; replace HO241 := sVe HO241 gb260 hg hb; replace HO244 := sVe HO244 gb260 hg hb; replace HO252 := sVe HO252 gb260 hg hb; replace HO255 := sVe HO255 gb260 hg hb; replace HO258 := sVe HO258 gb260 hg hb; have BK260 := Aside0.mk (hbox); have GW260 := sG hg HB; have GE260 := sG hg HB; replace HB := sB HB hb; have NB230_260 := sNl hg BK230; have NB260_230 := sNg hg BK230; replace BK230 := sK BK230 hb; have NB246_260 := sNl hg BK246; have NB260_246 := sNg hg BK246; replace BK246 := sK BK246 hb; clear hb hbox hg; have hnb27 := NB260_230.out; have hnc27 := NB230_260.out; have hnb28 := NB260_246.out; have hnc28 := NB246_260.out; obtain ⟨z29_0, z29_1, z29_2, z29_3, z29_4, z29_5, q29_0, q29_1, q29_2, q29_3, q29_4, q29_5⟩ := bk6 BK260; obtain ⟨Ao30, co30, eo30⟩ := Kd.V_slice HO252.out; subst eo30; obtain ⟨Ao31, co31, eo31⟩ := Kd.V_slice HO255.out; subst eo31; obtain ⟨Ao32, co32, eo32⟩ := Kd.V_slice HO258.out; subst eo32))
 (try simp only [Act.put, List.setIfInBounds_toArray, List.set_cons_zero, List.set_cons_succ])
 go_cut [55] (fun v55 wc => ∃ (kq : Nat) (x55_9 : Bool), v55 = .bool x55_9 ∧ Aside0 (fuglemanlaw20_ConfigFinds.j0 kq x55_9 a0_0 a0_1 a0_2 a0_3 a0_4 a0_5 l0_6 l0_7 t233 t234 t235 t236 t239 t242 t247 t248 t249 t250 t253 t256 = some r) ∧ Aside0 (kq ≤ k) ∧ Aside0 (Kd.V k54 54 wc w.heap.size (fun k_ => k_ ≠ gb230 ∧ k_ ≠ gb246 ∧ k_ ≠ gb260) (.slice Ao20 t236.length co20) t236) ∧ Aside0 (Kd.V k56 56 wc w.heap.size (fun k_ => k_ ≠ gb230 ∧ k_ ≠ gb246 ∧ k_ ≠ gb260) (.slice Ao21 t239.length co21) t239) ∧ Aside0 (Kd.V k56 56 wc w.heap.size (fun k_ => k_ ≠ gb230 ∧ k_ ≠ gb246 ∧ k_ ≠ gb260) (.slice Ao22 t242.length co22) t242) ∧ Aside0 (Kd.V k54 54 wc w.heap.size (fun k_ => k_ ≠ gb230 ∧ k_ ≠ gb246 ∧ k_ ≠ gb260) (.slice Ao30 t250.length co30) t250) ∧ Aside0 (Kd.V k56 56 wc w.heap.size (fun k_ => k_ ≠ gb230 ∧ k_ ≠ gb246 ∧ k_ ≠ gb260) (.slice Ao31 t253.length co31) t253) ∧ Aside0 (Kd.V k56 56 wc w.heap.size (fun k_ => k_ ≠ gb230 ∧ k_ ≠ gb246 ∧ k_ ≠ gb260) (.slice Ao32 t256.length co32) t256) ∧ Aside0 (wc.heap[gb230]? = some (.cells #[.int .i64 a0_0, .int .i64 a0_1, .int .i64 a0_2, .int .i64 a0_3, .int .i64 a0_4, .int .i64 a0_5, (.slice A0_6 l0_6.length c0_6), (.slice A0_7 l0_7.length c0_7)] 25 (0, 0))) ∧ Aside0 (wc.heap[gb246]? = some (.cells #[.int .i64 t233, .int .i64 t234, .int .i64 t235, (.slice Ao20 t236.length co20), (.slice Ao21 t239.length co21), (.slice Ao22 t242.length co22)] 37 (0, 0))) ∧ Aside0 (wc.heap[gb260]? = some (.cells #[.int .i64 t247, .int .i64 t248, .int .i64 t249, (.slice Ao30 t250.length co30), (.slice Ao31 t253.length co31), (.slice Ao32 t256.length co32)] 37 (0, 0))) ∧ Aside0 (Below w.heap.size w wc))
 case first =>
  have H := HC10.out
  clear HC10
  by_cases c33 : (t245 != t259) = true
  ·rw [if_pos c33] at H
   have c33b0 : (t245 != t259) = true := c33
   (try (have c33b1 : decide (t245 = t259) = false := by simpa using c33))
   (try (have c33b2 : (t245 == t259) = false := by simpa using c33))
   (try (have c33b3 : ¬ (t245 = t259) := by simpa using c33))
   clear c33
   (first | rw [c33b0] | (simp only [i64_w, i32_w]; rw [c33b0]) | skip)
   have H' := Aside0.mk H
   clear H
   try go_wp2
   have n0_ : Aside0 (Kd.V k54 54 ((((((w26.setCell ⟨gb260, 0, none⟩ (.int .i64 t247)).setCell ⟨gb260, 1, none⟩ (.int .i64 t248)).setCell ⟨gb260, 2, none⟩ (.int .i64 t249)).setCell ⟨gb260, 3, none⟩ (.slice Ao30 t250.length co30)).setCell ⟨gb260, 4, none⟩ (.slice Ao31 t253.length co31)).setCell ⟨gb260, 5, none⟩ (.slice Ao32 t256.length co32)) w.heap.size (fun k_ => k_ ≠ gb230 ∧ k_ ≠ gb246 ∧ k_ ≠ gb260) (.slice Ao20 t236.length co20) t236) := ⟨by (with_reducible repeat (first | apply Kd.V_alloc | apply Kd.V_drewN | apply Kd.V_drew)); exact Kd.V_mono (Kd.V_far (p := ⟨gb260, 5, none⟩) (Kd.V_far (p := ⟨gb260, 4, none⟩) (Kd.V_far (p := ⟨gb260, 3, none⟩) (Kd.V_far (p := ⟨gb260, 2, none⟩) (Kd.V_far (p := ⟨gb260, 1, none⟩) (Kd.V_far (p := ⟨gb260, 0, none⟩) (Kd.V_mono HO238.out (fun k_ hk => (⟨hk, hk.2⟩ : _ ∧ k_ ≠ gb260))) (fun _ hk => hk.2) (.int .i64 t247)) (fun _ hk => hk.2) (.int .i64 t248)) (fun _ hk => hk.2) (.int .i64 t249)) (fun _ hk => hk.2) (.slice Ao30 t250.length co30)) (fun _ hk => hk.2) (.slice Ao31 t253.length co31)) (fun _ hk => hk.2) (.slice Ao32 t256.length co32)) (fun _ hk => ⟨hk.1.1.1, ⟨hk.1.1.2, hk.1.2⟩⟩)⟩
   have n1_ : Aside0 (Kd.V k56 56 ((((((w26.setCell ⟨gb260, 0, none⟩ (.int .i64 t247)).setCell ⟨gb260, 1, none⟩ (.int .i64 t248)).setCell ⟨gb260, 2, none⟩ (.int .i64 t249)).setCell ⟨gb260, 3, none⟩ (.slice Ao30 t250.length co30)).setCell ⟨gb260, 4, none⟩ (.slice Ao31 t253.length co31)).setCell ⟨gb260, 5, none⟩ (.slice Ao32 t256.length co32)) w.heap.size (fun k_ => k_ ≠ gb230 ∧ k_ ≠ gb246 ∧ k_ ≠ gb260) (.slice Ao21 t239.length co21) t239) := ⟨by (with_reducible repeat (first | apply Kd.V_alloc | apply Kd.V_drewN | apply Kd.V_drew)); exact Kd.V_mono (Kd.V_far (p := ⟨gb260, 5, none⟩) (Kd.V_far (p := ⟨gb260, 4, none⟩) (Kd.V_far (p := ⟨gb260, 3, none⟩) (Kd.V_far (p := ⟨gb260, 2, none⟩) (Kd.V_far (p := ⟨gb260, 1, none⟩) (Kd.V_far (p := ⟨gb260, 0, none⟩) (Kd.V_mono HO241.out (fun k_ hk => (⟨hk, hk.2⟩ : _ ∧ k_ ≠ gb260))) (fun _ hk => hk.2) (.int .i64 t247)) (fun _ hk => hk.2) (.int .i64 t248)) (fun _ hk => hk.2) (.int .i64 t249)) (fun _ hk => hk.2) (.slice Ao30 t250.length co30)) (fun _ hk => hk.2) (.slice Ao31 t253.length co31)) (fun _ hk => hk.2) (.slice Ao32 t256.length co32)) (fun _ hk => ⟨hk.1.1.1, ⟨hk.1.1.2, hk.1.2⟩⟩)⟩
   have n2_ : Aside0 (Kd.V k56 56 ((((((w26.setCell ⟨gb260, 0, none⟩ (.int .i64 t247)).setCell ⟨gb260, 1, none⟩ (.int .i64 t248)).setCell ⟨gb260, 2, none⟩ (.int .i64 t249)).setCell ⟨gb260, 3, none⟩ (.slice Ao30 t250.length co30)).setCell ⟨gb260, 4, none⟩ (.slice Ao31 t253.length co31)).setCell ⟨gb260, 5, none⟩ (.slice Ao32 t256.length co32)) w.heap.size (fun k_ => k_ ≠ gb230 ∧ k_ ≠ gb246 ∧ k_ ≠ gb260) (.slice Ao22 t242.length co22) t242) := ⟨by (with_reducible repeat (first | apply Kd.V_alloc | apply Kd.V_drewN | apply Kd.V_drew)); exact Kd.V_mono (Kd.V_far (p := ⟨gb260, 5, none⟩) (Kd.V_far (p := ⟨gb260, 4, none⟩) (Kd.V_far (p := ⟨gb260, 3, none⟩) (Kd.V_far (p := ⟨gb260, 2, none⟩) (Kd.V_far (p := ⟨gb260, 1, none⟩) (Kd.V_far (p := ⟨gb260, 0, none⟩) (Kd.V_mono HO244.out (fun k_ hk => (⟨hk, hk.2⟩ : _ ∧ k_ ≠ gb260))) (fun _ hk => hk.2) (.int .i64 t247)) (fun _ hk => hk.2) (.int .i64 t248)) (fun _ hk => hk.2) (.int .i64 t249)) (fun _ hk => hk.2) (.slice Ao30 t250.length co30)) (fun _ hk => hk.2) (.slice Ao31 t253.length co31)) (fun _ hk => hk.2) (.slice Ao32 t256.length co32)) (fun _ hk => ⟨hk.1.1.1, ⟨hk.1.1.2, hk.1.2⟩⟩)⟩
   have n3_ : Aside0 (Kd.V k54 54 ((((((w26.setCell ⟨gb260, 0, none⟩ (.int .i64 t247)).setCell ⟨gb260, 1, none⟩ (.int .i64 t248)).setCell ⟨gb260, 2, none⟩ (.int .i64 t249)).setCell ⟨gb260, 3, none⟩ (.slice Ao30 t250.length co30)).setCell ⟨gb260, 4, none⟩ (.slice Ao31 t253.length co31)).setCell ⟨gb260, 5, none⟩ (.slice Ao32 t256.length co32)) w.heap.size (fun k_ => k_ ≠ gb230 ∧ k_ ≠ gb246 ∧ k_ ≠ gb260) (.slice Ao30 t250.length co30) t250) := ⟨by (with_reducible repeat (first | apply Kd.V_alloc | apply Kd.V_drewN | apply Kd.V_drew)); exact Kd.V_mono (Kd.V_far (p := ⟨gb260, 5, none⟩) (Kd.V_far (p := ⟨gb260, 4, none⟩) (Kd.V_far (p := ⟨gb260, 3, none⟩) (Kd.V_far (p := ⟨gb260, 2, none⟩) (Kd.V_far (p := ⟨gb260, 1, none⟩) (Kd.V_far (p := ⟨gb260, 0, none⟩) (Kd.V_mono HO252.out (fun k_ hk => (⟨hk, hk.2⟩ : _ ∧ k_ ≠ gb260))) (fun _ hk => hk.2) (.int .i64 t247)) (fun _ hk => hk.2) (.int .i64 t248)) (fun _ hk => hk.2) (.int .i64 t249)) (fun _ hk => hk.2) (.slice Ao30 t250.length co30)) (fun _ hk => hk.2) (.slice Ao31 t253.length co31)) (fun _ hk => hk.2) (.slice Ao32 t256.length co32)) (fun _ hk => ⟨hk.1.1.1, ⟨hk.1.1.2, hk.1.2⟩⟩)⟩
   have n4_ : Aside0 (Kd.V k56 56 ((((((w26.setCell ⟨gb260, 0, none⟩ (.int .i64 t247)).setCell ⟨gb260, 1, none⟩ (.int .i64 t248)).setCell ⟨gb260, 2, none⟩ (.int .i64 t249)).setCell ⟨gb260, 3, none⟩ (.slice Ao30 t250.length co30)).setCell ⟨gb260, 4, none⟩ (.slice Ao31 t253.length co31)).setCell ⟨gb260, 5, none⟩ (.slice Ao32 t256.length co32)) w.heap.size (fun k_ => k_ ≠ gb230 ∧ k_ ≠ gb246 ∧ k_ ≠ gb260) (.slice Ao31 t253.length co31) t253) := ⟨by (with_reducible repeat (first | apply Kd.V_alloc | apply Kd.V_drewN | apply Kd.V_drew)); exact Kd.V_mono (Kd.V_far (p := ⟨gb260, 5, none⟩) (Kd.V_far (p := ⟨gb260, 4, none⟩) (Kd.V_far (p := ⟨gb260, 3, none⟩) (Kd.V_far (p := ⟨gb260, 2, none⟩) (Kd.V_far (p := ⟨gb260, 1, none⟩) (Kd.V_far (p := ⟨gb260, 0, none⟩) (Kd.V_mono HO255.out (fun k_ hk => (⟨hk, hk.2⟩ : _ ∧ k_ ≠ gb260))) (fun _ hk => hk.2) (.int .i64 t247)) (fun _ hk => hk.2) (.int .i64 t248)) (fun _ hk => hk.2) (.int .i64 t249)) (fun _ hk => hk.2) (.slice Ao30 t250.length co30)) (fun _ hk => hk.2) (.slice Ao31 t253.length co31)) (fun _ hk => hk.2) (.slice Ao32 t256.length co32)) (fun _ hk => ⟨hk.1.1.1, ⟨hk.1.1.2, hk.1.2⟩⟩)⟩
   have n5_ : Aside0 (Kd.V k56 56 ((((((w26.setCell ⟨gb260, 0, none⟩ (.int .i64 t247)).setCell ⟨gb260, 1, none⟩ (.int .i64 t248)).setCell ⟨gb260, 2, none⟩ (.int .i64 t249)).setCell ⟨gb260, 3, none⟩ (.slice Ao30 t250.length co30)).setCell ⟨gb260, 4, none⟩ (.slice Ao31 t253.length co31)).setCell ⟨gb260, 5, none⟩ (.slice Ao32 t256.length co32)) w.heap.size (fun k_ => k_ ≠ gb230 ∧ k_ ≠ gb246 ∧ k_ ≠ gb260) (.slice Ao32 t256.length co32) t256) := ⟨by (with_reducible repeat (first | apply Kd.V_alloc | apply Kd.V_drewN | apply Kd.V_drew)); exact Kd.V_mono (Kd.V_far (p := ⟨gb260, 5, none⟩) (Kd.V_far (p := ⟨gb260, 4, none⟩) (Kd.V_far (p := ⟨gb260, 3, none⟩) (Kd.V_far (p := ⟨gb260, 2, none⟩) (Kd.V_far (p := ⟨gb260, 1, none⟩) (Kd.V_far (p := ⟨gb260, 0, none⟩) (Kd.V_mono HO258.out (fun k_ hk => (⟨hk, hk.2⟩ : _ ∧ k_ ≠ gb260))) (fun _ hk => hk.2) (.int .i64 t247)) (fun _ hk => hk.2) (.int .i64 t248)) (fun _ hk => hk.2) (.int .i64 t249)) (fun _ hk => hk.2) (.slice Ao30 t250.length co30)) (fun _ hk => hk.2) (.slice Ao31 t253.length co31)) (fun _ hk => hk.2) (.slice Ao32 t256.length co32)) (fun _ hk => ⟨hk.1.1.1, ⟨hk.1.1.2, hk.1.2⟩⟩)⟩
   have n6_ : Aside0 (((((((w26.setCell ⟨gb260, 0, none⟩ (.int .i64 t247)).setCell ⟨gb260, 1, none⟩ (.int .i64 t248)).setCell ⟨gb260, 2, none⟩ (.int .i64 t249)).setCell ⟨gb260, 3, none⟩ (.slice Ao30 t250.length co30)).setCell ⟨gb260, 4, none⟩ (.slice Ao31 t253.length co31)).setCell ⟨gb260, 5, none⟩ (.slice Ao32 t256.length co32)).heap[gb230]? = some (.cells #[.int .i64 a0_0, .int .i64 a0_1, .int .i64 a0_2, .int .i64 a0_3, .int .i64 a0_4, .int .i64 a0_5, .slice A0_6 l0_6.length c0_6, .slice A0_7 l0_7.length c0_7] 25 (0, 0))) := (sKq0 BK230)
   have n7_ : Aside0 (((((((w26.setCell ⟨gb260, 0, none⟩ (.int .i64 t247)).setCell ⟨gb260, 1, none⟩ (.int .i64 t248)).setCell ⟨gb260, 2, none⟩ (.int .i64 t249)).setCell ⟨gb260, 3, none⟩ (.slice Ao30 t250.length co30)).setCell ⟨gb260, 4, none⟩ (.slice Ao31 t253.length co31)).setCell ⟨gb260, 5, none⟩ (.slice Ao32 t256.length co32)).heap[gb246]? = some (.cells #[.int .i64 t233, .int .i64 t234, .int .i64 t235, .slice Ao20 t236.length co20, .slice Ao21 t239.length co21, .slice Ao22 t242.length co22] 37 (0, 0))) := (sKq0 BK246)
   have n8_ : Aside0 (((((((w26.setCell ⟨gb260, 0, none⟩ (.int .i64 t247)).setCell ⟨gb260, 1, none⟩ (.int .i64 t248)).setCell ⟨gb260, 2, none⟩ (.int .i64 t249)).setCell ⟨gb260, 3, none⟩ (.slice Ao30 t250.length co30)).setCell ⟨gb260, 4, none⟩ (.slice Ao31 t253.length co31)).setCell ⟨gb260, 5, none⟩ (.slice Ao32 t256.length co32)).heap[gb260]? = some (.cells #[.int .i64 t247, .int .i64 t248, .int .i64 t249, .slice Ao30 t250.length co30, .slice Ao31 t253.length co31, .slice Ao32 t256.length co32] 37 (0, 0))) := (sKq0 BK260)
   have n9_ : Aside0 (Below w.heap.size w ((((((w26.setCell ⟨gb260, 0, none⟩ (.int .i64 t247)).setCell ⟨gb260, 1, none⟩ (.int .i64 t248)).setCell ⟨gb260, 2, none⟩ (.int .i64 t249)).setCell ⟨gb260, 3, none⟩ (.slice Ao30 t250.length co30)).setCell ⟨gb260, 4, none⟩ (.slice Ao31 t253.length co31)).setCell ⟨gb260, 5, none⟩ (.slice Ao32 t256.length co32))) := (sB0 HB)
   (try clear HO238)
   (try clear HO241)
   (try clear HO244)
   (try clear HO252)
   (try clear HO255)
   (try clear HO258)
   (try clear BK230)
   (try clear BK246)
   (try clear BK260)
   (try clear HB)
   generalize ((((((w26.setCell ⟨gb260, 0, none⟩ (.int .i64 t247)).setCell ⟨gb260, 1, none⟩ (.int .i64 t248)).setCell ⟨gb260, 2, none⟩ (.int .i64 t249)).setCell ⟨gb260, 3, none⟩ (.slice Ao30 t250.length co30)).setCell ⟨gb260, 4, none⟩ (.slice Ao31 t253.length co31)).setCell ⟨gb260, 5, none⟩ (.slice Ao32 t256.length co32)) = w34 at n0_ n1_ n2_ n3_ n4_ n5_ n6_ n7_ n8_ n9_ ⊢
   have HO238 := n0_
   have HO241 := n1_
   have HO244 := n2_
   have HO252 := n3_
   have HO255 := n4_
   have HO258 := n5_
   have BK230 := n6_
   have BK246 := n7_
   have BK260 := n8_
   have HB := n9_
   clear n0_ n1_ n2_ n3_ n4_ n5_ n6_ n7_ n8_ n9_
   replace HO238 := Aside0.mk (Kd.V_drew HO238.out)
   replace HO241 := Aside0.mk (Kd.V_drew HO241.out)
   replace HO244 := Aside0.mk (Kd.V_drew HO244.out)
   replace HO252 := Aside0.mk (Kd.V_drew HO252.out)
   replace HO255 := Aside0.mk (Kd.V_drew HO255.out)
   replace HO258 := Aside0.mk (Kd.V_drew HO258.out)
   replace BK230 := Aside0.mk (blk_drew BK230.out)
   replace BK246 := Aside0.mk (blk_drew BK246.out)
   replace BK260 := Aside0.mk (blk_drew BK260.out)
   replace HB := Aside0.mk (below_drew1 HB.out)
   refine start_ (n := 25) (S := fun w' => True) (ds := []) #[false, false, false, false, false, false, false, false, false, false, false, false, false, false, false, false, false, false, false, false, false, false, false, false, false] (by kernel_rfl) rfl rfl trivial (fun hHeld => ?_); refine with_tabW fuglemanlaw20_ConfigFinds.tab7 fuglemanlaw20_ConfigFinds.bits7 (fun HT_ HW_ => ?_)
   generalize w34.drew = w35 at HO238 HO241 HO244 HO252 HO255 HO258 BK230 BK246 BK260 HB hHeld ⊢
   refine pureK 0 (some 31) #[true, false, false, false, false, false, false, false, false, false, false, false, false, false, false, false, false, false, false, false, false, false, false, false, false] HT_ ?_
   refine pureK 1 (some 32) #[true, true, false, false, false, false, false, false, false, false, false, false, false, false, false, false, false, false, false, false, false, false, false, false, false] HT_ ?_
   refine pureK 2 (some 33) #[true, true, true, false, false, false, false, false, false, false, false, false, false, false, false, false, false, false, false, false, false, false, false, false, false] HT_ ?_
   refine pureK 3 (some 34) #[true, true, true, true, false, false, false, false, false, false, false, false, false, false, false, false, false, false, false, false, false, false, false, false, false] HT_ ?_
   refine pure_ (i := 4) (N := some 35) (v := undef) (a' := ?_) #[true, true, true, true, true, false, false, false, false, false, false, false, false, false, false, false, false, false, false, false, false, false, false, false, false] rfl rfl (any_of HT_.out (by kernel_rfl)) (fun _ _ _ h => h) (Or.inr ⟨by rfl, rfl⟩) ?_ ?_
   rotate_left
   ·simp only [Act.put, List.setIfInBounds_toArray, List.set_cons_zero, List.set_cons_succ, i64_w, i32_w]
    rfl
   refine pure_ (i := 5) (N := some 36) (v := undef) (a' := ?_) #[true, true, true, true, true, true, false, false, false, false, false, false, false, false, false, false, false, false, false, false, false, false, false, false, false] rfl rfl (any_of HT_.out (by kernel_rfl)) (fun _ _ _ h => h) (Or.inr ⟨by rfl, rfl⟩) ?_ ?_
   rotate_left
   ·simp only [Act.put, List.setIfInBounds_toArray, List.set_cons_zero, List.set_cons_succ, i64_w, i32_w]
    rfl
   refine pure_ (i := 6) (N := some 37) (v := undef) (a' := ?_) #[true, true, true, true, true, true, true, false, false, false, false, false, false, false, false, false, false, false, false, false, false, false, false, false, false] rfl rfl (any_of HT_.out (by kernel_rfl)) (fun _ _ _ h => h) (Or.inr ⟨by rfl, rfl⟩) ?_ ?_
   rotate_left
   ·simp only [Act.put, List.setIfInBounds_toArray, List.set_cons_zero, List.set_cons_succ, i64_w, i32_w]
    rfl
   refine pure_ (i := 7) (N := some 38) (v := undef) (a' := ?_) #[true, true, true, true, true, true, true, true, false, false, false, false, false, false, false, false, false, false, false, false, false, false, false, false, false] rfl rfl (any_of HT_.out (by kernel_rfl)) (fun _ _ _ h => h) (Or.inr ⟨by rfl, rfl⟩) ?_ ?_
   rotate_left
   ·simp only [Act.put, List.setIfInBounds_toArray, List.set_cons_zero, List.set_cons_succ, i64_w, i32_w]
    rfl
   refine pureK 8 (some 39) #[true, true, true, true, true, true, true, true, true, false, false, false, false, false, false, false, false, false, false, false, false, false, false, false, false] HT_ ?_
   refine pureK 9 (some 40) #[true, true, true, true, true, true, true, true, true, true, false, false, false, false, false, false, false, false, false, false, false, false, false, false, false] HT_ ?_
   refine pure_ (i := 10) (N := some 41) (v := undef) (a' := ?_) #[true, true, true, true, true, true, true, true, true, true, true, false, false, false, false, false, false, false, false, false, false, false, false, false, false] rfl rfl (any_of HT_.out (by kernel_rfl)) (fun _ _ _ h => h) (Or.inr ⟨by rfl, rfl⟩) ?_ ?_
   rotate_left
   ·simp only [Act.put, List.setIfInBounds_toArray, List.set_cons_zero, List.set_cons_succ, i64_w, i32_w]
    rfl
   refine pure_ (i := 11) (N := some 42) (v := undef) (a' := ?_) #[true, true, true, true, true, true, true, true, true, true, true, true, false, false, false, false, false, false, false, false, false, false, false, false, false] rfl rfl (any_of HT_.out (by kernel_rfl)) (fun _ _ _ h => h) (Or.inr ⟨by rfl, rfl⟩) ?_ ?_
   rotate_left
   ·simp only [Act.put, List.setIfInBounds_toArray, List.set_cons_zero, List.set_cons_succ, i64_w, i32_w]
    rfl
   refine pure_ (i := 12) (N := some 43) (v := undef) (a' := ?_) #[true, true, true, true, true, true, true, true, true, true, true, true, true, false, false, false, false, false, false, false, false, false, false, false, false] rfl rfl (any_of HT_.out (by kernel_rfl)) (fun _ _ _ h => h) (Or.inr ⟨by rfl, rfl⟩) ?_ ?_
   rotate_left
   ·simp only [Act.put, List.setIfInBounds_toArray, List.set_cons_zero, List.set_cons_succ, i64_w, i32_w]
    rfl
   refine pure_ (i := 13) (N := some 44) (v := undef) (a' := ?_) #[true, true, true, true, true, true, true, true, true, true, true, true, true, true, false, false, false, false, false, false, false, false, false, false, false] rfl rfl (any_of HT_.out (by kernel_rfl)) (fun _ _ _ h => h) (Or.inr ⟨by rfl, rfl⟩) ?_ ?_
   rotate_left
   ·simp only [Act.put, List.setIfInBounds_toArray, List.set_cons_zero, List.set_cons_succ, i64_w, i32_w]
    rfl
   refine pure_ (i := 14) (N := some 45) (v := undef) (a' := ?_) #[true, true, true, true, true, true, true, true, true, true, true, true, true, true, true, false, false, false, false, false, false, false, false, false, false] rfl rfl (any_of HT_.out (by kernel_rfl)) (fun _ _ _ h => h) (Or.inr ⟨by rfl, rfl⟩) ?_ ?_
   rotate_left
   ·simp only [Act.put, List.setIfInBounds_toArray, List.set_cons_zero, List.set_cons_succ, i64_w, i32_w]
    rfl
   refine pureK 15 (some 46) #[true, true, true, true, true, true, true, true, true, true, true, true, true, true, true, true, false, false, false, false, false, false, false, false, false] HT_ ?_
   refine pureK 16 (some 47) #[true, true, true, true, true, true, true, true, true, true, true, true, true, true, true, true, true, false, false, false, false, false, false, false, false] HT_ ?_
   refine pure_ (i := 17) (N := some 48) (v := undef) (a' := ?_) #[true, true, true, true, true, true, true, true, true, true, true, true, true, true, true, true, true, true, false, false, false, false, false, false, false] rfl rfl (any_of HT_.out (by kernel_rfl)) (fun _ _ _ h => h) (Or.inr ⟨by rfl, rfl⟩) ?_ ?_
   rotate_left
   ·simp only [Act.put, List.setIfInBounds_toArray, List.set_cons_zero, List.set_cons_succ, i64_w, i32_w]
    rfl
   refine pure_ (i := 18) (N := some 49) (v := undef) (a' := ?_) #[true, true, true, true, true, true, true, true, true, true, true, true, true, true, true, true, true, true, true, false, false, false, false, false, false] rfl rfl (any_of HT_.out (by kernel_rfl)) (fun _ _ _ h => h) (Or.inr ⟨by rfl, rfl⟩) ?_ ?_
   rotate_left
   ·simp only [Act.put, List.setIfInBounds_toArray, List.set_cons_zero, List.set_cons_succ, i64_w, i32_w]
    rfl
   refine pure_ (i := 19) (N := some 50) (v := undef) (a' := ?_) #[true, true, true, true, true, true, true, true, true, true, true, true, true, true, true, true, true, true, true, true, false, false, false, false, false] rfl rfl (any_of HT_.out (by kernel_rfl)) (fun _ _ _ h => h) (Or.inr ⟨by rfl, rfl⟩) ?_ ?_
   rotate_left
   ·simp only [Act.put, List.setIfInBounds_toArray, List.set_cons_zero, List.set_cons_succ, i64_w, i32_w]
    rfl
   refine pure_ (i := 20) (N := some 51) (v := undef) (a' := ?_) #[true, true, true, true, true, true, true, true, true, true, true, true, true, true, true, true, true, true, true, true, true, false, false, false, false] rfl rfl (any_of HT_.out (by kernel_rfl)) (fun _ _ _ h => h) (Or.inr ⟨by rfl, rfl⟩) ?_ ?_
   rotate_left
   ·simp only [Act.put, List.setIfInBounds_toArray, List.set_cons_zero, List.set_cons_succ, i64_w, i32_w]
    rfl
   refine pure_ (i := 21) (N := some 52) (v := undef) (a' := ?_) #[true, true, true, true, true, true, true, true, true, true, true, true, true, true, true, true, true, true, true, true, true, true, false, false, false] rfl rfl (any_of HT_.out (by kernel_rfl)) (fun _ _ _ h => h) (Or.inr ⟨by rfl, rfl⟩) ?_ ?_
   rotate_left
   ·simp only [Act.put, List.setIfInBounds_toArray, List.set_cons_zero, List.set_cons_succ, i64_w, i32_w]
    rfl
   refine pure_ (i := 22) (N := some 53) (v := undef) (a' := ?_) #[true, true, true, true, true, true, true, true, true, true, true, true, true, true, true, true, true, true, true, true, true, true, true, false, false] rfl rfl (any_of HT_.out (by kernel_rfl)) (fun _ _ _ h => h) (Or.inr ⟨by rfl, rfl⟩) ?_ ?_
   rotate_left
   ·simp only [Act.put, List.setIfInBounds_toArray, List.set_cons_zero, List.set_cons_succ, i64_w, i32_w]
    rfl
   refine pure_ (i := 23) (N := some 54) (v := undef) (a' := ?_) #[true, true, true, true, true, true, true, true, true, true, true, true, true, true, true, true, true, true, true, true, true, true, true, true, false] rfl rfl (any_of HT_.out (by kernel_rfl)) (fun _ _ _ h => h) (Or.inr ⟨by rfl, rfl⟩) ?_ ?_
   rotate_left
   ·simp only [Act.put, List.setIfInBounds_toArray, List.set_cons_zero, List.set_cons_succ, i64_w, i32_w]
    rfl
   refine pureK 24 (some 55) #[true, true, true, true, true, true, true, true, true, true, true, true, true, true, true, true, true, true, true, true, true, true, true, true, true] HT_ ?_
   refine done_ (done_of HT_.out (by kernel_rfl)) ?_
   try go_wp2
   go_meet
   case rel => exact ⟨_, (true), (by first | rfl | (simp; done) | (simp [*]; done)), H', ⟨by first | omega | exact Nat.le_refl _⟩, (sV0 HO238), (sV0 HO241), (sV0 HO244), (sV0 HO252), (sV0 HO255), (sV0 HO258), (sK0 BK230), (sK0 BK246), (sK0 BK260), (sB0 HB)⟩
  rw [if_neg c33] at H
  have c33b0 : (t245 != t259) = false := by simpa using c33
  (try (have c33b1 : decide (t245 = t259) = true := by simpa using c33))
  (try (have c33b2 : (t245 == t259) = true := by simpa using c33))
  clear c33
  (first | rw [c33b0] | (simp only [i64_w, i32_w]; rw [c33b0]) | skip)
  replace H := Option.bind_eq_some_iff.mp H
  obtain ⟨t261, A360, H⟩ := H
  replace H : (if t261 = true then ((config_Addrs.f a0_0 a0_1 a0_2 a0_3 a0_4 a0_5 l0_6 l0_7).bind fun t262 => ((fuglemanref20_Addrs.f k a0_0 a0_1 a0_2 a0_3 a0_4 a0_5 l0_6 l0_7).bind fun t263 => (if t262 = t263 then ((config_Readers.f a0_0 a0_1 a0_2 a0_3 a0_4 a0_5 l0_6 l0_7 a2).bind fun t264 => ((fuglemanref20_Readers.f k a0_0 a0_1 a0_2 a0_3 a0_4 a0_5 l0_6 l0_7 a2).bind fun t265 => (fuglemanlaw20_ConfigFinds.j0 k (t264 != t265) a0_0 a0_1 a0_2 a0_3 a0_4 a0_5 l0_6 l0_7 t233 t234 t235 t236 t239 t242 t247 t248 t249 t250 t253 t256))) else (fuglemanlaw20_ConfigFinds.j0 k true a0_0 a0_1 a0_2 a0_3 a0_4 a0_5 l0_6 l0_7 t233 t234 t235 t236 t239 t242 t247 t248 t249 t250 t253 t256)))) else (fuglemanlaw20_ConfigFinds.j0 k true a0_0 a0_1 a0_2 a0_3 a0_4 a0_5 l0_6 l0_7 t233 t234 t235 t236 t239 t242 t247 t248 t249 t250 t253 t256)) = some r := H
  have A36 := Aside0.mk A360
  clear A360
  by_cases c37 : t261 = true
  case neg =>
   replace c37 := Bool.eq_false_iff.mpr c37
   subst c37
   have H1 : (fuglemanlaw20_ConfigFinds.j0 k true a0_0 a0_1 a0_2 a0_3 a0_4 a0_5 l0_6 l0_7 t233 t234 t235 t236 t239 t242 t247 t248 t249 t250 t253 t256) = some r := by rw [if_neg (show ¬ (false = true) by decide)] at H; exact H
   clear H
   have H := H1
   clear H1
   have H' := Aside0.mk H
   clear H
   try go_wp2
   have n0_ : Aside0 (Kd.V k54 54 ((((((w26.setCell ⟨gb260, 0, none⟩ (.int .i64 t247)).setCell ⟨gb260, 1, none⟩ (.int .i64 t248)).setCell ⟨gb260, 2, none⟩ (.int .i64 t249)).setCell ⟨gb260, 3, none⟩ (.slice Ao30 t250.length co30)).setCell ⟨gb260, 4, none⟩ (.slice Ao31 t253.length co31)).setCell ⟨gb260, 5, none⟩ (.slice Ao32 t256.length co32)) w.heap.size (fun k_ => k_ ≠ gb230 ∧ k_ ≠ gb246 ∧ k_ ≠ gb260) (.slice Ao20 t236.length co20) t236) := ⟨by (with_reducible repeat (first | apply Kd.V_alloc | apply Kd.V_drewN | apply Kd.V_drew)); exact Kd.V_mono (Kd.V_far (p := ⟨gb260, 5, none⟩) (Kd.V_far (p := ⟨gb260, 4, none⟩) (Kd.V_far (p := ⟨gb260, 3, none⟩) (Kd.V_far (p := ⟨gb260, 2, none⟩) (Kd.V_far (p := ⟨gb260, 1, none⟩) (Kd.V_far (p := ⟨gb260, 0, none⟩) (Kd.V_mono HO238.out (fun k_ hk => (⟨hk, hk.2⟩ : _ ∧ k_ ≠ gb260))) (fun _ hk => hk.2) (.int .i64 t247)) (fun _ hk => hk.2) (.int .i64 t248)) (fun _ hk => hk.2) (.int .i64 t249)) (fun _ hk => hk.2) (.slice Ao30 t250.length co30)) (fun _ hk => hk.2) (.slice Ao31 t253.length co31)) (fun _ hk => hk.2) (.slice Ao32 t256.length co32)) (fun _ hk => ⟨hk.1.1.1, ⟨hk.1.1.2, hk.1.2⟩⟩)⟩
   have n1_ : Aside0 (Kd.V k56 56 ((((((w26.setCell ⟨gb260, 0, none⟩ (.int .i64 t247)).setCell ⟨gb260, 1, none⟩ (.int .i64 t248)).setCell ⟨gb260, 2, none⟩ (.int .i64 t249)).setCell ⟨gb260, 3, none⟩ (.slice Ao30 t250.length co30)).setCell ⟨gb260, 4, none⟩ (.slice Ao31 t253.length co31)).setCell ⟨gb260, 5, none⟩ (.slice Ao32 t256.length co32)) w.heap.size (fun k_ => k_ ≠ gb230 ∧ k_ ≠ gb246 ∧ k_ ≠ gb260) (.slice Ao21 t239.length co21) t239) := ⟨by (with_reducible repeat (first | apply Kd.V_alloc | apply Kd.V_drewN | apply Kd.V_drew)); exact Kd.V_mono (Kd.V_far (p := ⟨gb260, 5, none⟩) (Kd.V_far (p := ⟨gb260, 4, none⟩) (Kd.V_far (p := ⟨gb260, 3, none⟩) (Kd.V_far (p := ⟨gb260, 2, none⟩) (Kd.V_far (p := ⟨gb260, 1, none⟩) (Kd.V_far (p := ⟨gb260, 0, none⟩) (Kd.V_mono HO241.out (fun k_ hk => (⟨hk, hk.2⟩ : _ ∧ k_ ≠ gb260))) (fun _ hk => hk.2) (.int .i64 t247)) (fun _ hk => hk.2) (.int .i64 t248)) (fun _ hk => hk.2) (.int .i64 t249)) (fun _ hk => hk.2) (.slice Ao30 t250.length co30)) (fun _ hk => hk.2) (.slice Ao31 t253.length co31)) (fun _ hk => hk.2) (.slice Ao32 t256.length co32)) (fun _ hk => ⟨hk.1.1.1, ⟨hk.1.1.2, hk.1.2⟩⟩)⟩
   have n2_ : Aside0 (Kd.V k56 56 ((((((w26.setCell ⟨gb260, 0, none⟩ (.int .i64 t247)).setCell ⟨gb260, 1, none⟩ (.int .i64 t248)).setCell ⟨gb260, 2, none⟩ (.int .i64 t249)).setCell ⟨gb260, 3, none⟩ (.slice Ao30 t250.length co30)).setCell ⟨gb260, 4, none⟩ (.slice Ao31 t253.length co31)).setCell ⟨gb260, 5, none⟩ (.slice Ao32 t256.length co32)) w.heap.size (fun k_ => k_ ≠ gb230 ∧ k_ ≠ gb246 ∧ k_ ≠ gb260) (.slice Ao22 t242.length co22) t242) := ⟨by (with_reducible repeat (first | apply Kd.V_alloc | apply Kd.V_drewN | apply Kd.V_drew)); exact Kd.V_mono (Kd.V_far (p := ⟨gb260, 5, none⟩) (Kd.V_far (p := ⟨gb260, 4, none⟩) (Kd.V_far (p := ⟨gb260, 3, none⟩) (Kd.V_far (p := ⟨gb260, 2, none⟩) (Kd.V_far (p := ⟨gb260, 1, none⟩) (Kd.V_far (p := ⟨gb260, 0, none⟩) (Kd.V_mono HO244.out (fun k_ hk => (⟨hk, hk.2⟩ : _ ∧ k_ ≠ gb260))) (fun _ hk => hk.2) (.int .i64 t247)) (fun _ hk => hk.2) (.int .i64 t248)) (fun _ hk => hk.2) (.int .i64 t249)) (fun _ hk => hk.2) (.slice Ao30 t250.length co30)) (fun _ hk => hk.2) (.slice Ao31 t253.length co31)) (fun _ hk => hk.2) (.slice Ao32 t256.length co32)) (fun _ hk => ⟨hk.1.1.1, ⟨hk.1.1.2, hk.1.2⟩⟩)⟩
   have n3_ : Aside0 (Kd.V k54 54 ((((((w26.setCell ⟨gb260, 0, none⟩ (.int .i64 t247)).setCell ⟨gb260, 1, none⟩ (.int .i64 t248)).setCell ⟨gb260, 2, none⟩ (.int .i64 t249)).setCell ⟨gb260, 3, none⟩ (.slice Ao30 t250.length co30)).setCell ⟨gb260, 4, none⟩ (.slice Ao31 t253.length co31)).setCell ⟨gb260, 5, none⟩ (.slice Ao32 t256.length co32)) w.heap.size (fun k_ => k_ ≠ gb230 ∧ k_ ≠ gb246 ∧ k_ ≠ gb260) (.slice Ao30 t250.length co30) t250) := ⟨by (with_reducible repeat (first | apply Kd.V_alloc | apply Kd.V_drewN | apply Kd.V_drew)); exact Kd.V_mono (Kd.V_far (p := ⟨gb260, 5, none⟩) (Kd.V_far (p := ⟨gb260, 4, none⟩) (Kd.V_far (p := ⟨gb260, 3, none⟩) (Kd.V_far (p := ⟨gb260, 2, none⟩) (Kd.V_far (p := ⟨gb260, 1, none⟩) (Kd.V_far (p := ⟨gb260, 0, none⟩) (Kd.V_mono HO252.out (fun k_ hk => (⟨hk, hk.2⟩ : _ ∧ k_ ≠ gb260))) (fun _ hk => hk.2) (.int .i64 t247)) (fun _ hk => hk.2) (.int .i64 t248)) (fun _ hk => hk.2) (.int .i64 t249)) (fun _ hk => hk.2) (.slice Ao30 t250.length co30)) (fun _ hk => hk.2) (.slice Ao31 t253.length co31)) (fun _ hk => hk.2) (.slice Ao32 t256.length co32)) (fun _ hk => ⟨hk.1.1.1, ⟨hk.1.1.2, hk.1.2⟩⟩)⟩
   have n4_ : Aside0 (Kd.V k56 56 ((((((w26.setCell ⟨gb260, 0, none⟩ (.int .i64 t247)).setCell ⟨gb260, 1, none⟩ (.int .i64 t248)).setCell ⟨gb260, 2, none⟩ (.int .i64 t249)).setCell ⟨gb260, 3, none⟩ (.slice Ao30 t250.length co30)).setCell ⟨gb260, 4, none⟩ (.slice Ao31 t253.length co31)).setCell ⟨gb260, 5, none⟩ (.slice Ao32 t256.length co32)) w.heap.size (fun k_ => k_ ≠ gb230 ∧ k_ ≠ gb246 ∧ k_ ≠ gb260) (.slice Ao31 t253.length co31) t253) := ⟨by (with_reducible repeat (first | apply Kd.V_alloc | apply Kd.V_drewN | apply Kd.V_drew)); exact Kd.V_mono (Kd.V_far (p := ⟨gb260, 5, none⟩) (Kd.V_far (p := ⟨gb260, 4, none⟩) (Kd.V_far (p := ⟨gb260, 3, none⟩) (Kd.V_far (p := ⟨gb260, 2, none⟩) (Kd.V_far (p := ⟨gb260, 1, none⟩) (Kd.V_far (p := ⟨gb260, 0, none⟩) (Kd.V_mono HO255.out (fun k_ hk => (⟨hk, hk.2⟩ : _ ∧ k_ ≠ gb260))) (fun _ hk => hk.2) (.int .i64 t247)) (fun _ hk => hk.2) (.int .i64 t248)) (fun _ hk => hk.2) (.int .i64 t249)) (fun _ hk => hk.2) (.slice Ao30 t250.length co30)) (fun _ hk => hk.2) (.slice Ao31 t253.length co31)) (fun _ hk => hk.2) (.slice Ao32 t256.length co32)) (fun _ hk => ⟨hk.1.1.1, ⟨hk.1.1.2, hk.1.2⟩⟩)⟩
   have n5_ : Aside0 (Kd.V k56 56 ((((((w26.setCell ⟨gb260, 0, none⟩ (.int .i64 t247)).setCell ⟨gb260, 1, none⟩ (.int .i64 t248)).setCell ⟨gb260, 2, none⟩ (.int .i64 t249)).setCell ⟨gb260, 3, none⟩ (.slice Ao30 t250.length co30)).setCell ⟨gb260, 4, none⟩ (.slice Ao31 t253.length co31)).setCell ⟨gb260, 5, none⟩ (.slice Ao32 t256.length co32)) w.heap.size (fun k_ => k_ ≠ gb230 ∧ k_ ≠ gb246 ∧ k_ ≠ gb260) (.slice Ao32 t256.length co32) t256) := ⟨by (with_reducible repeat (first | apply Kd.V_alloc | apply Kd.V_drewN | apply Kd.V_drew)); exact Kd.V_mono (Kd.V_far (p := ⟨gb260, 5, none⟩) (Kd.V_far (p := ⟨gb260, 4, none⟩) (Kd.V_far (p := ⟨gb260, 3, none⟩) (Kd.V_far (p := ⟨gb260, 2, none⟩) (Kd.V_far (p := ⟨gb260, 1, none⟩) (Kd.V_far (p := ⟨gb260, 0, none⟩) (Kd.V_mono HO258.out (fun k_ hk => (⟨hk, hk.2⟩ : _ ∧ k_ ≠ gb260))) (fun _ hk => hk.2) (.int .i64 t247)) (fun _ hk => hk.2) (.int .i64 t248)) (fun _ hk => hk.2) (.int .i64 t249)) (fun _ hk => hk.2) (.slice Ao30 t250.length co30)) (fun _ hk => hk.2) (.slice Ao31 t253.length co31)) (fun _ hk => hk.2) (.slice Ao32 t256.length co32)) (fun _ hk => ⟨hk.1.1.1, ⟨hk.1.1.2, hk.1.2⟩⟩)⟩
   have n6_ : Aside0 (((((((w26.setCell ⟨gb260, 0, none⟩ (.int .i64 t247)).setCell ⟨gb260, 1, none⟩ (.int .i64 t248)).setCell ⟨gb260, 2, none⟩ (.int .i64 t249)).setCell ⟨gb260, 3, none⟩ (.slice Ao30 t250.length co30)).setCell ⟨gb260, 4, none⟩ (.slice Ao31 t253.length co31)).setCell ⟨gb260, 5, none⟩ (.slice Ao32 t256.length co32)).heap[gb230]? = some (.cells #[.int .i64 a0_0, .int .i64 a0_1, .int .i64 a0_2, .int .i64 a0_3, .int .i64 a0_4, .int .i64 a0_5, .slice A0_6 l0_6.length c0_6, .slice A0_7 l0_7.length c0_7] 25 (0, 0))) := (sKq0 BK230)
   have n7_ : Aside0 (((((((w26.setCell ⟨gb260, 0, none⟩ (.int .i64 t247)).setCell ⟨gb260, 1, none⟩ (.int .i64 t248)).setCell ⟨gb260, 2, none⟩ (.int .i64 t249)).setCell ⟨gb260, 3, none⟩ (.slice Ao30 t250.length co30)).setCell ⟨gb260, 4, none⟩ (.slice Ao31 t253.length co31)).setCell ⟨gb260, 5, none⟩ (.slice Ao32 t256.length co32)).heap[gb246]? = some (.cells #[.int .i64 t233, .int .i64 t234, .int .i64 t235, .slice Ao20 t236.length co20, .slice Ao21 t239.length co21, .slice Ao22 t242.length co22] 37 (0, 0))) := (sKq0 BK246)
   have n8_ : Aside0 (((((((w26.setCell ⟨gb260, 0, none⟩ (.int .i64 t247)).setCell ⟨gb260, 1, none⟩ (.int .i64 t248)).setCell ⟨gb260, 2, none⟩ (.int .i64 t249)).setCell ⟨gb260, 3, none⟩ (.slice Ao30 t250.length co30)).setCell ⟨gb260, 4, none⟩ (.slice Ao31 t253.length co31)).setCell ⟨gb260, 5, none⟩ (.slice Ao32 t256.length co32)).heap[gb260]? = some (.cells #[.int .i64 t247, .int .i64 t248, .int .i64 t249, .slice Ao30 t250.length co30, .slice Ao31 t253.length co31, .slice Ao32 t256.length co32] 37 (0, 0))) := (sKq0 BK260)
   have n9_ : Aside0 (Below w.heap.size w ((((((w26.setCell ⟨gb260, 0, none⟩ (.int .i64 t247)).setCell ⟨gb260, 1, none⟩ (.int .i64 t248)).setCell ⟨gb260, 2, none⟩ (.int .i64 t249)).setCell ⟨gb260, 3, none⟩ (.slice Ao30 t250.length co30)).setCell ⟨gb260, 4, none⟩ (.slice Ao31 t253.length co31)).setCell ⟨gb260, 5, none⟩ (.slice Ao32 t256.length co32))) := (sB0 HB)
   (try clear HO238)
   (try clear HO241)
   (try clear HO244)
   (try clear HO252)
   (try clear HO255)
   (try clear HO258)
   (try clear BK230)
   (try clear BK246)
   (try clear BK260)
   (try clear HB)
   generalize ((((((w26.setCell ⟨gb260, 0, none⟩ (.int .i64 t247)).setCell ⟨gb260, 1, none⟩ (.int .i64 t248)).setCell ⟨gb260, 2, none⟩ (.int .i64 t249)).setCell ⟨gb260, 3, none⟩ (.slice Ao30 t250.length co30)).setCell ⟨gb260, 4, none⟩ (.slice Ao31 t253.length co31)).setCell ⟨gb260, 5, none⟩ (.slice Ao32 t256.length co32)) = w55 at n0_ n1_ n2_ n3_ n4_ n5_ n6_ n7_ n8_ n9_ ⊢
   have HO238 := n0_
   have HO241 := n1_
   have HO244 := n2_
   have HO252 := n3_
   have HO255 := n4_
   have HO258 := n5_
   have BK230 := n6_
   have BK246 := n7_
   have BK260 := n8_
   have HB := n9_
   clear n0_ n1_ n2_ n3_ n4_ n5_ n6_ n7_ n8_ n9_
   replace HO238 := Aside0.mk (Kd.V_drew HO238.out)
   replace HO241 := Aside0.mk (Kd.V_drew HO241.out)
   replace HO244 := Aside0.mk (Kd.V_drew HO244.out)
   replace HO252 := Aside0.mk (Kd.V_drew HO252.out)
   replace HO255 := Aside0.mk (Kd.V_drew HO255.out)
   replace HO258 := Aside0.mk (Kd.V_drew HO258.out)
   replace BK230 := Aside0.mk (blk_drew BK230.out)
   replace BK246 := Aside0.mk (blk_drew BK246.out)
   replace BK260 := Aside0.mk (blk_drew BK260.out)
   replace HB := Aside0.mk (below_drew1 HB.out)
   refine start_ (n := 25) (S := fun w' => w'.cell? ⟨gb246, 0, none⟩ = some (.int .i64 t233) ∧ w'.cell? ⟨gb246, 1, none⟩ = some (.int .i64 t234) ∧ w'.cell? ⟨gb246, 2, none⟩ = some (.int .i64 t235) ∧ w'.cell? ⟨gb246, 3, none⟩ = some (.slice Ao20 t236.length co20) ∧ w'.cell? ⟨gb246, 4, none⟩ = some (.slice Ao21 t239.length co21) ∧ w'.cell? ⟨gb246, 5, none⟩ = some (.slice Ao22 t242.length co22) ∧ w'.cell? ⟨gb260, 0, none⟩ = some (.int .i64 t247) ∧ w'.cell? ⟨gb260, 1, none⟩ = some (.int .i64 t248) ∧ w'.cell? ⟨gb260, 2, none⟩ = some (.int .i64 t249) ∧ w'.cell? ⟨gb260, 3, none⟩ = some (.slice Ao30 t250.length co30) ∧ w'.cell? ⟨gb260, 4, none⟩ = some (.slice Ao31 t253.length co31) ∧ w'.cell? ⟨gb260, 5, none⟩ = some (.slice Ao32 t256.length co32)) (ds := []) #[false, false, false, false, false, false, false, false, false, false, false, false, false, false, false, false, false, false, false, false, false, false, false, false, false] (by kernel_rfl) rfl rfl ⟨sc BK246 0, sc BK246 1, sc BK246 2, sc BK246 3, sc BK246 4, sc BK246 5, sc BK260 0, sc BK260 1, sc BK260 2, sc BK260 3, sc BK260 4, sc BK260 5⟩ (fun hHeld => ?_); refine with_tabW fuglemanlaw20_ConfigFinds.tab7 fuglemanlaw20_ConfigFinds.bits7 (fun HT_ HW_ => ?_)
   generalize w55.drew = w56 at HO238 HO241 HO244 HO252 HO255 HO258 BK230 BK246 BK260 HB hHeld ⊢
   refine pureK 0 (some 31) #[true, false, false, false, false, false, false, false, false, false, false, false, false, false, false, false, false, false, false, false, false, false, false, false, false] HT_ ?_
   refine pureK 1 (some 32) #[true, true, false, false, false, false, false, false, false, false, false, false, false, false, false, false, false, false, false, false, false, false, false, false, false] HT_ ?_
   refine pureK 2 (some 33) #[true, true, true, false, false, false, false, false, false, false, false, false, false, false, false, false, false, false, false, false, false, false, false, false, false] HT_ ?_
   refine pureK 3 (some 34) #[true, true, true, true, false, false, false, false, false, false, false, false, false, false, false, false, false, false, false, false, false, false, false, false, false] HT_ ?_
   refine takeK 4 (some 35) #[true, true, true, true, true, false, false, false, false, false, false, false, false, false, false, false, false, false, false, false, false, false, false, false, false] HT_ HW_ hHeld ?_ (hy := by (rintro w' ⟨s0, s1, s2, s3, s4, s5, s6, s7, s8, s9, s10, s11⟩; go_simp; with_reducible rfl))
   refine takeK 5 (some 36) #[true, true, true, true, true, true, false, false, false, false, false, false, false, false, false, false, false, false, false, false, false, false, false, false, false] HT_ HW_ hHeld ?_ (hy := by (rintro w' ⟨s0, s1, s2, s3, s4, s5, s6, s7, s8, s9, s10, s11⟩; go_simp; with_reducible rfl))
   refine one_ (i := 6) (N := some 37) #[true, true, true, true, true, true, true, false, false, false, false, false, false, false, false, false, false, false, false, false, false, false, false, false, false] rfl rfl (one_of HT_.out (by kernel_rfl)) (by decide) (fun K hK => ?_)
   refine goesR Try.func12 #[.agg #[.int .i64 t233, .int .i64 t234, .int .i64 t235, .slice Ao20 t236.length co20, .slice Ao21 t239.length co21, .slice Ao22 t242.length co22], .agg #[.int .i64 t247, .int .i64 t248, .int .i64 t249, .slice Ao30 t250.length co30, .slice Ao31 t253.length co31, .slice Ao32 t256.length co32]] ?_
   with_reducible refine (fuglemanlaw20_same.calls k t233 t234 t235 _ _ t236 _ _ t239 _ _ t242 t247 t248 t249 _ _ t250 _ _ t253 _ _ t256 false _ ?side1 ?side2 ?side3 ?side4 ?side5 ?side6 ?side7 ?side8 ?side9 ?side10 ?side11 ?side12 A36.out).mono ?_
   (case side1 => repeat (first | exact (Kd.V_reads' HO238.out).2.2 | (with_reducible refine Kd.C_alloc ?_ _) | (with_reducible refine Kd.C_drewN ?_ _) | (with_reducible refine Kd.C_drew ?_)))
   (case side2 => exact (Kd.V_reads' HO238.out).2.1)
   (case side3 => repeat (first | exact (Kd.V_reads' HO241.out).2.2 | (with_reducible refine Kd.C_alloc ?_ _) | (with_reducible refine Kd.C_drewN ?_ _) | (with_reducible refine Kd.C_drew ?_)))
   (case side4 => exact (Kd.V_reads' HO241.out).2.1)
   (case side5 => repeat (first | exact (Kd.V_reads' HO244.out).2.2 | (with_reducible refine Kd.C_alloc ?_ _) | (with_reducible refine Kd.C_drewN ?_ _) | (with_reducible refine Kd.C_drew ?_)))
   (case side6 => exact (Kd.V_reads' HO244.out).2.1)
   (case side7 => repeat (first | exact (Kd.V_reads' HO252.out).2.2 | (with_reducible refine Kd.C_alloc ?_ _) | (with_reducible refine Kd.C_drewN ?_ _) | (with_reducible refine Kd.C_drew ?_)))
   (case side8 => exact (Kd.V_reads' HO252.out).2.1)
   (case side9 => repeat (first | exact (Kd.V_reads' HO255.out).2.2 | (with_reducible refine Kd.C_alloc ?_ _) | (with_reducible refine Kd.C_drewN ?_ _) | (with_reducible refine Kd.C_drew ?_)))
   (case side10 => exact (Kd.V_reads' HO255.out).2.1)
   (case side11 => repeat (first | exact (Kd.V_reads' HO258.out).2.2 | (with_reducible refine Kd.C_alloc ?_ _) | (with_reducible refine Kd.C_drewN ?_ _) | (with_reducible refine Kd.C_drew ?_)))
   (case side12 => exact (Kd.V_reads' HO258.out).2.1)
   rintro e w57 ⟨rfl, hb⟩
   refine ⟨_, rfl, ?_⟩
   replace HO238 := sV HO238 hb
   replace HO241 := sV HO241 hb
   replace HO244 := sV HO244 hb
   replace HO252 := sV HO252 hb
   replace HO255 := sV HO255 hb
   replace HO258 := sV HO258 hb
   replace BK230 := sK BK230 hb
   replace BK246 := sK BK246 hb
   replace BK260 := sK BK260 hb
   replace HB := sB HB hb
   (try clear hb)
   refine hK.out _ _ ⟨sc BK246 0, sc BK246 1, sc BK246 2, sc BK246 3, sc BK246 4, sc BK246 5, sc BK260 0, sc BK260 1, sc BK260 2, sc BK260 3, sc BK260 4, sc BK260 5⟩ (fun hHeld => ?_)
   clear hK K
   refine norm_ (a' := ?_) ?_ ?_
   rotate_left
   ·show Act.put _ (some 37) _ = _
    simp only [Act.put, List.setIfInBounds_toArray, List.set_cons_zero, List.set_cons_succ, i64_w, i32_w]
    rfl
   refine pureK 7 (some 38) #[true, true, true, true, true, true, true, true, false, false, false, false, false, false, false, false, false, false, false, false, false, false, false, false, false] HT_ ?_
   refine pureK 8 (some 39) #[true, true, true, true, true, true, true, true, true, false, false, false, false, false, false, false, false, false, false, false, false, false, false, false, false] HT_ ?_
   refine pureK 9 (some 40) #[true, true, true, true, true, true, true, true, true, true, false, false, false, false, false, false, false, false, false, false, false, false, false, false, false] HT_ ?_
   refine pure_ (i := 10) (N := some 41) (v := undef) (a' := ?_) #[true, true, true, true, true, true, true, true, true, true, true, false, false, false, false, false, false, false, false, false, false, false, false, false, false] rfl rfl (any_of HT_.out (by kernel_rfl)) (fun _ _ _ h => h) (Or.inr ⟨by rfl, rfl⟩) ?_ ?_
   rotate_left
   ·simp only [Act.put, List.setIfInBounds_toArray, List.set_cons_zero, List.set_cons_succ, i64_w, i32_w]
    rfl
   refine pure_ (i := 11) (N := some 42) (v := undef) (a' := ?_) #[true, true, true, true, true, true, true, true, true, true, true, true, false, false, false, false, false, false, false, false, false, false, false, false, false] rfl rfl (any_of HT_.out (by kernel_rfl)) (fun _ _ _ h => h) (Or.inr ⟨by rfl, rfl⟩) ?_ ?_
   rotate_left
   ·simp only [Act.put, List.setIfInBounds_toArray, List.set_cons_zero, List.set_cons_succ, i64_w, i32_w]
    rfl
   refine pure_ (i := 12) (N := some 43) (v := undef) (a' := ?_) #[true, true, true, true, true, true, true, true, true, true, true, true, true, false, false, false, false, false, false, false, false, false, false, false, false] rfl rfl (any_of HT_.out (by kernel_rfl)) (fun _ _ _ h => h) (Or.inr ⟨by rfl, rfl⟩) ?_ ?_
   rotate_left
   ·simp only [Act.put, List.setIfInBounds_toArray, List.set_cons_zero, List.set_cons_succ, i64_w, i32_w]
    rfl
   refine pure_ (i := 13) (N := some 44) (v := undef) (a' := ?_) #[true, true, true, true, true, true, true, true, true, true, true, true, true, true, false, false, false, false, false, false, false, false, false, false, false] rfl rfl (any_of HT_.out (by kernel_rfl)) (fun _ _ _ h => h) (Or.inr ⟨by rfl, rfl⟩) ?_ ?_
   rotate_left
   ·simp only [Act.put, List.setIfInBounds_toArray, List.set_cons_zero, List.set_cons_succ, i64_w, i32_w]
    rfl
   refine pure_ (i := 14) (N := some 45) (v := undef) (a' := ?_) #[true, true, true, true, true, true, true, true, true, true, true, true, true, true, true, false, false, false, false, false, false, false, false, false, false] rfl rfl (any_of HT_.out (by kernel_rfl)) (fun _ _ _ h => h) (Or.inr ⟨by rfl, rfl⟩) ?_ ?_
   rotate_left
   ·simp only [Act.put, List.setIfInBounds_toArray, List.set_cons_zero, List.set_cons_succ, i64_w, i32_w]
    rfl
   refine pureK 15 (some 46) #[true, true, true, true, true, true, true, true, true, true, true, true, true, true, true, true, false, false, false, false, false, false, false, false, false] HT_ ?_
   refine pureK 16 (some 47) #[true, true, true, true, true, true, true, true, true, true, true, true, true, true, true, true, true, false, false, false, false, false, false, false, false] HT_ ?_
   refine pure_ (i := 17) (N := some 48) (v := undef) (a' := ?_) #[true, true, true, true, true, true, true, true, true, true, true, true, true, true, true, true, true, true, false, false, false, false, false, false, false] rfl rfl (any_of HT_.out (by kernel_rfl)) (fun _ _ _ h => h) (Or.inr ⟨by rfl, rfl⟩) ?_ ?_
   rotate_left
   ·simp only [Act.put, List.setIfInBounds_toArray, List.set_cons_zero, List.set_cons_succ, i64_w, i32_w]
    rfl
   refine pure_ (i := 18) (N := some 49) (v := undef) (a' := ?_) #[true, true, true, true, true, true, true, true, true, true, true, true, true, true, true, true, true, true, true, false, false, false, false, false, false] rfl rfl (any_of HT_.out (by kernel_rfl)) (fun _ _ _ h => h) (Or.inr ⟨by rfl, rfl⟩) ?_ ?_
   rotate_left
   ·simp only [Act.put, List.setIfInBounds_toArray, List.set_cons_zero, List.set_cons_succ, i64_w, i32_w]
    rfl
   refine pure_ (i := 19) (N := some 50) (v := undef) (a' := ?_) #[true, true, true, true, true, true, true, true, true, true, true, true, true, true, true, true, true, true, true, true, false, false, false, false, false] rfl rfl (any_of HT_.out (by kernel_rfl)) (fun _ _ _ h => h) (Or.inr ⟨by rfl, rfl⟩) ?_ ?_
   rotate_left
   ·simp only [Act.put, List.setIfInBounds_toArray, List.set_cons_zero, List.set_cons_succ, i64_w, i32_w]
    rfl
   refine pure_ (i := 20) (N := some 51) (v := undef) (a' := ?_) #[true, true, true, true, true, true, true, true, true, true, true, true, true, true, true, true, true, true, true, true, true, false, false, false, false] rfl rfl (any_of HT_.out (by kernel_rfl)) (fun _ _ _ h => h) (Or.inr ⟨by rfl, rfl⟩) ?_ ?_
   rotate_left
   ·simp only [Act.put, List.setIfInBounds_toArray, List.set_cons_zero, List.set_cons_succ, i64_w, i32_w]
    rfl
   refine pure_ (i := 21) (N := some 52) (v := undef) (a' := ?_) #[true, true, true, true, true, true, true, true, true, true, true, true, true, true, true, true, true, true, true, true, true, true, false, false, false] rfl rfl (any_of HT_.out (by kernel_rfl)) (fun _ _ _ h => h) (Or.inr ⟨by rfl, rfl⟩) ?_ ?_
   rotate_left
   ·simp only [Act.put, List.setIfInBounds_toArray, List.set_cons_zero, List.set_cons_succ, i64_w, i32_w]
    rfl
   refine pure_ (i := 22) (N := some 53) (v := undef) (a' := ?_) #[true, true, true, true, true, true, true, true, true, true, true, true, true, true, true, true, true, true, true, true, true, true, true, false, false] rfl rfl (any_of HT_.out (by kernel_rfl)) (fun _ _ _ h => h) (Or.inr ⟨by rfl, rfl⟩) ?_ ?_
   rotate_left
   ·simp only [Act.put, List.setIfInBounds_toArray, List.set_cons_zero, List.set_cons_succ, i64_w, i32_w]
    rfl
   refine pure_ (i := 23) (N := some 54) (v := undef) (a' := ?_) #[true, true, true, true, true, true, true, true, true, true, true, true, true, true, true, true, true, true, true, true, true, true, true, true, false] rfl rfl (any_of HT_.out (by kernel_rfl)) (fun _ _ _ h => h) (Or.inr ⟨by rfl, rfl⟩) ?_ ?_
   rotate_left
   ·simp only [Act.put, List.setIfInBounds_toArray, List.set_cons_zero, List.set_cons_succ, i64_w, i32_w]
    rfl
   refine pureK 24 (some 55) #[true, true, true, true, true, true, true, true, true, true, true, true, true, true, true, true, true, true, true, true, true, true, true, true, true] HT_ ?_
   refine done_ (done_of HT_.out (by kernel_rfl)) ?_
   try go_wp2
   go_meet
   case rel => exact ⟨_, (true), (by first | rfl | (simp; done) | (simp [*]; done)), H', ⟨by first | omega | exact Nat.le_refl _⟩, (sV0 HO238), (sV0 HO241), (sV0 HO244), (sV0 HO252), (sV0 HO255), (sV0 HO258), (sK0 BK230), (sK0 BK246), (sK0 BK260), (sB0 HB)⟩
  subst c37
  have H1 : ((config_Addrs.f a0_0 a0_1 a0_2 a0_3 a0_4 a0_5 l0_6 l0_7).bind fun t262 => ((fuglemanref20_Addrs.f k a0_0 a0_1 a0_2 a0_3 a0_4 a0_5 l0_6 l0_7).bind fun t263 => (if t262 = t263 then ((config_Readers.f a0_0 a0_1 a0_2 a0_3 a0_4 a0_5 l0_6 l0_7 a2).bind fun t264 => ((fuglemanref20_Readers.f k a0_0 a0_1 a0_2 a0_3 a0_4 a0_5 l0_6 l0_7 a2).bind fun t265 => (fuglemanlaw20_ConfigFinds.j0 k (t264 != t265) a0_0 a0_1 a0_2 a0_3 a0_4 a0_5 l0_6 l0_7 t233 t234 t235 t236 t239 t242 t247 t248 t249 t250 t253 t256))) else (fuglemanlaw20_ConfigFinds.j0 k true a0_0 a0_1 a0_2 a0_3 a0_4 a0_5 l0_6 l0_7 t233 t234 t235 t236 t239 t242 t247 t248 t249 t250 t253 t256)))) = some r := by rw [if_pos rfl] at H; exact H
  clear H
  have H := H1
  clear H1
  replace H := Option.bind_eq_some_iff.mp H
  obtain ⟨t262, A380, H⟩ := H
  replace H : ((fuglemanref20_Addrs.f k a0_0 a0_1 a0_2 a0_3 a0_4 a0_5 l0_6 l0_7).bind fun t263 => (if t262 = t263 then ((config_Readers.f a0_0 a0_1 a0_2 a0_3 a0_4 a0_5 l0_6 l0_7 a2).bind fun t264 => ((fuglemanref20_Readers.f k a0_0 a0_1 a0_2 a0_3 a0_4 a0_5 l0_6 l0_7 a2).bind fun t265 => (fuglemanlaw20_ConfigFinds.j0 k (t264 != t265) a0_0 a0_1 a0_2 a0_3 a0_4 a0_5 l0_6 l0_7 t233 t234 t235 t236 t239 t242 t247 t248 t249 t250 t253 t256))) else (fuglemanlaw20_ConfigFinds.j0 k true a0_0 a0_1 a0_2 a0_3 a0_4 a0_5 l0_6 l0_7 t233 t234 t235 t236 t239 t242 t247 t248 t249 t250 t253 t256))) = some r := H
  have A38 := Aside0.mk A380
  clear A380
  replace H := Option.bind_eq_some_iff.mp H
  obtain ⟨t263, A390, H⟩ := H
  replace H : (if t262 = t263 then ((config_Readers.f a0_0 a0_1 a0_2 a0_3 a0_4 a0_5 l0_6 l0_7 a2).bind fun t264 => ((fuglemanref20_Readers.f k a0_0 a0_1 a0_2 a0_3 a0_4 a0_5 l0_6 l0_7 a2).bind fun t265 => (fuglemanlaw20_ConfigFinds.j0 k (t264 != t265) a0_0 a0_1 a0_2 a0_3 a0_4 a0_5 l0_6 l0_7 t233 t234 t235 t236 t239 t242 t247 t248 t249 t250 t253 t256))) else (fuglemanlaw20_ConfigFinds.j0 k true a0_0 a0_1 a0_2 a0_3 a0_4 a0_5 l0_6 l0_7 t233 t234 t235 t236 t239 t242 t247 t248 t249 t250 t253 t256)) = some r := H
  have A39 := Aside0.mk A390
  clear A390
  by_cases c40 : t262 = t263
  case neg =>
   rw [if_neg c40] at H
   have c40b0 : (t262 == t263) = false := beq_eq_false_iff_ne.mpr c40
   have c40b1 : (t262 != t263) = true := bne_iff_ne.mpr c40
   have H' := Aside0.mk H
   clear H
   try go_wp2
   have n0_ : Aside0 (Kd.V k54 54 ((((((w26.setCell ⟨gb260, 0, none⟩ (.int .i64 t247)).setCell ⟨gb260, 1, none⟩ (.int .i64 t248)).setCell ⟨gb260, 2, none⟩ (.int .i64 t249)).setCell ⟨gb260, 3, none⟩ (.slice Ao30 t250.length co30)).setCell ⟨gb260, 4, none⟩ (.slice Ao31 t253.length co31)).setCell ⟨gb260, 5, none⟩ (.slice Ao32 t256.length co32)) w.heap.size (fun k_ => k_ ≠ gb230 ∧ k_ ≠ gb246 ∧ k_ ≠ gb260) (.slice Ao20 t236.length co20) t236) := ⟨by (with_reducible repeat (first | apply Kd.V_alloc | apply Kd.V_drewN | apply Kd.V_drew)); exact Kd.V_mono (Kd.V_far (p := ⟨gb260, 5, none⟩) (Kd.V_far (p := ⟨gb260, 4, none⟩) (Kd.V_far (p := ⟨gb260, 3, none⟩) (Kd.V_far (p := ⟨gb260, 2, none⟩) (Kd.V_far (p := ⟨gb260, 1, none⟩) (Kd.V_far (p := ⟨gb260, 0, none⟩) (Kd.V_mono HO238.out (fun k_ hk => (⟨hk, hk.2⟩ : _ ∧ k_ ≠ gb260))) (fun _ hk => hk.2) (.int .i64 t247)) (fun _ hk => hk.2) (.int .i64 t248)) (fun _ hk => hk.2) (.int .i64 t249)) (fun _ hk => hk.2) (.slice Ao30 t250.length co30)) (fun _ hk => hk.2) (.slice Ao31 t253.length co31)) (fun _ hk => hk.2) (.slice Ao32 t256.length co32)) (fun _ hk => ⟨hk.1.1.1, ⟨hk.1.1.2, hk.1.2⟩⟩)⟩
   have n1_ : Aside0 (Kd.V k56 56 ((((((w26.setCell ⟨gb260, 0, none⟩ (.int .i64 t247)).setCell ⟨gb260, 1, none⟩ (.int .i64 t248)).setCell ⟨gb260, 2, none⟩ (.int .i64 t249)).setCell ⟨gb260, 3, none⟩ (.slice Ao30 t250.length co30)).setCell ⟨gb260, 4, none⟩ (.slice Ao31 t253.length co31)).setCell ⟨gb260, 5, none⟩ (.slice Ao32 t256.length co32)) w.heap.size (fun k_ => k_ ≠ gb230 ∧ k_ ≠ gb246 ∧ k_ ≠ gb260) (.slice Ao21 t239.length co21) t239) := ⟨by (with_reducible repeat (first | apply Kd.V_alloc | apply Kd.V_drewN | apply Kd.V_drew)); exact Kd.V_mono (Kd.V_far (p := ⟨gb260, 5, none⟩) (Kd.V_far (p := ⟨gb260, 4, none⟩) (Kd.V_far (p := ⟨gb260, 3, none⟩) (Kd.V_far (p := ⟨gb260, 2, none⟩) (Kd.V_far (p := ⟨gb260, 1, none⟩) (Kd.V_far (p := ⟨gb260, 0, none⟩) (Kd.V_mono HO241.out (fun k_ hk => (⟨hk, hk.2⟩ : _ ∧ k_ ≠ gb260))) (fun _ hk => hk.2) (.int .i64 t247)) (fun _ hk => hk.2) (.int .i64 t248)) (fun _ hk => hk.2) (.int .i64 t249)) (fun _ hk => hk.2) (.slice Ao30 t250.length co30)) (fun _ hk => hk.2) (.slice Ao31 t253.length co31)) (fun _ hk => hk.2) (.slice Ao32 t256.length co32)) (fun _ hk => ⟨hk.1.1.1, ⟨hk.1.1.2, hk.1.2⟩⟩)⟩
   have n2_ : Aside0 (Kd.V k56 56 ((((((w26.setCell ⟨gb260, 0, none⟩ (.int .i64 t247)).setCell ⟨gb260, 1, none⟩ (.int .i64 t248)).setCell ⟨gb260, 2, none⟩ (.int .i64 t249)).setCell ⟨gb260, 3, none⟩ (.slice Ao30 t250.length co30)).setCell ⟨gb260, 4, none⟩ (.slice Ao31 t253.length co31)).setCell ⟨gb260, 5, none⟩ (.slice Ao32 t256.length co32)) w.heap.size (fun k_ => k_ ≠ gb230 ∧ k_ ≠ gb246 ∧ k_ ≠ gb260) (.slice Ao22 t242.length co22) t242) := ⟨by (with_reducible repeat (first | apply Kd.V_alloc | apply Kd.V_drewN | apply Kd.V_drew)); exact Kd.V_mono (Kd.V_far (p := ⟨gb260, 5, none⟩) (Kd.V_far (p := ⟨gb260, 4, none⟩) (Kd.V_far (p := ⟨gb260, 3, none⟩) (Kd.V_far (p := ⟨gb260, 2, none⟩) (Kd.V_far (p := ⟨gb260, 1, none⟩) (Kd.V_far (p := ⟨gb260, 0, none⟩) (Kd.V_mono HO244.out (fun k_ hk => (⟨hk, hk.2⟩ : _ ∧ k_ ≠ gb260))) (fun _ hk => hk.2) (.int .i64 t247)) (fun _ hk => hk.2) (.int .i64 t248)) (fun _ hk => hk.2) (.int .i64 t249)) (fun _ hk => hk.2) (.slice Ao30 t250.length co30)) (fun _ hk => hk.2) (.slice Ao31 t253.length co31)) (fun _ hk => hk.2) (.slice Ao32 t256.length co32)) (fun _ hk => ⟨hk.1.1.1, ⟨hk.1.1.2, hk.1.2⟩⟩)⟩
   have n3_ : Aside0 (Kd.V k54 54 ((((((w26.setCell ⟨gb260, 0, none⟩ (.int .i64 t247)).setCell ⟨gb260, 1, none⟩ (.int .i64 t248)).setCell ⟨gb260, 2, none⟩ (.int .i64 t249)).setCell ⟨gb260, 3, none⟩ (.slice Ao30 t250.length co30)).setCell ⟨gb260, 4, none⟩ (.slice Ao31 t253.length co31)).setCell ⟨gb260, 5, none⟩ (.slice Ao32 t256.length co32)) w.heap.size (fun k_ => k_ ≠ gb230 ∧ k_ ≠ gb246 ∧ k_ ≠ gb260) (.slice Ao30 t250.length co30) t250) := ⟨by (with_reducible repeat (first | apply Kd.V_alloc | apply Kd.V_drewN | apply Kd.V_drew)); exact Kd.V_mono (Kd.V_far (p := ⟨gb260, 5, none⟩) (Kd.V_far (p := ⟨gb260, 4, none⟩) (Kd.V_far (p := ⟨gb260, 3, none⟩) (Kd.V_far (p := ⟨gb260, 2, none⟩) (Kd.V_far (p := ⟨gb260, 1, none⟩) (Kd.V_far (p := ⟨gb260, 0, none⟩) (Kd.V_mono HO252.out (fun k_ hk => (⟨hk, hk.2⟩ : _ ∧ k_ ≠ gb260))) (fun _ hk => hk.2) (.int .i64 t247)) (fun _ hk => hk.2) (.int .i64 t248)) (fun _ hk => hk.2) (.int .i64 t249)) (fun _ hk => hk.2) (.slice Ao30 t250.length co30)) (fun _ hk => hk.2) (.slice Ao31 t253.length co31)) (fun _ hk => hk.2) (.slice Ao32 t256.length co32)) (fun _ hk => ⟨hk.1.1.1, ⟨hk.1.1.2, hk.1.2⟩⟩)⟩
   have n4_ : Aside0 (Kd.V k56 56 ((((((w26.setCell ⟨gb260, 0, none⟩ (.int .i64 t247)).setCell ⟨gb260, 1, none⟩ (.int .i64 t248)).setCell ⟨gb260, 2, none⟩ (.int .i64 t249)).setCell ⟨gb260, 3, none⟩ (.slice Ao30 t250.length co30)).setCell ⟨gb260, 4, none⟩ (.slice Ao31 t253.length co31)).setCell ⟨gb260, 5, none⟩ (.slice Ao32 t256.length co32)) w.heap.size (fun k_ => k_ ≠ gb230 ∧ k_ ≠ gb246 ∧ k_ ≠ gb260) (.slice Ao31 t253.length co31) t253) := ⟨by (with_reducible repeat (first | apply Kd.V_alloc | apply Kd.V_drewN | apply Kd.V_drew)); exact Kd.V_mono (Kd.V_far (p := ⟨gb260, 5, none⟩) (Kd.V_far (p := ⟨gb260, 4, none⟩) (Kd.V_far (p := ⟨gb260, 3, none⟩) (Kd.V_far (p := ⟨gb260, 2, none⟩) (Kd.V_far (p := ⟨gb260, 1, none⟩) (Kd.V_far (p := ⟨gb260, 0, none⟩) (Kd.V_mono HO255.out (fun k_ hk => (⟨hk, hk.2⟩ : _ ∧ k_ ≠ gb260))) (fun _ hk => hk.2) (.int .i64 t247)) (fun _ hk => hk.2) (.int .i64 t248)) (fun _ hk => hk.2) (.int .i64 t249)) (fun _ hk => hk.2) (.slice Ao30 t250.length co30)) (fun _ hk => hk.2) (.slice Ao31 t253.length co31)) (fun _ hk => hk.2) (.slice Ao32 t256.length co32)) (fun _ hk => ⟨hk.1.1.1, ⟨hk.1.1.2, hk.1.2⟩⟩)⟩
   have n5_ : Aside0 (Kd.V k56 56 ((((((w26.setCell ⟨gb260, 0, none⟩ (.int .i64 t247)).setCell ⟨gb260, 1, none⟩ (.int .i64 t248)).setCell ⟨gb260, 2, none⟩ (.int .i64 t249)).setCell ⟨gb260, 3, none⟩ (.slice Ao30 t250.length co30)).setCell ⟨gb260, 4, none⟩ (.slice Ao31 t253.length co31)).setCell ⟨gb260, 5, none⟩ (.slice Ao32 t256.length co32)) w.heap.size (fun k_ => k_ ≠ gb230 ∧ k_ ≠ gb246 ∧ k_ ≠ gb260) (.slice Ao32 t256.length co32) t256) := ⟨by (with_reducible repeat (first | apply Kd.V_alloc | apply Kd.V_drewN | apply Kd.V_drew)); exact Kd.V_mono (Kd.V_far (p := ⟨gb260, 5, none⟩) (Kd.V_far (p := ⟨gb260, 4, none⟩) (Kd.V_far (p := ⟨gb260, 3, none⟩) (Kd.V_far (p := ⟨gb260, 2, none⟩) (Kd.V_far (p := ⟨gb260, 1, none⟩) (Kd.V_far (p := ⟨gb260, 0, none⟩) (Kd.V_mono HO258.out (fun k_ hk => (⟨hk, hk.2⟩ : _ ∧ k_ ≠ gb260))) (fun _ hk => hk.2) (.int .i64 t247)) (fun _ hk => hk.2) (.int .i64 t248)) (fun _ hk => hk.2) (.int .i64 t249)) (fun _ hk => hk.2) (.slice Ao30 t250.length co30)) (fun _ hk => hk.2) (.slice Ao31 t253.length co31)) (fun _ hk => hk.2) (.slice Ao32 t256.length co32)) (fun _ hk => ⟨hk.1.1.1, ⟨hk.1.1.2, hk.1.2⟩⟩)⟩
   have n6_ : Aside0 (((((((w26.setCell ⟨gb260, 0, none⟩ (.int .i64 t247)).setCell ⟨gb260, 1, none⟩ (.int .i64 t248)).setCell ⟨gb260, 2, none⟩ (.int .i64 t249)).setCell ⟨gb260, 3, none⟩ (.slice Ao30 t250.length co30)).setCell ⟨gb260, 4, none⟩ (.slice Ao31 t253.length co31)).setCell ⟨gb260, 5, none⟩ (.slice Ao32 t256.length co32)).heap[gb230]? = some (.cells #[.int .i64 a0_0, .int .i64 a0_1, .int .i64 a0_2, .int .i64 a0_3, .int .i64 a0_4, .int .i64 a0_5, .slice A0_6 l0_6.length c0_6, .slice A0_7 l0_7.length c0_7] 25 (0, 0))) := (sKq0 BK230)
   have n7_ : Aside0 (((((((w26.setCell ⟨gb260, 0, none⟩ (.int .i64 t247)).setCell ⟨gb260, 1, none⟩ (.int .i64 t248)).setCell ⟨gb260, 2, none⟩ (.int .i64 t249)).setCell ⟨gb260, 3, none⟩ (.slice Ao30 t250.length co30)).setCell ⟨gb260, 4, none⟩ (.slice Ao31 t253.length co31)).setCell ⟨gb260, 5, none⟩ (.slice Ao32 t256.length co32)).heap[gb246]? = some (.cells #[.int .i64 t233, .int .i64 t234, .int .i64 t235, .slice Ao20 t236.length co20, .slice Ao21 t239.length co21, .slice Ao22 t242.length co22] 37 (0, 0))) := (sKq0 BK246)
   have n8_ : Aside0 (((((((w26.setCell ⟨gb260, 0, none⟩ (.int .i64 t247)).setCell ⟨gb260, 1, none⟩ (.int .i64 t248)).setCell ⟨gb260, 2, none⟩ (.int .i64 t249)).setCell ⟨gb260, 3, none⟩ (.slice Ao30 t250.length co30)).setCell ⟨gb260, 4, none⟩ (.slice Ao31 t253.length co31)).setCell ⟨gb260, 5, none⟩ (.slice Ao32 t256.length co32)).heap[gb260]? = some (.cells #[.int .i64 t247, .int .i64 t248, .int .i64 t249, .slice Ao30 t250.length co30, .slice Ao31 t253.length co31, .slice Ao32 t256.length co32] 37 (0, 0))) := (sKq0 BK260)
   have n9_ : Aside0 (Below w.heap.size w ((((((w26.setCell ⟨gb260, 0, none⟩ (.int .i64 t247)).setCell ⟨gb260, 1, none⟩ (.int .i64 t248)).setCell ⟨gb260, 2, none⟩ (.int .i64 t249)).setCell ⟨gb260, 3, none⟩ (.slice Ao30 t250.length co30)).setCell ⟨gb260, 4, none⟩ (.slice Ao31 t253.length co31)).setCell ⟨gb260, 5, none⟩ (.slice Ao32 t256.length co32))) := (sB0 HB)
   (try clear HO238)
   (try clear HO241)
   (try clear HO244)
   (try clear HO252)
   (try clear HO255)
   (try clear HO258)
   (try clear BK230)
   (try clear BK246)
   (try clear BK260)
   (try clear HB)
   generalize ((((((w26.setCell ⟨gb260, 0, none⟩ (.int .i64 t247)).setCell ⟨gb260, 1, none⟩ (.int .i64 t248)).setCell ⟨gb260, 2, none⟩ (.int .i64 t249)).setCell ⟨gb260, 3, none⟩ (.slice Ao30 t250.length co30)).setCell ⟨gb260, 4, none⟩ (.slice Ao31 t253.length co31)).setCell ⟨gb260, 5, none⟩ (.slice Ao32 t256.length co32)) = w50 at n0_ n1_ n2_ n3_ n4_ n5_ n6_ n7_ n8_ n9_ ⊢
   have HO238 := n0_
   have HO241 := n1_
   have HO244 := n2_
   have HO252 := n3_
   have HO255 := n4_
   have HO258 := n5_
   have BK230 := n6_
   have BK246 := n7_
   have BK260 := n8_
   have HB := n9_
   clear n0_ n1_ n2_ n3_ n4_ n5_ n6_ n7_ n8_ n9_
   replace HO238 := Aside0.mk (Kd.V_drew HO238.out)
   replace HO241 := Aside0.mk (Kd.V_drew HO241.out)
   replace HO244 := Aside0.mk (Kd.V_drew HO244.out)
   replace HO252 := Aside0.mk (Kd.V_drew HO252.out)
   replace HO255 := Aside0.mk (Kd.V_drew HO255.out)
   replace HO258 := Aside0.mk (Kd.V_drew HO258.out)
   replace BK230 := Aside0.mk (blk_drew BK230.out)
   replace BK246 := Aside0.mk (blk_drew BK246.out)
   replace BK260 := Aside0.mk (blk_drew BK260.out)
   replace HB := Aside0.mk (below_drew1 HB.out)
   refine start_ (n := 25) (S := fun w' => w'.cell? ⟨gb246, 0, none⟩ = some (.int .i64 t233) ∧ w'.cell? ⟨gb246, 1, none⟩ = some (.int .i64 t234) ∧ w'.cell? ⟨gb246, 2, none⟩ = some (.int .i64 t235) ∧ w'.cell? ⟨gb246, 3, none⟩ = some (.slice Ao20 t236.length co20) ∧ w'.cell? ⟨gb246, 4, none⟩ = some (.slice Ao21 t239.length co21) ∧ w'.cell? ⟨gb246, 5, none⟩ = some (.slice Ao22 t242.length co22) ∧ w'.cell? ⟨gb260, 0, none⟩ = some (.int .i64 t247) ∧ w'.cell? ⟨gb260, 1, none⟩ = some (.int .i64 t248) ∧ w'.cell? ⟨gb260, 2, none⟩ = some (.int .i64 t249) ∧ w'.cell? ⟨gb260, 3, none⟩ = some (.slice Ao30 t250.length co30) ∧ w'.cell? ⟨gb260, 4, none⟩ = some (.slice Ao31 t253.length co31) ∧ w'.cell? ⟨gb260, 5, none⟩ = some (.slice Ao32 t256.length co32) ∧ w'.cell? ⟨gb230, 0, none⟩ = some (.int .i64 a0_0) ∧ w'.cell? ⟨gb230, 1, none⟩ = some (.int .i64 a0_1) ∧ w'.cell? ⟨gb230, 2, none⟩ = some (.int .i64 a0_2) ∧ w'.cell? ⟨gb230, 3, none⟩ = some (.int .i64 a0_3) ∧ w'.cell? ⟨gb230, 4, none⟩ = some (.int .i64 a0_4) ∧ w'.cell? ⟨gb230, 5, none⟩ = some (.int .i64 a0_5) ∧ w'.cell? ⟨gb230, 6, none⟩ = some (.slice A0_6 l0_6.length c0_6) ∧ w'.cell? ⟨gb230, 7, none⟩ = some (.slice A0_7 l0_7.length c0_7)) (ds := []) #[false, false, false, false, false, false, false, false, false, false, false, false, false, false, false, false, false, false, false, false, false, false, false, false, false] (by kernel_rfl) rfl rfl ⟨sc BK246 0, sc BK246 1, sc BK246 2, sc BK246 3, sc BK246 4, sc BK246 5, sc BK260 0, sc BK260 1, sc BK260 2, sc BK260 3, sc BK260 4, sc BK260 5, sc BK230 0, sc BK230 1, sc BK230 2, sc BK230 3, sc BK230 4, sc BK230 5, sc BK230 6, sc BK230 7⟩ (fun hHeld => ?_); refine with_tabW fuglemanlaw20_ConfigFinds.tab7 fuglemanlaw20_ConfigFinds.bits7 (fun HT_ HW_ => ?_)
   generalize w50.drew = w51 at HO238 HO241 HO244 HO252 HO255 HO258 BK230 BK246 BK260 HB hHeld ⊢
   refine pureK 0 (some 31) #[true, false, false, false, false, false, false, false, false, false, false, false, false, false, false, false, false, false, false, false, false, false, false, false, false] HT_ ?_
   refine pureK 1 (some 32) #[true, true, false, false, false, false, false, false, false, false, false, false, false, false, false, false, false, false, false, false, false, false, false, false, false] HT_ ?_
   refine pureK 2 (some 33) #[true, true, true, false, false, false, false, false, false, false, false, false, false, false, false, false, false, false, false, false, false, false, false, false, false] HT_ ?_
   refine pureK 3 (some 34) #[true, true, true, true, false, false, false, false, false, false, false, false, false, false, false, false, false, false, false, false, false, false, false, false, false] HT_ ?_
   refine takeK 4 (some 35) #[true, true, true, true, true, false, false, false, false, false, false, false, false, false, false, false, false, false, false, false, false, false, false, false, false] HT_ HW_ hHeld ?_ (hy := by (rintro w' ⟨s0, s1, s2, s3, s4, s5, s6, s7, s8, s9, s10, s11, s12, s13, s14, s15, s16, s17, s18, s19⟩; go_simp; with_reducible rfl))
   refine takeK 5 (some 36) #[true, true, true, true, true, true, false, false, false, false, false, false, false, false, false, false, false, false, false, false, false, false, false, false, false] HT_ HW_ hHeld ?_ (hy := by (rintro w' ⟨s0, s1, s2, s3, s4, s5, s6, s7, s8, s9, s10, s11, s12, s13, s14, s15, s16, s17, s18, s19⟩; go_simp; with_reducible rfl))
   refine one_ (i := 6) (N := some 37) #[true, true, true, true, true, true, true, false, false, false, false, false, false, false, false, false, false, false, false, false, false, false, false, false, false] rfl rfl (one_of HT_.out (by kernel_rfl)) (by decide) (fun K hK => ?_)
   refine goesR Try.func12 #[.agg #[.int .i64 t233, .int .i64 t234, .int .i64 t235, .slice Ao20 t236.length co20, .slice Ao21 t239.length co21, .slice Ao22 t242.length co22], .agg #[.int .i64 t247, .int .i64 t248, .int .i64 t249, .slice Ao30 t250.length co30, .slice Ao31 t253.length co31, .slice Ao32 t256.length co32]] ?_
   with_reducible refine (fuglemanlaw20_same.calls k t233 t234 t235 _ _ t236 _ _ t239 _ _ t242 t247 t248 t249 _ _ t250 _ _ t253 _ _ t256 true _ ?side1 ?side2 ?side3 ?side4 ?side5 ?side6 ?side7 ?side8 ?side9 ?side10 ?side11 ?side12 A36.out).mono ?_
   (case side1 => repeat (first | exact (Kd.V_reads' HO238.out).2.2 | (with_reducible refine Kd.C_alloc ?_ _) | (with_reducible refine Kd.C_drewN ?_ _) | (with_reducible refine Kd.C_drew ?_)))
   (case side2 => exact (Kd.V_reads' HO238.out).2.1)
   (case side3 => repeat (first | exact (Kd.V_reads' HO241.out).2.2 | (with_reducible refine Kd.C_alloc ?_ _) | (with_reducible refine Kd.C_drewN ?_ _) | (with_reducible refine Kd.C_drew ?_)))
   (case side4 => exact (Kd.V_reads' HO241.out).2.1)
   (case side5 => repeat (first | exact (Kd.V_reads' HO244.out).2.2 | (with_reducible refine Kd.C_alloc ?_ _) | (with_reducible refine Kd.C_drewN ?_ _) | (with_reducible refine Kd.C_drew ?_)))
   (case side6 => exact (Kd.V_reads' HO244.out).2.1)
   (case side7 => repeat (first | exact (Kd.V_reads' HO252.out).2.2 | (with_reducible refine Kd.C_alloc ?_ _) | (with_reducible refine Kd.C_drewN ?_ _) | (with_reducible refine Kd.C_drew ?_)))
   (case side8 => exact (Kd.V_reads' HO252.out).2.1)
   (case side9 => repeat (first | exact (Kd.V_reads' HO255.out).2.2 | (with_reducible refine Kd.C_alloc ?_ _) | (with_reducible refine Kd.C_drewN ?_ _) | (with_reducible refine Kd.C_drew ?_)))
   (case side10 => exact (Kd.V_reads' HO255.out).2.1)
   (case side11 => repeat (first | exact (Kd.V_reads' HO258.out).2.2 | (with_reducible refine Kd.C_alloc ?_ _) | (with_reducible refine Kd.C_drewN ?_ _) | (with_reducible refine Kd.C_drew ?_)))
   (case side12 => exact (Kd.V_reads' HO258.out).2.1)
   rintro e w52 ⟨rfl, hb⟩
   refine ⟨_, rfl, ?_⟩
   replace HO238 := sV HO238 hb
   replace HO241 := sV HO241 hb
   replace HO244 := sV HO244 hb
   replace HO252 := sV HO252 hb
   replace HO255 := sV HO255 hb
   replace HO258 := sV HO258 hb
   replace BK230 := sK BK230 hb
   replace BK246 := sK BK246 hb
   replace BK260 := sK BK260 hb
   replace HB := sB HB hb
   (try clear hb)
   refine hK.out _ _ ⟨sc BK246 0, sc BK246 1, sc BK246 2, sc BK246 3, sc BK246 4, sc BK246 5, sc BK260 0, sc BK260 1, sc BK260 2, sc BK260 3, sc BK260 4, sc BK260 5, sc BK230 0, sc BK230 1, sc BK230 2, sc BK230 3, sc BK230 4, sc BK230 5, sc BK230 6, sc BK230 7⟩ (fun hHeld => ?_)
   clear hK K
   refine norm_ (a' := ?_) ?_ ?_
   rotate_left
   ·show Act.put _ (some 37) _ = _
    simp only [Act.put, List.setIfInBounds_toArray, List.set_cons_zero, List.set_cons_succ, i64_w, i32_w]
    rfl
   refine pureK 7 (some 38) #[true, true, true, true, true, true, true, true, false, false, false, false, false, false, false, false, false, false, false, false, false, false, false, false, false] HT_ ?_
   refine pureK 8 (some 39) #[true, true, true, true, true, true, true, true, true, false, false, false, false, false, false, false, false, false, false, false, false, false, false, false, false] HT_ ?_
   refine pureK 9 (some 40) #[true, true, true, true, true, true, true, true, true, true, false, false, false, false, false, false, false, false, false, false, false, false, false, false, false] HT_ ?_
   refine takeK 10 (some 41) #[true, true, true, true, true, true, true, true, true, true, true, false, false, false, false, false, false, false, false, false, false, false, false, false, false] HT_ HW_ hHeld ?_ (hy := by (rintro w' ⟨s0, s1, s2, s3, s4, s5, s6, s7, s8, s9, s10, s11, s12, s13, s14, s15, s16, s17, s18, s19⟩; go_simp; with_reducible rfl))
   refine takeK 12 (some 43) #[true, true, true, true, true, true, true, true, true, true, true, false, true, false, false, false, false, false, false, false, false, false, false, false, false] HT_ HW_ hHeld ?_ (hy := by (rintro w' ⟨s0, s1, s2, s3, s4, s5, s6, s7, s8, s9, s10, s11, s12, s13, s14, s15, s16, s17, s18, s19⟩; go_simp; with_reducible rfl))
   refine one_ (i := 11) (N := some 42) #[true, true, true, true, true, true, true, true, true, true, true, true, true, false, false, false, false, false, false, false, false, false, false, false, false] rfl rfl (one_of HT_.out (by kernel_rfl)) (by decide) (fun K hK => ?_)
   refine goesR Try.func13 #[.agg #[.int .i64 a0_0, .int .i64 a0_1, .int .i64 a0_2, .int .i64 a0_3, .int .i64 a0_4, .int .i64 a0_5, .slice A0_6 l0_6.length c0_6, .slice A0_7 l0_7.length c0_7]] ?_
   with_reducible refine (config_Addrs.calls a0_0 a0_1 a0_2 a0_3 a0_4 a0_5 _ _ l0_6 _ _ l0_7 t262 _ ?side1 ?side2 ?side3 ?side4 A38.out).mono ?_
   (case side1 => exact sC HR0_6 HB)
   (case side2 => exact HC0_6.out)
   (case side3 => exact sC HR0_7 HB)
   (case side4 => exact HC0_7.out)
   rintro e w53 ⟨rfl, hb⟩
   refine ⟨_, rfl, ?_⟩
   replace HO238 := sV HO238 hb
   replace HO241 := sV HO241 hb
   replace HO244 := sV HO244 hb
   replace HO252 := sV HO252 hb
   replace HO255 := sV HO255 hb
   replace HO258 := sV HO258 hb
   replace BK230 := sK BK230 hb
   replace BK246 := sK BK246 hb
   replace BK260 := sK BK260 hb
   replace HB := sB HB hb
   (try clear hb)
   refine hK.out _ _ ⟨sc BK246 0, sc BK246 1, sc BK246 2, sc BK246 3, sc BK246 4, sc BK246 5, sc BK260 0, sc BK260 1, sc BK260 2, sc BK260 3, sc BK260 4, sc BK260 5, sc BK230 0, sc BK230 1, sc BK230 2, sc BK230 3, sc BK230 4, sc BK230 5, sc BK230 6, sc BK230 7⟩ (fun hHeld => ?_)
   clear hK K
   refine norm_ (a' := ?_) ?_ ?_
   rotate_left
   ·show Act.put _ (some 42) _ = _
    simp only [Act.put, List.setIfInBounds_toArray, List.set_cons_zero, List.set_cons_succ, i64_w, i32_w]
    rfl
   refine one_ (i := 13) (N := some 44) #[true, true, true, true, true, true, true, true, true, true, true, true, true, true, false, false, false, false, false, false, false, false, false, false, false] rfl rfl (one_of HT_.out (by kernel_rfl)) (by decide) (fun K hK => ?_)
   refine goesR Try.func14 #[.agg #[.int .i64 a0_0, .int .i64 a0_1, .int .i64 a0_2, .int .i64 a0_3, .int .i64 a0_4, .int .i64 a0_5, .slice A0_6 l0_6.length c0_6, .slice A0_7 l0_7.length c0_7]] ?_
   with_reducible refine (fuglemanref20_Addrs.calls k a0_0 a0_1 a0_2 a0_3 a0_4 a0_5 _ _ l0_6 _ _ l0_7 t263 _ ?side1 ?side2 ?side3 ?side4 A39.out).mono ?_
   (case side1 => exact sC HR0_6 HB)
   (case side2 => exact HC0_6.out)
   (case side3 => exact sC HR0_7 HB)
   (case side4 => exact HC0_7.out)
   rintro e w54 ⟨rfl, hb⟩
   refine ⟨_, rfl, ?_⟩
   replace HO238 := sV HO238 hb
   replace HO241 := sV HO241 hb
   replace HO244 := sV HO244 hb
   replace HO252 := sV HO252 hb
   replace HO255 := sV HO255 hb
   replace HO258 := sV HO258 hb
   replace BK230 := sK BK230 hb
   replace BK246 := sK BK246 hb
   replace BK260 := sK BK260 hb
   replace HB := sB HB hb
   (try clear hb)
   refine hK.out _ _ ⟨sc BK246 0, sc BK246 1, sc BK246 2, sc BK246 3, sc BK246 4, sc BK246 5, sc BK260 0, sc BK260 1, sc BK260 2, sc BK260 3, sc BK260 4, sc BK260 5, sc BK230 0, sc BK230 1, sc BK230 2, sc BK230 3, sc BK230 4, sc BK230 5, sc BK230 6, sc BK230 7⟩ (fun hHeld => ?_)
   clear hK K
   refine norm_ (a' := ?_) ?_ ?_
   rotate_left
   ·show Act.put _ (some 44) _ = _
    simp only [Act.put, List.setIfInBounds_toArray, List.set_cons_zero, List.set_cons_succ, i64_w, i32_w]
    rfl
   refine pureK 14 (some 45) #[true, true, true, true, true, true, true, true, true, true, true, true, true, true, true, false, false, false, false, false, false, false, false, false, false] HT_ ?_
   refine pureK 15 (some 46) #[true, true, true, true, true, true, true, true, true, true, true, true, true, true, true, true, false, false, false, false, false, false, false, false, false] HT_ ?_
   refine pureK 16 (some 47) #[true, true, true, true, true, true, true, true, true, true, true, true, true, true, true, true, true, false, false, false, false, false, false, false, false] HT_ ?_
   refine pure_ (i := 17) (N := some 48) (v := undef) (a' := ?_) #[true, true, true, true, true, true, true, true, true, true, true, true, true, true, true, true, true, true, false, false, false, false, false, false, false] rfl rfl (any_of HT_.out (by kernel_rfl)) (fun _ _ _ h => h) (Or.inr ⟨by rfl, rfl⟩) ?_ ?_
   rotate_left
   ·simp only [Act.put, List.setIfInBounds_toArray, List.set_cons_zero, List.set_cons_succ, i64_w, i32_w]
    rfl
   refine pure_ (i := 18) (N := some 49) (v := undef) (a' := ?_) #[true, true, true, true, true, true, true, true, true, true, true, true, true, true, true, true, true, true, true, false, false, false, false, false, false] rfl rfl (any_of HT_.out (by kernel_rfl)) (fun _ _ _ h => h) (Or.inr ⟨by rfl, rfl⟩) ?_ ?_
   rotate_left
   ·simp only [Act.put, List.setIfInBounds_toArray, List.set_cons_zero, List.set_cons_succ, i64_w, i32_w]
    rfl
   refine pure_ (i := 19) (N := some 50) (v := undef) (a' := ?_) #[true, true, true, true, true, true, true, true, true, true, true, true, true, true, true, true, true, true, true, true, false, false, false, false, false] rfl rfl (any_of HT_.out (by kernel_rfl)) (fun _ _ _ h => h) (Or.inr ⟨by rfl, rfl⟩) ?_ ?_
   rotate_left
   ·simp only [Act.put, List.setIfInBounds_toArray, List.set_cons_zero, List.set_cons_succ, i64_w, i32_w]
    rfl
   refine pure_ (i := 20) (N := some 51) (v := undef) (a' := ?_) #[true, true, true, true, true, true, true, true, true, true, true, true, true, true, true, true, true, true, true, true, true, false, false, false, false] rfl rfl (any_of HT_.out (by kernel_rfl)) (fun _ _ _ h => h) (Or.inr ⟨by rfl, rfl⟩) ?_ ?_
   rotate_left
   ·simp only [Act.put, List.setIfInBounds_toArray, List.set_cons_zero, List.set_cons_succ, i64_w, i32_w]
    rfl
   refine pure_ (i := 21) (N := some 52) (v := undef) (a' := ?_) #[true, true, true, true, true, true, true, true, true, true, true, true, true, true, true, true, true, true, true, true, true, true, false, false, false] rfl rfl (any_of HT_.out (by kernel_rfl)) (fun _ _ _ h => h) (Or.inr ⟨by rfl, rfl⟩) ?_ ?_
   rotate_left
   ·simp only [Act.put, List.setIfInBounds_toArray, List.set_cons_zero, List.set_cons_succ, i64_w, i32_w]
    rfl
   refine pure_ (i := 22) (N := some 53) (v := undef) (a' := ?_) #[true, true, true, true, true, true, true, true, true, true, true, true, true, true, true, true, true, true, true, true, true, true, true, false, false] rfl rfl (any_of HT_.out (by kernel_rfl)) (fun _ _ _ h => h) (Or.inr ⟨by rfl, rfl⟩) ?_ ?_
   rotate_left
   ·simp only [Act.put, List.setIfInBounds_toArray, List.set_cons_zero, List.set_cons_succ, i64_w, i32_w]
    rfl
   refine pure_ (i := 23) (N := some 54) (v := undef) (a' := ?_) #[true, true, true, true, true, true, true, true, true, true, true, true, true, true, true, true, true, true, true, true, true, true, true, true, false] rfl rfl (any_of HT_.out (by kernel_rfl)) (fun _ _ _ h => h) (Or.inr ⟨by rfl, rfl⟩) ?_ ?_
   rotate_left
   ·simp only [Act.put, List.setIfInBounds_toArray, List.set_cons_zero, List.set_cons_succ, i64_w, i32_w]
    rfl
   refine pureK 24 (some 55) #[true, true, true, true, true, true, true, true, true, true, true, true, true, true, true, true, true, true, true, true, true, true, true, true, true] HT_ ?_
   refine done_ (done_of HT_.out (by kernel_rfl)) ?_
   try go_wp2
   go_meet
   case rel => exact ⟨_, (true), (by first | rfl | (simp; done) | (simp [*]; done)), H', ⟨by first | omega | exact Nat.le_refl _⟩, (sV0 HO238), (sV0 HO241), (sV0 HO244), (sV0 HO252), (sV0 HO255), (sV0 HO258), (sK0 BK230), (sK0 BK246), (sK0 BK260), (sB0 HB)⟩
  rw [if_pos c40] at H
  have c40b0 : (t262 == t263) = true := beq_iff_eq.mpr c40
  have c40b1 : (t262 != t263) = false := bne_eq_false_iff_eq.mpr c40
  clear c40
  replace H := Option.bind_eq_some_iff.mp H
  obtain ⟨t264, A410, H⟩ := H
  replace H : ((fuglemanref20_Readers.f k a0_0 a0_1 a0_2 a0_3 a0_4 a0_5 l0_6 l0_7 a2).bind fun t265 => (fuglemanlaw20_ConfigFinds.j0 k (t264 != t265) a0_0 a0_1 a0_2 a0_3 a0_4 a0_5 l0_6 l0_7 t233 t234 t235 t236 t239 t242 t247 t248 t249 t250 t253 t256)) = some r := H
  have A41 := Aside0.mk A410
  clear A410
  replace H := Option.bind_eq_some_iff.mp H
  obtain ⟨t265, A420, H⟩ := H
  replace H : (fuglemanlaw20_ConfigFinds.j0 k (t264 != t265) a0_0 a0_1 a0_2 a0_3 a0_4 a0_5 l0_6 l0_7 t233 t234 t235 t236 t239 t242 t247 t248 t249 t250 t253 t256) = some r := H
  have A42 := Aside0.mk A420
  clear A420
  have H' := Aside0.mk H
  clear H
  try go_wp2
  have n0_ : Aside0 (Kd.V k54 54 ((((((w26.setCell ⟨gb260, 0, none⟩ (.int .i64 t247)).setCell ⟨gb260, 1, none⟩ (.int .i64 t248)).setCell ⟨gb260, 2, none⟩ (.int .i64 t249)).setCell ⟨gb260, 3, none⟩ (.slice Ao30 t250.length co30)).setCell ⟨gb260, 4, none⟩ (.slice Ao31 t253.length co31)).setCell ⟨gb260, 5, none⟩ (.slice Ao32 t256.length co32)) w.heap.size (fun k_ => k_ ≠ gb230 ∧ k_ ≠ gb246 ∧ k_ ≠ gb260) (.slice Ao20 t236.length co20) t236) := ⟨by (with_reducible repeat (first | apply Kd.V_alloc | apply Kd.V_drewN | apply Kd.V_drew)); exact Kd.V_mono (Kd.V_far (p := ⟨gb260, 5, none⟩) (Kd.V_far (p := ⟨gb260, 4, none⟩) (Kd.V_far (p := ⟨gb260, 3, none⟩) (Kd.V_far (p := ⟨gb260, 2, none⟩) (Kd.V_far (p := ⟨gb260, 1, none⟩) (Kd.V_far (p := ⟨gb260, 0, none⟩) (Kd.V_mono HO238.out (fun k_ hk => (⟨hk, hk.2⟩ : _ ∧ k_ ≠ gb260))) (fun _ hk => hk.2) (.int .i64 t247)) (fun _ hk => hk.2) (.int .i64 t248)) (fun _ hk => hk.2) (.int .i64 t249)) (fun _ hk => hk.2) (.slice Ao30 t250.length co30)) (fun _ hk => hk.2) (.slice Ao31 t253.length co31)) (fun _ hk => hk.2) (.slice Ao32 t256.length co32)) (fun _ hk => ⟨hk.1.1.1, ⟨hk.1.1.2, hk.1.2⟩⟩)⟩
  have n1_ : Aside0 (Kd.V k56 56 ((((((w26.setCell ⟨gb260, 0, none⟩ (.int .i64 t247)).setCell ⟨gb260, 1, none⟩ (.int .i64 t248)).setCell ⟨gb260, 2, none⟩ (.int .i64 t249)).setCell ⟨gb260, 3, none⟩ (.slice Ao30 t250.length co30)).setCell ⟨gb260, 4, none⟩ (.slice Ao31 t253.length co31)).setCell ⟨gb260, 5, none⟩ (.slice Ao32 t256.length co32)) w.heap.size (fun k_ => k_ ≠ gb230 ∧ k_ ≠ gb246 ∧ k_ ≠ gb260) (.slice Ao21 t239.length co21) t239) := ⟨by (with_reducible repeat (first | apply Kd.V_alloc | apply Kd.V_drewN | apply Kd.V_drew)); exact Kd.V_mono (Kd.V_far (p := ⟨gb260, 5, none⟩) (Kd.V_far (p := ⟨gb260, 4, none⟩) (Kd.V_far (p := ⟨gb260, 3, none⟩) (Kd.V_far (p := ⟨gb260, 2, none⟩) (Kd.V_far (p := ⟨gb260, 1, none⟩) (Kd.V_far (p := ⟨gb260, 0, none⟩) (Kd.V_mono HO241.out (fun k_ hk => (⟨hk, hk.2⟩ : _ ∧ k_ ≠ gb260))) (fun _ hk => hk.2) (.int .i64 t247)) (fun _ hk => hk.2) (.int .i64 t248)) (fun _ hk => hk.2) (.int .i64 t249)) (fun _ hk => hk.2) (.slice Ao30 t250.length co30)) (fun _ hk => hk.2) (.slice Ao31 t253.length co31)) (fun _ hk => hk.2) (.slice Ao32 t256.length co32)) (fun _ hk => ⟨hk.1.1.1, ⟨hk.1.1.2, hk.1.2⟩⟩)⟩
  have n2_ : Aside0 (Kd.V k56 56 ((((((w26.setCell ⟨gb260, 0, none⟩ (.int .i64 t247)).setCell ⟨gb260, 1, none⟩ (.int .i64 t248)).setCell ⟨gb260, 2, none⟩ (.int .i64 t249)).setCell ⟨gb260, 3, none⟩ (.slice Ao30 t250.length co30)).setCell ⟨gb260, 4, none⟩ (.slice Ao31 t253.length co31)).setCell ⟨gb260, 5, none⟩ (.slice Ao32 t256.length co32)) w.heap.size (fun k_ => k_ ≠ gb230 ∧ k_ ≠ gb246 ∧ k_ ≠ gb260) (.slice Ao22 t242.length co22) t242) := ⟨by (with_reducible repeat (first | apply Kd.V_alloc | apply Kd.V_drewN | apply Kd.V_drew)); exact Kd.V_mono (Kd.V_far (p := ⟨gb260, 5, none⟩) (Kd.V_far (p := ⟨gb260, 4, none⟩) (Kd.V_far (p := ⟨gb260, 3, none⟩) (Kd.V_far (p := ⟨gb260, 2, none⟩) (Kd.V_far (p := ⟨gb260, 1, none⟩) (Kd.V_far (p := ⟨gb260, 0, none⟩) (Kd.V_mono HO244.out (fun k_ hk => (⟨hk, hk.2⟩ : _ ∧ k_ ≠ gb260))) (fun _ hk => hk.2) (.int .i64 t247)) (fun _ hk => hk.2) (.int .i64 t248)) (fun _ hk => hk.2) (.int .i64 t249)) (fun _ hk => hk.2) (.slice Ao30 t250.length co30)) (fun _ hk => hk.2) (.slice Ao31 t253.length co31)) (fun _ hk => hk.2) (.slice Ao32 t256.length co32)) (fun _ hk => ⟨hk.1.1.1, ⟨hk.1.1.2, hk.1.2⟩⟩)⟩
  have n3_ : Aside0 (Kd.V k54 54 ((((((w26.setCell ⟨gb260, 0, none⟩ (.int .i64 t247)).setCell ⟨gb260, 1, none⟩ (.int .i64 t248)).setCell ⟨gb260, 2, none⟩ (.int .i64 t249)).setCell ⟨gb260, 3, none⟩ (.slice Ao30 t250.length co30)).setCell ⟨gb260, 4, none⟩ (.slice Ao31 t253.length co31)).setCell ⟨gb260, 5, none⟩ (.slice Ao32 t256.length co32)) w.heap.size (fun k_ => k_ ≠ gb230 ∧ k_ ≠ gb246 ∧ k_ ≠ gb260) (.slice Ao30 t250.length co30) t250) := ⟨by (with_reducible repeat (first | apply Kd.V_alloc | apply Kd.V_drewN | apply Kd.V_drew)); exact Kd.V_mono (Kd.V_far (p := ⟨gb260, 5, none⟩) (Kd.V_far (p := ⟨gb260, 4, none⟩) (Kd.V_far (p := ⟨gb260, 3, none⟩) (Kd.V_far (p := ⟨gb260, 2, none⟩) (Kd.V_far (p := ⟨gb260, 1, none⟩) (Kd.V_far (p := ⟨gb260, 0, none⟩) (Kd.V_mono HO252.out (fun k_ hk => (⟨hk, hk.2⟩ : _ ∧ k_ ≠ gb260))) (fun _ hk => hk.2) (.int .i64 t247)) (fun _ hk => hk.2) (.int .i64 t248)) (fun _ hk => hk.2) (.int .i64 t249)) (fun _ hk => hk.2) (.slice Ao30 t250.length co30)) (fun _ hk => hk.2) (.slice Ao31 t253.length co31)) (fun _ hk => hk.2) (.slice Ao32 t256.length co32)) (fun _ hk => ⟨hk.1.1.1, ⟨hk.1.1.2, hk.1.2⟩⟩)⟩
  have n4_ : Aside0 (Kd.V k56 56 ((((((w26.setCell ⟨gb260, 0, none⟩ (.int .i64 t247)).setCell ⟨gb260, 1, none⟩ (.int .i64 t248)).setCell ⟨gb260, 2, none⟩ (.int .i64 t249)).setCell ⟨gb260, 3, none⟩ (.slice Ao30 t250.length co30)).setCell ⟨gb260, 4, none⟩ (.slice Ao31 t253.length co31)).setCell ⟨gb260, 5, none⟩ (.slice Ao32 t256.length co32)) w.heap.size (fun k_ => k_ ≠ gb230 ∧ k_ ≠ gb246 ∧ k_ ≠ gb260) (.slice Ao31 t253.length co31) t253) := ⟨by (with_reducible repeat (first | apply Kd.V_alloc | apply Kd.V_drewN | apply Kd.V_drew)); exact Kd.V_mono (Kd.V_far (p := ⟨gb260, 5, none⟩) (Kd.V_far (p := ⟨gb260, 4, none⟩) (Kd.V_far (p := ⟨gb260, 3, none⟩) (Kd.V_far (p := ⟨gb260, 2, none⟩) (Kd.V_far (p := ⟨gb260, 1, none⟩) (Kd.V_far (p := ⟨gb260, 0, none⟩) (Kd.V_mono HO255.out (fun k_ hk => (⟨hk, hk.2⟩ : _ ∧ k_ ≠ gb260))) (fun _ hk => hk.2) (.int .i64 t247)) (fun _ hk => hk.2) (.int .i64 t248)) (fun _ hk => hk.2) (.int .i64 t249)) (fun _ hk => hk.2) (.slice Ao30 t250.length co30)) (fun _ hk => hk.2) (.slice Ao31 t253.length co31)) (fun _ hk => hk.2) (.slice Ao32 t256.length co32)) (fun _ hk => ⟨hk.1.1.1, ⟨hk.1.1.2, hk.1.2⟩⟩)⟩
  have n5_ : Aside0 (Kd.V k56 56 ((((((w26.setCell ⟨gb260, 0, none⟩ (.int .i64 t247)).setCell ⟨gb260, 1, none⟩ (.int .i64 t248)).setCell ⟨gb260, 2, none⟩ (.int .i64 t249)).setCell ⟨gb260, 3, none⟩ (.slice Ao30 t250.length co30)).setCell ⟨gb260, 4, none⟩ (.slice Ao31 t253.length co31)).setCell ⟨gb260, 5, none⟩ (.slice Ao32 t256.length co32)) w.heap.size (fun k_ => k_ ≠ gb230 ∧ k_ ≠ gb246 ∧ k_ ≠ gb260) (.slice Ao32 t256.length co32) t256) := ⟨by (with_reducible repeat (first | apply Kd.V_alloc | apply Kd.V_drewN | apply Kd.V_drew)); exact Kd.V_mono (Kd.V_far (p := ⟨gb260, 5, none⟩) (Kd.V_far (p := ⟨gb260, 4, none⟩) (Kd.V_far (p := ⟨gb260, 3, none⟩) (Kd.V_far (p := ⟨gb260, 2, none⟩) (Kd.V_far (p := ⟨gb260, 1, none⟩) (Kd.V_far (p := ⟨gb260, 0, none⟩) (Kd.V_mono HO258.out (fun k_ hk => (⟨hk, hk.2⟩ : _ ∧ k_ ≠ gb260))) (fun _ hk => hk.2) (.int .i64 t247)) (fun _ hk => hk.2) (.int .i64 t248)) (fun _ hk => hk.2) (.int .i64 t249)) (fun _ hk => hk.2) (.slice Ao30 t250.length co30)) (fun _ hk => hk.2) (.slice Ao31 t253.length co31)) (fun _ hk => hk.2) (.slice Ao32 t256.length co32)) (fun _ hk => ⟨hk.1.1.1, ⟨hk.1.1.2, hk.1.2⟩⟩)⟩
  have n6_ : Aside0 (((((((w26.setCell ⟨gb260, 0, none⟩ (.int .i64 t247)).setCell ⟨gb260, 1, none⟩ (.int .i64 t248)).setCell ⟨gb260, 2, none⟩ (.int .i64 t249)).setCell ⟨gb260, 3, none⟩ (.slice Ao30 t250.length co30)).setCell ⟨gb260, 4, none⟩ (.slice Ao31 t253.length co31)).setCell ⟨gb260, 5, none⟩ (.slice Ao32 t256.length co32)).heap[gb230]? = some (.cells #[.int .i64 a0_0, .int .i64 a0_1, .int .i64 a0_2, .int .i64 a0_3, .int .i64 a0_4, .int .i64 a0_5, .slice A0_6 l0_6.length c0_6, .slice A0_7 l0_7.length c0_7] 25 (0, 0))) := (sKq0 BK230)
  have n7_ : Aside0 (((((((w26.setCell ⟨gb260, 0, none⟩ (.int .i64 t247)).setCell ⟨gb260, 1, none⟩ (.int .i64 t248)).setCell ⟨gb260, 2, none⟩ (.int .i64 t249)).setCell ⟨gb260, 3, none⟩ (.slice Ao30 t250.length co30)).setCell ⟨gb260, 4, none⟩ (.slice Ao31 t253.length co31)).setCell ⟨gb260, 5, none⟩ (.slice Ao32 t256.length co32)).heap[gb246]? = some (.cells #[.int .i64 t233, .int .i64 t234, .int .i64 t235, .slice Ao20 t236.length co20, .slice Ao21 t239.length co21, .slice Ao22 t242.length co22] 37 (0, 0))) := (sKq0 BK246)
  have n8_ : Aside0 (((((((w26.setCell ⟨gb260, 0, none⟩ (.int .i64 t247)).setCell ⟨gb260, 1, none⟩ (.int .i64 t248)).setCell ⟨gb260, 2, none⟩ (.int .i64 t249)).setCell ⟨gb260, 3, none⟩ (.slice Ao30 t250.length co30)).setCell ⟨gb260, 4, none⟩ (.slice Ao31 t253.length co31)).setCell ⟨gb260, 5, none⟩ (.slice Ao32 t256.length co32)).heap[gb260]? = some (.cells #[.int .i64 t247, .int .i64 t248, .int .i64 t249, .slice Ao30 t250.length co30, .slice Ao31 t253.length co31, .slice Ao32 t256.length co32] 37 (0, 0))) := (sKq0 BK260)
  have n9_ : Aside0 (Below w.heap.size w ((((((w26.setCell ⟨gb260, 0, none⟩ (.int .i64 t247)).setCell ⟨gb260, 1, none⟩ (.int .i64 t248)).setCell ⟨gb260, 2, none⟩ (.int .i64 t249)).setCell ⟨gb260, 3, none⟩ (.slice Ao30 t250.length co30)).setCell ⟨gb260, 4, none⟩ (.slice Ao31 t253.length co31)).setCell ⟨gb260, 5, none⟩ (.slice Ao32 t256.length co32))) := (sB0 HB)
  (try clear HO238)
  (try clear HO241)
  (try clear HO244)
  (try clear HO252)
  (try clear HO255)
  (try clear HO258)
  (try clear BK230)
  (try clear BK246)
  (try clear BK260)
  (try clear HB)
  generalize ((((((w26.setCell ⟨gb260, 0, none⟩ (.int .i64 t247)).setCell ⟨gb260, 1, none⟩ (.int .i64 t248)).setCell ⟨gb260, 2, none⟩ (.int .i64 t249)).setCell ⟨gb260, 3, none⟩ (.slice Ao30 t250.length co30)).setCell ⟨gb260, 4, none⟩ (.slice Ao31 t253.length co31)).setCell ⟨gb260, 5, none⟩ (.slice Ao32 t256.length co32)) = w43 at n0_ n1_ n2_ n3_ n4_ n5_ n6_ n7_ n8_ n9_ ⊢
  have HO238 := n0_
  have HO241 := n1_
  have HO244 := n2_
  have HO252 := n3_
  have HO255 := n4_
  have HO258 := n5_
  have BK230 := n6_
  have BK246 := n7_
  have BK260 := n8_
  have HB := n9_
  clear n0_ n1_ n2_ n3_ n4_ n5_ n6_ n7_ n8_ n9_
  replace HO238 := Aside0.mk (Kd.V_drew HO238.out)
  replace HO241 := Aside0.mk (Kd.V_drew HO241.out)
  replace HO244 := Aside0.mk (Kd.V_drew HO244.out)
  replace HO252 := Aside0.mk (Kd.V_drew HO252.out)
  replace HO255 := Aside0.mk (Kd.V_drew HO255.out)
  replace HO258 := Aside0.mk (Kd.V_drew HO258.out)
  replace BK230 := Aside0.mk (blk_drew BK230.out)
  replace BK246 := Aside0.mk (blk_drew BK246.out)
  replace BK260 := Aside0.mk (blk_drew BK260.out)
  replace HB := Aside0.mk (below_drew1 HB.out)
  refine start_ (n := 25) (S := fun w' => w'.cell? ⟨gb246, 0, none⟩ = some (.int .i64 t233) ∧ w'.cell? ⟨gb246, 1, none⟩ = some (.int .i64 t234) ∧ w'.cell? ⟨gb246, 2, none⟩ = some (.int .i64 t235) ∧ w'.cell? ⟨gb246, 3, none⟩ = some (.slice Ao20 t236.length co20) ∧ w'.cell? ⟨gb246, 4, none⟩ = some (.slice Ao21 t239.length co21) ∧ w'.cell? ⟨gb246, 5, none⟩ = some (.slice Ao22 t242.length co22) ∧ w'.cell? ⟨gb260, 0, none⟩ = some (.int .i64 t247) ∧ w'.cell? ⟨gb260, 1, none⟩ = some (.int .i64 t248) ∧ w'.cell? ⟨gb260, 2, none⟩ = some (.int .i64 t249) ∧ w'.cell? ⟨gb260, 3, none⟩ = some (.slice Ao30 t250.length co30) ∧ w'.cell? ⟨gb260, 4, none⟩ = some (.slice Ao31 t253.length co31) ∧ w'.cell? ⟨gb260, 5, none⟩ = some (.slice Ao32 t256.length co32) ∧ w'.cell? ⟨gb230, 0, none⟩ = some (.int .i64 a0_0) ∧ w'.cell? ⟨gb230, 1, none⟩ = some (.int .i64 a0_1) ∧ w'.cell? ⟨gb230, 2, none⟩ = some (.int .i64 a0_2) ∧ w'.cell? ⟨gb230, 3, none⟩ = some (.int .i64 a0_3) ∧ w'.cell? ⟨gb230, 4, none⟩ = some (.int .i64 a0_4) ∧ w'.cell? ⟨gb230, 5, none⟩ = some (.int .i64 a0_5) ∧ w'.cell? ⟨gb230, 6, none⟩ = some (.slice A0_6 l0_6.length c0_6) ∧ w'.cell? ⟨gb230, 7, none⟩ = some (.slice A0_7 l0_7.length c0_7)) (ds := []) #[false, false, false, false, false, false, false, false, false, false, false, false, false, false, false, false, false, false, false, false, false, false, false, false, false] (by kernel_rfl) rfl rfl ⟨sc BK246 0, sc BK246 1, sc BK246 2, sc BK246 3, sc BK246 4, sc BK246 5, sc BK260 0, sc BK260 1, sc BK260 2, sc BK260 3, sc BK260 4, sc BK260 5, sc BK230 0, sc BK230 1, sc BK230 2, sc BK230 3, sc BK230 4, sc BK230 5, sc BK230 6, sc BK230 7⟩ (fun hHeld => ?_); refine with_tabW fuglemanlaw20_ConfigFinds.tab7 fuglemanlaw20_ConfigFinds.bits7 (fun HT_ HW_ => ?_)
  generalize w43.drew = w44 at HO238 HO241 HO244 HO252 HO255 HO258 BK230 BK246 BK260 HB hHeld ⊢
  refine pureK 0 (some 31) #[true, false, false, false, false, false, false, false, false, false, false, false, false, false, false, false, false, false, false, false, false, false, false, false, false] HT_ ?_
  refine pureK 1 (some 32) #[true, true, false, false, false, false, false, false, false, false, false, false, false, false, false, false, false, false, false, false, false, false, false, false, false] HT_ ?_
  refine pureK 2 (some 33) #[true, true, true, false, false, false, false, false, false, false, false, false, false, false, false, false, false, false, false, false, false, false, false, false, false] HT_ ?_
  refine pureK 3 (some 34) #[true, true, true, true, false, false, false, false, false, false, false, false, false, false, false, false, false, false, false, false, false, false, false, false, false] HT_ ?_
  refine takeK 4 (some 35) #[true, true, true, true, true, false, false, false, false, false, false, false, false, false, false, false, false, false, false, false, false, false, false, false, false] HT_ HW_ hHeld ?_ (hy := by (rintro w' ⟨s0, s1, s2, s3, s4, s5, s6, s7, s8, s9, s10, s11, s12, s13, s14, s15, s16, s17, s18, s19⟩; go_simp; with_reducible rfl))
  refine takeK 5 (some 36) #[true, true, true, true, true, true, false, false, false, false, false, false, false, false, false, false, false, false, false, false, false, false, false, false, false] HT_ HW_ hHeld ?_ (hy := by (rintro w' ⟨s0, s1, s2, s3, s4, s5, s6, s7, s8, s9, s10, s11, s12, s13, s14, s15, s16, s17, s18, s19⟩; go_simp; with_reducible rfl))
  refine one_ (i := 6) (N := some 37) #[true, true, true, true, true, true, true, false, false, false, false, false, false, false, false, false, false, false, false, false, false, false, false, false, false] rfl rfl (one_of HT_.out (by kernel_rfl)) (by decide) (fun K hK => ?_)
  refine goesR Try.func12 #[.agg #[.int .i64 t233, .int .i64 t234, .int .i64 t235, .slice Ao20 t236.length co20, .slice Ao21 t239.length co21, .slice Ao22 t242.length co22], .agg #[.int .i64 t247, .int .i64 t248, .int .i64 t249, .slice Ao30 t250.length co30, .slice Ao31 t253.length co31, .slice Ao32 t256.length co32]] ?_
  with_reducible refine (fuglemanlaw20_same.calls k t233 t234 t235 _ _ t236 _ _ t239 _ _ t242 t247 t248 t249 _ _ t250 _ _ t253 _ _ t256 true _ ?side1 ?side2 ?side3 ?side4 ?side5 ?side6 ?side7 ?side8 ?side9 ?side10 ?side11 ?side12 A36.out).mono ?_
  (case side1 => repeat (first | exact (Kd.V_reads' HO238.out).2.2 | (with_reducible refine Kd.C_alloc ?_ _) | (with_reducible refine Kd.C_drewN ?_ _) | (with_reducible refine Kd.C_drew ?_)))
  (case side2 => exact (Kd.V_reads' HO238.out).2.1)
  (case side3 => repeat (first | exact (Kd.V_reads' HO241.out).2.2 | (with_reducible refine Kd.C_alloc ?_ _) | (with_reducible refine Kd.C_drewN ?_ _) | (with_reducible refine Kd.C_drew ?_)))
  (case side4 => exact (Kd.V_reads' HO241.out).2.1)
  (case side5 => repeat (first | exact (Kd.V_reads' HO244.out).2.2 | (with_reducible refine Kd.C_alloc ?_ _) | (with_reducible refine Kd.C_drewN ?_ _) | (with_reducible refine Kd.C_drew ?_)))
  (case side6 => exact (Kd.V_reads' HO244.out).2.1)
  (case side7 => repeat (first | exact (Kd.V_reads' HO252.out).2.2 | (with_reducible refine Kd.C_alloc ?_ _) | (with_reducible refine Kd.C_drewN ?_ _) | (with_reducible refine Kd.C_drew ?_)))
  (case side8 => exact (Kd.V_reads' HO252.out).2.1)
  (case side9 => repeat (first | exact (Kd.V_reads' HO255.out).2.2 | (with_reducible refine Kd.C_alloc ?_ _) | (with_reducible refine Kd.C_drewN ?_ _) | (with_reducible refine Kd.C_drew ?_)))
  (case side10 => exact (Kd.V_reads' HO255.out).2.1)
  (case side11 => repeat (first | exact (Kd.V_reads' HO258.out).2.2 | (with_reducible refine Kd.C_alloc ?_ _) | (with_reducible refine Kd.C_drewN ?_ _) | (with_reducible refine Kd.C_drew ?_)))
  (case side12 => exact (Kd.V_reads' HO258.out).2.1)
  rintro e w45 ⟨rfl, hb⟩
  refine ⟨_, rfl, ?_⟩
  replace HO238 := sV HO238 hb
  replace HO241 := sV HO241 hb
  replace HO244 := sV HO244 hb
  replace HO252 := sV HO252 hb
  replace HO255 := sV HO255 hb
  replace HO258 := sV HO258 hb
  replace BK230 := sK BK230 hb
  replace BK246 := sK BK246 hb
  replace BK260 := sK BK260 hb
  replace HB := sB HB hb
  (try clear hb)
  refine hK.out _ _ ⟨sc BK246 0, sc BK246 1, sc BK246 2, sc BK246 3, sc BK246 4, sc BK246 5, sc BK260 0, sc BK260 1, sc BK260 2, sc BK260 3, sc BK260 4, sc BK260 5, sc BK230 0, sc BK230 1, sc BK230 2, sc BK230 3, sc BK230 4, sc BK230 5, sc BK230 6, sc BK230 7⟩ (fun hHeld => ?_)
  clear hK K
  refine norm_ (a' := ?_) ?_ ?_
  rotate_left
  ·show Act.put _ (some 37) _ = _
   simp only [Act.put, List.setIfInBounds_toArray, List.set_cons_zero, List.set_cons_succ, i64_w, i32_w]
   rfl
  refine pureK 7 (some 38) #[true, true, true, true, true, true, true, true, false, false, false, false, false, false, false, false, false, false, false, false, false, false, false, false, false] HT_ ?_
  refine pureK 8 (some 39) #[true, true, true, true, true, true, true, true, true, false, false, false, false, false, false, false, false, false, false, false, false, false, false, false, false] HT_ ?_
  refine pureK 9 (some 40) #[true, true, true, true, true, true, true, true, true, true, false, false, false, false, false, false, false, false, false, false, false, false, false, false, false] HT_ ?_
  refine takeK 10 (some 41) #[true, true, true, true, true, true, true, true, true, true, true, false, false, false, false, false, false, false, false, false, false, false, false, false, false] HT_ HW_ hHeld ?_ (hy := by (rintro w' ⟨s0, s1, s2, s3, s4, s5, s6, s7, s8, s9, s10, s11, s12, s13, s14, s15, s16, s17, s18, s19⟩; go_simp; with_reducible rfl))
  refine takeK 12 (some 43) #[true, true, true, true, true, true, true, true, true, true, true, false, true, false, false, false, false, false, false, false, false, false, false, false, false] HT_ HW_ hHeld ?_ (hy := by (rintro w' ⟨s0, s1, s2, s3, s4, s5, s6, s7, s8, s9, s10, s11, s12, s13, s14, s15, s16, s17, s18, s19⟩; go_simp; with_reducible rfl))
  refine one_ (i := 11) (N := some 42) #[true, true, true, true, true, true, true, true, true, true, true, true, true, false, false, false, false, false, false, false, false, false, false, false, false] rfl rfl (one_of HT_.out (by kernel_rfl)) (by decide) (fun K hK => ?_)
  refine goesR Try.func13 #[.agg #[.int .i64 a0_0, .int .i64 a0_1, .int .i64 a0_2, .int .i64 a0_3, .int .i64 a0_4, .int .i64 a0_5, .slice A0_6 l0_6.length c0_6, .slice A0_7 l0_7.length c0_7]] ?_
  with_reducible refine (config_Addrs.calls a0_0 a0_1 a0_2 a0_3 a0_4 a0_5 _ _ l0_6 _ _ l0_7 t262 _ ?side1 ?side2 ?side3 ?side4 A38.out).mono ?_
  (case side1 => exact sC HR0_6 HB)
  (case side2 => exact HC0_6.out)
  (case side3 => exact sC HR0_7 HB)
  (case side4 => exact HC0_7.out)
  rintro e w46 ⟨rfl, hb⟩
  refine ⟨_, rfl, ?_⟩
  replace HO238 := sV HO238 hb
  replace HO241 := sV HO241 hb
  replace HO244 := sV HO244 hb
  replace HO252 := sV HO252 hb
  replace HO255 := sV HO255 hb
  replace HO258 := sV HO258 hb
  replace BK230 := sK BK230 hb
  replace BK246 := sK BK246 hb
  replace BK260 := sK BK260 hb
  replace HB := sB HB hb
  (try clear hb)
  refine hK.out _ _ ⟨sc BK246 0, sc BK246 1, sc BK246 2, sc BK246 3, sc BK246 4, sc BK246 5, sc BK260 0, sc BK260 1, sc BK260 2, sc BK260 3, sc BK260 4, sc BK260 5, sc BK230 0, sc BK230 1, sc BK230 2, sc BK230 3, sc BK230 4, sc BK230 5, sc BK230 6, sc BK230 7⟩ (fun hHeld => ?_)
  clear hK K
  refine norm_ (a' := ?_) ?_ ?_
  rotate_left
  ·show Act.put _ (some 42) _ = _
   simp only [Act.put, List.setIfInBounds_toArray, List.set_cons_zero, List.set_cons_succ, i64_w, i32_w]
   rfl
  refine one_ (i := 13) (N := some 44) #[true, true, true, true, true, true, true, true, true, true, true, true, true, true, false, false, false, false, false, false, false, false, false, false, false] rfl rfl (one_of HT_.out (by kernel_rfl)) (by decide) (fun K hK => ?_)
  refine goesR Try.func14 #[.agg #[.int .i64 a0_0, .int .i64 a0_1, .int .i64 a0_2, .int .i64 a0_3, .int .i64 a0_4, .int .i64 a0_5, .slice A0_6 l0_6.length c0_6, .slice A0_7 l0_7.length c0_7]] ?_
  with_reducible refine (fuglemanref20_Addrs.calls k a0_0 a0_1 a0_2 a0_3 a0_4 a0_5 _ _ l0_6 _ _ l0_7 t263 _ ?side1 ?side2 ?side3 ?side4 A39.out).mono ?_
  (case side1 => exact sC HR0_6 HB)
  (case side2 => exact HC0_6.out)
  (case side3 => exact sC HR0_7 HB)
  (case side4 => exact HC0_7.out)
  rintro e w47 ⟨rfl, hb⟩
  refine ⟨_, rfl, ?_⟩
  replace HO238 := sV HO238 hb
  replace HO241 := sV HO241 hb
  replace HO244 := sV HO244 hb
  replace HO252 := sV HO252 hb
  replace HO255 := sV HO255 hb
  replace HO258 := sV HO258 hb
  replace BK230 := sK BK230 hb
  replace BK246 := sK BK246 hb
  replace BK260 := sK BK260 hb
  replace HB := sB HB hb
  (try clear hb)
  refine hK.out _ _ ⟨sc BK246 0, sc BK246 1, sc BK246 2, sc BK246 3, sc BK246 4, sc BK246 5, sc BK260 0, sc BK260 1, sc BK260 2, sc BK260 3, sc BK260 4, sc BK260 5, sc BK230 0, sc BK230 1, sc BK230 2, sc BK230 3, sc BK230 4, sc BK230 5, sc BK230 6, sc BK230 7⟩ (fun hHeld => ?_)
  clear hK K
  refine norm_ (a' := ?_) ?_ ?_
  rotate_left
  ·show Act.put _ (some 44) _ = _
   simp only [Act.put, List.setIfInBounds_toArray, List.set_cons_zero, List.set_cons_succ, i64_w, i32_w]
   rfl
  refine pureK 14 (some 45) #[true, true, true, true, true, true, true, true, true, true, true, true, true, true, true, false, false, false, false, false, false, false, false, false, false] HT_ ?_
  refine pureK 15 (some 46) #[true, true, true, true, true, true, true, true, true, true, true, true, true, true, true, true, false, false, false, false, false, false, false, false, false] HT_ ?_
  refine pureK 16 (some 47) #[true, true, true, true, true, true, true, true, true, true, true, true, true, true, true, true, true, false, false, false, false, false, false, false, false] HT_ ?_
  refine pureK 18 (some 49) #[true, true, true, true, true, true, true, true, true, true, true, true, true, true, true, true, true, false, true, false, false, false, false, false, false] HT_ ?_
  refine pureK 21 (some 52) #[true, true, true, true, true, true, true, true, true, true, true, true, true, true, true, true, true, false, true, false, false, true, false, false, false] HT_ ?_
  refine takeK 17 (some 48) #[true, true, true, true, true, true, true, true, true, true, true, true, true, true, true, true, true, true, true, false, false, true, false, false, false] HT_ HW_ hHeld ?_ (hy := by (rintro w' ⟨s0, s1, s2, s3, s4, s5, s6, s7, s8, s9, s10, s11, s12, s13, s14, s15, s16, s17, s18, s19⟩; go_simp; with_reducible rfl))
  refine takeK 20 (some 51) #[true, true, true, true, true, true, true, true, true, true, true, true, true, true, true, true, true, true, true, false, true, true, false, false, false] HT_ HW_ hHeld ?_ (hy := by (rintro w' ⟨s0, s1, s2, s3, s4, s5, s6, s7, s8, s9, s10, s11, s12, s13, s14, s15, s16, s17, s18, s19⟩; go_simp; with_reducible rfl))
  refine one_ (i := 19) (N := some 50) #[true, true, true, true, true, true, true, true, true, true, true, true, true, true, true, true, true, true, true, true, true, true, false, false, false] rfl rfl (one_of HT_.out (by kernel_rfl)) (by decide) (fun K hK => ?_)
  refine goesR Try.func15 #[.agg #[.int .i64 a0_0, .int .i64 a0_1, .int .i64 a0_2, .int .i64 a0_3, .int .i64 a0_4, .int .i64 a0_5, .slice A0_6 l0_6.length c0_6, .slice A0_7 l0_7.length c0_7], .int .i64 a2] ?_
  with_reducible refine (config_Readers.calls a0_0 a0_1 a0_2 a0_3 a0_4 a0_5 _ _ l0_6 _ _ l0_7 a2 t264 _ ?side1 ?side2 ?side3 ?side4 A41.out).mono ?_
  (case side1 => exact sC HR0_6 HB)
  (case side2 => exact HC0_6.out)
  (case side3 => exact sC HR0_7 HB)
  (case side4 => exact HC0_7.out)
  rintro e w48 ⟨rfl, hb⟩
  refine ⟨_, rfl, ?_⟩
  replace HO238 := sV HO238 hb
  replace HO241 := sV HO241 hb
  replace HO244 := sV HO244 hb
  replace HO252 := sV HO252 hb
  replace HO255 := sV HO255 hb
  replace HO258 := sV HO258 hb
  replace BK230 := sK BK230 hb
  replace BK246 := sK BK246 hb
  replace BK260 := sK BK260 hb
  replace HB := sB HB hb
  (try clear hb)
  refine hK.out _ _ ⟨sc BK246 0, sc BK246 1, sc BK246 2, sc BK246 3, sc BK246 4, sc BK246 5, sc BK260 0, sc BK260 1, sc BK260 2, sc BK260 3, sc BK260 4, sc BK260 5, sc BK230 0, sc BK230 1, sc BK230 2, sc BK230 3, sc BK230 4, sc BK230 5, sc BK230 6, sc BK230 7⟩ (fun hHeld => ?_)
  clear hK K
  refine norm_ (a' := ?_) ?_ ?_
  rotate_left
  ·show Act.put _ (some 50) _ = _
   simp only [Act.put, List.setIfInBounds_toArray, List.set_cons_zero, List.set_cons_succ, i64_w, i32_w]
   rfl
  refine one_ (i := 22) (N := some 53) #[true, true, true, true, true, true, true, true, true, true, true, true, true, true, true, true, true, true, true, true, true, true, true, false, false] rfl rfl (one_of HT_.out (by kernel_rfl)) (by decide) (fun K hK => ?_)
  refine goesR Try.func16 #[.agg #[.int .i64 a0_0, .int .i64 a0_1, .int .i64 a0_2, .int .i64 a0_3, .int .i64 a0_4, .int .i64 a0_5, .slice A0_6 l0_6.length c0_6, .slice A0_7 l0_7.length c0_7], .int .i64 a2] ?_
  with_reducible refine (fuglemanref20_Readers.calls k a0_0 a0_1 a0_2 a0_3 a0_4 a0_5 _ _ l0_6 _ _ l0_7 a2 t265 _ ?side1 ?side2 ?side3 ?side4 A42.out).mono ?_
  (case side1 => exact sC HR0_6 HB)
  (case side2 => exact HC0_6.out)
  (case side3 => exact sC HR0_7 HB)
  (case side4 => exact HC0_7.out)
  rintro e w49 ⟨rfl, hb⟩
  refine ⟨_, rfl, ?_⟩
  replace HO238 := sV HO238 hb
  replace HO241 := sV HO241 hb
  replace HO244 := sV HO244 hb
  replace HO252 := sV HO252 hb
  replace HO255 := sV HO255 hb
  replace HO258 := sV HO258 hb
  replace BK230 := sK BK230 hb
  replace BK246 := sK BK246 hb
  replace BK260 := sK BK260 hb
  replace HB := sB HB hb
  (try clear hb)
  refine hK.out _ _ ⟨sc BK246 0, sc BK246 1, sc BK246 2, sc BK246 3, sc BK246 4, sc BK246 5, sc BK260 0, sc BK260 1, sc BK260 2, sc BK260 3, sc BK260 4, sc BK260 5, sc BK230 0, sc BK230 1, sc BK230 2, sc BK230 3, sc BK230 4, sc BK230 5, sc BK230 6, sc BK230 7⟩ (fun hHeld => ?_)
  clear hK K
  refine norm_ (a' := ?_) ?_ ?_
  rotate_left
  ·show Act.put _ (some 53) _ = _
   simp only [Act.put, List.setIfInBounds_toArray, List.set_cons_zero, List.set_cons_succ, i64_w, i32_w]
   rfl
  refine pureK 23 (some 54) #[true, true, true, true, true, true, true, true, true, true, true, true, true, true, true, true, true, true, true, true, true, true, true, true, false] HT_ ?_
  refine pureK 24 (some 55) #[true, true, true, true, true, true, true, true, true, true, true, true, true, true, true, true, true, true, true, true, true, true, true, true, true] HT_ ?_
  refine done_ (done_of HT_.out (by kernel_rfl)) ?_
  try go_wp2
  go_meet
  case rel => exact ⟨_, ((t264 != t265)), (by first | rfl | (simp; done) | (simp [*]; done)), H', ⟨by first | omega | exact Nat.le_refl _⟩, (sV0 HO238), (sV0 HO241), (sV0 HO244), (sV0 HO252), (sV0 HO255), (sV0 HO258), (sK0 BK230), (sK0 BK246), (sK0 BK260), (sB0 HB)⟩
 clear HC10
 (try clear c37)
 obtain ⟨kq, x55_9, rfl, HA, HJ9, HO_247003, HO_247004, HO_247005, HO_261003, HO_261004, HO_261005, BK230, BK246, BK260, HB⟩ := hcut
 cases kq with
 | zero => exact absurd HA.out (by simp [fuglemanlaw20_ConfigFinds.j0])
 | succ kj9 =>
  have H := HA.out
  clear HA
  simp only [fuglemanlaw20_ConfigFinds.j0] at H
  by_cases c58 : x55_9 = true
  ·subst c58
   have H1 : (some false) = some r := by rw [if_pos rfl] at H; exact H
   clear H
   have H := H1
   clear H1
   obtain rfl := Option.some.inj H
   go_wp2
   go_ret
   exact sEnd HB
  ·replace c58 := Bool.eq_false_iff.mpr c58
   subst c58
   have H1 : ((config_Values.f kj9 a0_0 a0_1 a0_2 a0_3 a0_4 a0_5 l0_6 l0_7 t233 t234 t235 t236 t239 t242).bind fun t266 => ((fuglemanref20_Values.f kj9 a0_0 a0_1 a0_2 a0_3 a0_4 a0_5 l0_6 l0_7 t247 t248 t249 t250 t253 t256).bind fun t269 => (if (t266.length : Int) = (t269.length : Int) then (fuglemanlaw20_ConfigFinds.l0 kj9 t266 t269 (t266.length : Int) 0) else (some false)))) = some r := by rw [if_neg (show ¬ (false = true) by decide)] at H; exact H
   clear H
   have H := H1
   clear H1
   replace H := Option.bind_eq_some_iff.mp H
   obtain ⟨t266, A590, H⟩ := H
   replace H : ((fuglemanref20_Values.f kj9 a0_0 a0_1 a0_2 a0_3 a0_4 a0_5 l0_6 l0_7 t247 t248 t249 t250 t253 t256).bind fun t269 => (if (t266.length : Int) = (t269.length : Int) then (fuglemanlaw20_ConfigFinds.l0 kj9 t266 t269 (t266.length : Int) 0) else (some false))) = some r := H
   have A59 := Aside0.mk A590
   clear A590
   replace H := Option.bind_eq_some_iff.mp H
   obtain ⟨t269, A600, H⟩ := H
   replace H : (if (t266.length : Int) = (t269.length : Int) then (fuglemanlaw20_ConfigFinds.l0 kj9 t266 t269 (t266.length : Int) 0) else (some false)) = some r := H
   have A60 := Aside0.mk A600
   clear A600
   by_cases c61 : (t266.length : Int) = (t269.length : Int)
   ·rw [if_pos c61] at H
    have c61b0 : ((t266.length : Int) == (t269.length : Int)) = true := beq_iff_eq.mpr c61
    have c61b1 : ((t266.length : Int) != (t269.length : Int)) = false := bne_eq_false_iff_eq.mpr c61
    have c61b2 : (t266.length == t269.length) = true := by first | simpa using c61 | (simp at c61 ⊢; omega)
    clear c61
    have H' := Aside0.mk H
    clear H
    try go_wp2
    replace HO_247003 := Aside0.mk (Kd.V_drew HO_247003.out)
    replace HO_247004 := Aside0.mk (Kd.V_drew HO_247004.out)
    replace HO_247005 := Aside0.mk (Kd.V_drew HO_247005.out)
    replace HO_261003 := Aside0.mk (Kd.V_drew HO_261003.out)
    replace HO_261004 := Aside0.mk (Kd.V_drew HO_261004.out)
    replace HO_261005 := Aside0.mk (Kd.V_drew HO_261005.out)
    replace BK230 := Aside0.mk (blk_drew BK230.out)
    replace BK246 := Aside0.mk (blk_drew BK246.out)
    replace BK260 := Aside0.mk (blk_drew BK260.out)
    replace HB := Aside0.mk (below_drew1 HB.out)
    refine start_ (n := 8) (S := fun w' => w'.cell? ⟨gb230, 0, none⟩ = some (.int .i64 a0_0) ∧ w'.cell? ⟨gb230, 1, none⟩ = some (.int .i64 a0_1) ∧ w'.cell? ⟨gb230, 2, none⟩ = some (.int .i64 a0_2) ∧ w'.cell? ⟨gb230, 3, none⟩ = some (.int .i64 a0_3) ∧ w'.cell? ⟨gb230, 4, none⟩ = some (.int .i64 a0_4) ∧ w'.cell? ⟨gb230, 5, none⟩ = some (.int .i64 a0_5) ∧ w'.cell? ⟨gb230, 6, none⟩ = some (.slice A0_6 l0_6.length c0_6) ∧ w'.cell? ⟨gb230, 7, none⟩ = some (.slice A0_7 l0_7.length c0_7) ∧ w'.cell? ⟨gb246, 0, none⟩ = some (.int .i64 t233) ∧ w'.cell? ⟨gb246, 1, none⟩ = some (.int .i64 t234) ∧ w'.cell? ⟨gb246, 2, none⟩ = some (.int .i64 t235) ∧ w'.cell? ⟨gb246, 3, none⟩ = some (.slice Ao20 t236.length co20) ∧ w'.cell? ⟨gb246, 4, none⟩ = some (.slice Ao21 t239.length co21) ∧ w'.cell? ⟨gb246, 5, none⟩ = some (.slice Ao22 t242.length co22) ∧ w'.cell? ⟨gb260, 0, none⟩ = some (.int .i64 t247) ∧ w'.cell? ⟨gb260, 1, none⟩ = some (.int .i64 t248) ∧ w'.cell? ⟨gb260, 2, none⟩ = some (.int .i64 t249) ∧ w'.cell? ⟨gb260, 3, none⟩ = some (.slice Ao30 t250.length co30) ∧ w'.cell? ⟨gb260, 4, none⟩ = some (.slice Ao31 t253.length co31) ∧ w'.cell? ⟨gb260, 5, none⟩ = some (.slice Ao32 t256.length co32)) (ds := []) #[false, false, false, false, false, false, false, false] (by kernel_rfl) rfl rfl ⟨sc BK230 0, sc BK230 1, sc BK230 2, sc BK230 3, sc BK230 4, sc BK230 5, sc BK230 6, sc BK230 7, sc BK246 0, sc BK246 1, sc BK246 2, sc BK246 3, sc BK246 4, sc BK246 5, sc BK260 0, sc BK260 1, sc BK260 2, sc BK260 3, sc BK260 4, sc BK260 5⟩ (fun hHeld => ?_); refine with_tabW fuglemanlaw20_ConfigFinds.tab9 fuglemanlaw20_ConfigFinds.bits9 (fun HT_ HW_ => ?_)
    generalize wc.drew = w62 at HO_247003 HO_247004 HO_247005 HO_261003 HO_261004 HO_261005 BK230 BK246 BK260 HB hHeld ⊢
    refine takeK 0 (some 56) #[true, false, false, false, false, false, false, false] HT_ HW_ hHeld ?_ (hy := by (rintro w' ⟨s0, s1, s2, s3, s4, s5, s6, s7, s8, s9, s10, s11, s12, s13, s14, s15, s16, s17, s18, s19⟩; go_simp; with_reducible rfl))
    refine takeK 1 (some 57) #[true, true, false, false, false, false, false, false] HT_ HW_ hHeld ?_ (hy := by (rintro w' ⟨s0, s1, s2, s3, s4, s5, s6, s7, s8, s9, s10, s11, s12, s13, s14, s15, s16, s17, s18, s19⟩; go_simp; with_reducible rfl))
    refine takeK 3 (some 59) #[true, true, false, true, false, false, false, false] HT_ HW_ hHeld ?_ (hy := by (rintro w' ⟨s0, s1, s2, s3, s4, s5, s6, s7, s8, s9, s10, s11, s12, s13, s14, s15, s16, s17, s18, s19⟩; go_simp; with_reducible rfl))
    refine takeK 4 (some 60) #[true, true, false, true, true, false, false, false] HT_ HW_ hHeld ?_ (hy := by (rintro w' ⟨s0, s1, s2, s3, s4, s5, s6, s7, s8, s9, s10, s11, s12, s13, s14, s15, s16, s17, s18, s19⟩; go_simp; with_reducible rfl))
    refine one_ (i := 2) (N := some 58) #[true, true, true, true, true, false, false, false] rfl rfl (one_of HT_.out (by kernel_rfl)) (by decide) (fun K hK => ?_)
    refine goesR Try.func17 #[.agg #[.int .i64 a0_0, .int .i64 a0_1, .int .i64 a0_2, .int .i64 a0_3, .int .i64 a0_4, .int .i64 a0_5, .slice A0_6 l0_6.length c0_6, .slice A0_7 l0_7.length c0_7], .agg #[.int .i64 t233, .int .i64 t234, .int .i64 t235, .slice Ao20 t236.length co20, .slice Ao21 t239.length co21, .slice Ao22 t242.length co22]] ?_
    with_reducible refine (config_Values.calls kj9 a0_0 a0_1 a0_2 a0_3 a0_4 a0_5 _ _ l0_6 _ _ l0_7 t233 t234 t235 _ _ t236 _ _ t239 _ _ t242 t266 _ ?side1 ?side2 ?side3 ?side4 ?side5 ?side6 ?side7 ?side8 ?side9 ?side10 A59.out).mono ?_
    (case side1 => exact sC HR0_6 HB)
    (case side2 => exact HC0_6.out)
    (case side3 => exact sC HR0_7 HB)
    (case side4 => exact HC0_7.out)
    (case side5 => repeat (first | exact (Kd.V_reads' HO_247003.out).2.2 | (with_reducible refine Kd.C_alloc ?_ _) | (with_reducible refine Kd.C_drewN ?_ _) | (with_reducible refine Kd.C_drew ?_)))
    (case side6 => exact (Kd.V_reads' HO_247003.out).2.1)
    (case side7 => repeat (first | exact (Kd.V_reads' HO_247004.out).2.2 | (with_reducible refine Kd.C_alloc ?_ _) | (with_reducible refine Kd.C_drewN ?_ _) | (with_reducible refine Kd.C_drew ?_)))
    (case side8 => exact (Kd.V_reads' HO_247004.out).2.1)
    (case side9 => repeat (first | exact (Kd.V_reads' HO_247005.out).2.2 | (with_reducible refine Kd.C_alloc ?_ _) | (with_reducible refine Kd.C_drewN ?_ _) | (with_reducible refine Kd.C_drew ?_)))
    (case side10 => exact (Kd.V_reads' HO_247005.out).2.1)
    rintro e w63 ⟨v267, rfl, ho0, hb⟩
    refine ⟨_, rfl, ?_⟩
    replace HO_247003 := Aside0.mk (Kd.V_elder' (by (with_reducible repeat (first | apply Kd.V_alloc | apply Kd.V_drewN | apply Kd.V_drew)); exact HO_247003.out) (Kd.R_base ho0) hb)
    replace HO_247004 := Aside0.mk (Kd.V_elder' (by (with_reducible repeat (first | apply Kd.V_alloc | apply Kd.V_drewN | apply Kd.V_drew)); exact HO_247004.out) (Kd.R_base ho0) hb)
    replace HO_247005 := Aside0.mk (Kd.V_elder' (by (with_reducible repeat (first | apply Kd.V_alloc | apply Kd.V_drewN | apply Kd.V_drew)); exact HO_247005.out) (Kd.R_base ho0) hb)
    replace HO_261003 := Aside0.mk (Kd.V_elder' (by (with_reducible repeat (first | apply Kd.V_alloc | apply Kd.V_drewN | apply Kd.V_drew)); exact HO_261003.out) (Kd.R_base ho0) hb)
    replace HO_261004 := Aside0.mk (Kd.V_elder' (by (with_reducible repeat (first | apply Kd.V_alloc | apply Kd.V_drewN | apply Kd.V_drew)); exact HO_261004.out) (Kd.R_base ho0) hb)
    replace HO_261005 := Aside0.mk (Kd.V_elder' (by (with_reducible repeat (first | apply Kd.V_alloc | apply Kd.V_drewN | apply Kd.V_drew)); exact HO_261005.out) (Kd.R_base ho0) hb)
    have HO268 := Aside0.mk (Kd.R_lower ho0 (below_size (by repeat (first | (with_reducible first | exact HB.out | apply below_alloc | apply pw_below_drewN | apply below_drew1 | refine below_set ?_ (Aside0.out (by assumption))) | exact HB.out))))
    replace BK230 := sK BK230 hb
    replace BK246 := sK BK246 hb
    replace BK260 := sK BK260 hb
    replace HB := sB HB hb
    (try clear hb)
    (try clear ho0)
    refine hK.out _ _ ⟨sc BK230 0, sc BK230 1, sc BK230 2, sc BK230 3, sc BK230 4, sc BK230 5, sc BK230 6, sc BK230 7, sc BK246 0, sc BK246 1, sc BK246 2, sc BK246 3, sc BK246 4, sc BK246 5, sc BK260 0, sc BK260 1, sc BK260 2, sc BK260 3, sc BK260 4, sc BK260 5⟩ (fun hHeld => ?_)
    clear hK K
    refine norm_ (a' := ?_) ?_ ?_
    rotate_left
    ·show Act.put _ (some 58) _ = _
     simp only [Act.put, List.setIfInBounds_toArray, List.set_cons_zero, List.set_cons_succ, i64_w, i32_w]
     rfl
    refine one_ (i := 5) (N := some 61) #[true, true, true, true, true, true, false, false] rfl rfl (one_of HT_.out (by kernel_rfl)) (by decide) (fun K hK => ?_)
    refine goesR Try.func18 #[.agg #[.int .i64 a0_0, .int .i64 a0_1, .int .i64 a0_2, .int .i64 a0_3, .int .i64 a0_4, .int .i64 a0_5, .slice A0_6 l0_6.length c0_6, .slice A0_7 l0_7.length c0_7], .agg #[.int .i64 t247, .int .i64 t248, .int .i64 t249, .slice Ao30 t250.length co30, .slice Ao31 t253.length co31, .slice Ao32 t256.length co32]] ?_
    with_reducible refine (fuglemanref20_Values.calls kj9 a0_0 a0_1 a0_2 a0_3 a0_4 a0_5 _ _ l0_6 _ _ l0_7 t247 t248 t249 _ _ t250 _ _ t253 _ _ t256 t269 _ ?side1 ?side2 ?side3 ?side4 ?side5 ?side6 ?side7 ?side8 ?side9 ?side10 A60.out).mono ?_
    (case side1 => exact sC HR0_6 HB)
    (case side2 => exact HC0_6.out)
    (case side3 => exact sC HR0_7 HB)
    (case side4 => exact HC0_7.out)
    (case side5 => repeat (first | exact (Kd.V_reads' HO_261003.out).2.2 | (with_reducible refine Kd.C_alloc ?_ _) | (with_reducible refine Kd.C_drewN ?_ _) | (with_reducible refine Kd.C_drew ?_)))
    (case side6 => exact (Kd.V_reads' HO_261003.out).2.1)
    (case side7 => repeat (first | exact (Kd.V_reads' HO_261004.out).2.2 | (with_reducible refine Kd.C_alloc ?_ _) | (with_reducible refine Kd.C_drewN ?_ _) | (with_reducible refine Kd.C_drew ?_)))
    (case side8 => exact (Kd.V_reads' HO_261004.out).2.1)
    (case side9 => repeat (first | exact (Kd.V_reads' HO_261005.out).2.2 | (with_reducible refine Kd.C_alloc ?_ _) | (with_reducible refine Kd.C_drewN ?_ _) | (with_reducible refine Kd.C_drew ?_)))
    (case side10 => exact (Kd.V_reads' HO_261005.out).2.1)
    rintro e w64 ⟨v270, rfl, ho0, hb⟩
    refine ⟨_, rfl, ?_⟩
    replace HO_247003 := Aside0.mk (Kd.V_elder' (by (with_reducible repeat (first | apply Kd.V_alloc | apply Kd.V_drewN | apply Kd.V_drew)); exact HO_247003.out) (Kd.R_base ho0) hb)
    replace HO_247004 := Aside0.mk (Kd.V_elder' (by (with_reducible repeat (first | apply Kd.V_alloc | apply Kd.V_drewN | apply Kd.V_drew)); exact HO_247004.out) (Kd.R_base ho0) hb)
    replace HO_247005 := Aside0.mk (Kd.V_elder' (by (with_reducible repeat (first | apply Kd.V_alloc | apply Kd.V_drewN | apply Kd.V_drew)); exact HO_247005.out) (Kd.R_base ho0) hb)
    replace HO_261003 := Aside0.mk (Kd.V_elder' (by (with_reducible repeat (first | apply Kd.V_alloc | apply Kd.V_drewN | apply Kd.V_drew)); exact HO_261003.out) (Kd.R_base ho0) hb)
    replace HO_261004 := Aside0.mk (Kd.V_elder' (by (with_reducible repeat (first | apply Kd.V_alloc | apply Kd.V_drewN | apply Kd.V_drew)); exact HO_261004.out) (Kd.R_base ho0) hb)
    replace HO_261005 := Aside0.mk (Kd.V_elder' (by (with_reducible repeat (first | apply Kd.V_alloc | apply Kd.V_drewN | apply Kd.V_drew)); exact HO_261005.out) (Kd.R_base ho0) hb)
    have HO271 := Aside0.mk (Kd.R_lower (Kd.R_new' ho0 (Kd.R_lt (by (with_reducible repeat (first | apply Kd.R_alloc | apply Kd.R_drewN | apply Kd.R_drew)); exact HO268.out))) (below_size (by repeat (first | (with_reducible first | exact HB.out | apply below_alloc | apply pw_below_drewN | apply below_drew1 | refine below_set ?_ (Aside0.out (by assumption))) | exact HB.out))))
    replace HO268 := Aside0.mk (Kd.R_elder' (by (with_reducible repeat (first | apply Kd.R_alloc | apply Kd.R_drewN | apply Kd.R_drew)); exact HO268.out) (Kd.R_base ho0) hb)
    replace BK230 := sK BK230 hb
    replace BK246 := sK BK246 hb
    replace BK260 := sK BK260 hb
    replace HB := sB HB hb
    (try clear hb)
    (try clear ho0)
    refine hK.out _ _ ⟨sc BK230 0, sc BK230 1, sc BK230 2, sc BK230 3, sc BK230 4, sc BK230 5, sc BK230 6, sc BK230 7, sc BK246 0, sc BK246 1, sc BK246 2, sc BK246 3, sc BK246 4, sc BK246 5, sc BK260 0, sc BK260 1, sc BK260 2, sc BK260 3, sc BK260 4, sc BK260 5⟩ (fun hHeld => ?_)
    clear hK K
    refine norm_ (a' := ?_) ?_ ?_
    rotate_left
    ·show Act.put _ (some 61) _ = _
     simp only [Act.put, List.setIfInBounds_toArray, List.set_cons_zero, List.set_cons_succ, i64_w, i32_w]
     rfl
    refine pureK 6 (some 11) #[true, true, true, true, true, true, true, false] HT_ ?_
    refine pureK 7 (some 12) #[true, true, true, true, true, true, true, true] HT_ ?_
    refine done_ (done_of HT_.out (by kernel_rfl)) ?_
    obtain ⟨Ao65, co65, eo65⟩ := Kd.R_slice HO268.out
    subst eo65
    obtain ⟨Ao66, co66, eo66⟩ := Kd.R_slice HO271.out
    subst eo66
    try go_wp2
    go_loopg [69] kj9 (fun kq v69 w' => ∃ (x69_2 : Int), v69 = .int .i64 x69_2 ∧ Aside0 (fuglemanlaw20_ConfigFinds.l0 kq t266 t269 (t266.length : Int) x69_2 = some r) ∧ Aside0 (kq ≤ kj9) ∧ Aside0 (Kd.R (Kd.int .i64) 3 w' w.heap.size (fun k_ => some k_ ≠ ((.slice Ao66 t269.length co66) : Value).ownBlock) (.slice Ao65 t266.length co65) t266) ∧ Aside0 (Kd.R (Kd.int .i64) 3 w' w.heap.size (fun k_ => some k_ ≠ ((.slice Ao65 t266.length co65) : Value).ownBlock) (.slice Ao66 t269.length co66) t269) ∧ Aside0 (Kd.V k54 54 w' w.heap.size (fun k_ => some k_ ≠ ((.slice Ao65 t266.length co65) : Value).ownBlock ∧ some k_ ≠ ((.slice Ao66 t269.length co66) : Value).ownBlock ∧ k_ ≠ gb230 ∧ k_ ≠ gb246 ∧ k_ ≠ gb260) (.slice Ao20 t236.length co20) t236) ∧ Aside0 (Kd.V k56 56 w' w.heap.size (fun k_ => some k_ ≠ ((.slice Ao65 t266.length co65) : Value).ownBlock ∧ some k_ ≠ ((.slice Ao66 t269.length co66) : Value).ownBlock ∧ k_ ≠ gb230 ∧ k_ ≠ gb246 ∧ k_ ≠ gb260) (.slice Ao21 t239.length co21) t239) ∧ Aside0 (Kd.V k56 56 w' w.heap.size (fun k_ => some k_ ≠ ((.slice Ao65 t266.length co65) : Value).ownBlock ∧ some k_ ≠ ((.slice Ao66 t269.length co66) : Value).ownBlock ∧ k_ ≠ gb230 ∧ k_ ≠ gb246 ∧ k_ ≠ gb260) (.slice Ao22 t242.length co22) t242) ∧ Aside0 (Kd.V k54 54 w' w.heap.size (fun k_ => some k_ ≠ ((.slice Ao65 t266.length co65) : Value).ownBlock ∧ some k_ ≠ ((.slice Ao66 t269.length co66) : Value).ownBlock ∧ k_ ≠ gb230 ∧ k_ ≠ gb246 ∧ k_ ≠ gb260) (.slice Ao30 t250.length co30) t250) ∧ Aside0 (Kd.V k56 56 w' w.heap.size (fun k_ => some k_ ≠ ((.slice Ao65 t266.length co65) : Value).ownBlock ∧ some k_ ≠ ((.slice Ao66 t269.length co66) : Value).ownBlock ∧ k_ ≠ gb230 ∧ k_ ≠ gb246 ∧ k_ ≠ gb260) (.slice Ao31 t253.length co31) t253) ∧ Aside0 (Kd.V k56 56 w' w.heap.size (fun k_ => some k_ ≠ ((.slice Ao65 t266.length co65) : Value).ownBlock ∧ some k_ ≠ ((.slice Ao66 t269.length co66) : Value).ownBlock ∧ k_ ≠ gb230 ∧ k_ ≠ gb246 ∧ k_ ≠ gb260) (.slice Ao32 t256.length co32) t256) ∧ Aside0 (w'.heap[gb230]? = some (.cells #[.int .i64 a0_0, .int .i64 a0_1, .int .i64 a0_2, .int .i64 a0_3, .int .i64 a0_4, .int .i64 a0_5, (.slice A0_6 l0_6.length c0_6), (.slice A0_7 l0_7.length c0_7)] 25 (0, 0))) ∧ Aside0 (w'.heap[gb246]? = some (.cells #[.int .i64 t233, .int .i64 t234, .int .i64 t235, (.slice Ao20 t236.length co20), (.slice Ao21 t239.length co21), (.slice Ao22 t242.length co22)] 37 (0, 0))) ∧ Aside0 (w'.heap[gb260]? = some (.cells #[.int .i64 t247, .int .i64 t248, .int .i64 t249, (.slice Ao30 t250.length co30), (.slice Ao31 t253.length co31), (.slice Ao32 t256.length co32)] 37 (0, 0))) ∧ Aside0 (Below w.heap.size w w'))
    case atStart => exact ⟨(0), (by first | rfl | (simp; done) | (simp [*]; done)), H', ⟨Nat.le_refl _⟩, ⟨by (with_reducible repeat (first | apply Kd.R_alloc | apply Kd.R_drewN | apply Kd.R_drew)); exact Kd.R_mono HO268.out (fun _ hk => hk.2)⟩, ⟨by (with_reducible repeat (first | apply Kd.R_alloc | apply Kd.R_drewN | apply Kd.R_drew)); exact Kd.R_mono HO271.out (fun _ hk => hk.2)⟩, ⟨by (with_reducible repeat (first | apply Kd.V_alloc | apply Kd.V_drewN | apply Kd.V_drew)); exact Kd.V_mono HO_247003.out (fun _ hk => ⟨hk.1.2, ⟨hk.2, ⟨hk.1.1.1, ⟨hk.1.1.2.1, hk.1.1.2.2⟩⟩⟩⟩)⟩, ⟨by (with_reducible repeat (first | apply Kd.V_alloc | apply Kd.V_drewN | apply Kd.V_drew)); exact Kd.V_mono HO_247004.out (fun _ hk => ⟨hk.1.2, ⟨hk.2, ⟨hk.1.1.1, ⟨hk.1.1.2.1, hk.1.1.2.2⟩⟩⟩⟩)⟩, ⟨by (with_reducible repeat (first | apply Kd.V_alloc | apply Kd.V_drewN | apply Kd.V_drew)); exact Kd.V_mono HO_247005.out (fun _ hk => ⟨hk.1.2, ⟨hk.2, ⟨hk.1.1.1, ⟨hk.1.1.2.1, hk.1.1.2.2⟩⟩⟩⟩)⟩, ⟨by (with_reducible repeat (first | apply Kd.V_alloc | apply Kd.V_drewN | apply Kd.V_drew)); exact Kd.V_mono HO_261003.out (fun _ hk => ⟨hk.1.2, ⟨hk.2, ⟨hk.1.1.1, ⟨hk.1.1.2.1, hk.1.1.2.2⟩⟩⟩⟩)⟩, ⟨by (with_reducible repeat (first | apply Kd.V_alloc | apply Kd.V_drewN | apply Kd.V_drew)); exact Kd.V_mono HO_261004.out (fun _ hk => ⟨hk.1.2, ⟨hk.2, ⟨hk.1.1.1, ⟨hk.1.1.2.1, hk.1.1.2.2⟩⟩⟩⟩)⟩, ⟨by (with_reducible repeat (first | apply Kd.V_alloc | apply Kd.V_drewN | apply Kd.V_drew)); exact Kd.V_mono HO_261005.out (fun _ hk => ⟨hk.1.2, ⟨hk.2, ⟨hk.1.1.1, ⟨hk.1.1.2.1, hk.1.1.2.2⟩⟩⟩⟩)⟩, (sK0 BK230), (sK0 BK246), (sK0 BK260), (sB0 HB)⟩
    case round =>
     clear H'
     (try clear c5); (try clear c37); (try clear c58); (try clear c61); (try clear c61b0); (try clear c61b1); (try clear c61b2)
     obtain ⟨x69_2, rfl, HA, HK2, HO_11, HO_12, HO_247003, HO_247004, HO_247005, HO_261003, HO_261004, HO_261005, BK230, BK246, BK260, HB⟩ := hrel
     cases gk with
     | zero => exact absurd HA.out (by simp [fuglemanlaw20_ConfigFinds.l0])
     | succ k2 =>
      have H := HA.out
      clear HA
      simp only [fuglemanlaw20_ConfigFinds.l0] at H
      by_cases c67 : x69_2 < (t266.length : Int)
      ·rw [if_pos c67] at H
       have c67b0 : decide (x69_2 < (t266.length : Int)) = true := decide_eq_true c67
       clear c67
       by_cases c68 : 0 ≤ x69_2
       ·rw [if_pos c68] at H
        have c68b0 : decide (0 ≤ x69_2) = true := decide_eq_true c68
        clear c68
        by_cases c69 : x69_2 < (t266.length : Int)
        ·rw [if_pos c69] at H
         have c69b0 : decide (x69_2 < (t266.length : Int)) = true := decide_eq_true c69
         clear c69
         by_cases c70 : x69_2 < (t269.length : Int)
         ·rw [if_pos c70] at H
          have c70b0 : decide (x69_2 < (t269.length : Int)) = true := decide_eq_true c70
          clear c70
          by_cases c71 : (rd t266 x69_2) = (rd t269 x69_2)
          ·rw [if_pos c71] at H
           have c71b0 : ((rd t266 x69_2) == (rd t269 x69_2)) = true := beq_iff_eq.mpr c71
           have c71b1 : ((rd t266 x69_2) != (rd t269 x69_2)) = false := bne_eq_false_iff_eq.mpr c71
           clear c71
           have H' := Aside0.mk H
           clear H
           try go_wp2
           replace HO_11 := Aside0.mk (Kd.R_drew HO_11.out)
           replace HO_12 := Aside0.mk (Kd.R_drew HO_12.out)
           replace HO_247003 := Aside0.mk (Kd.V_drew HO_247003.out)
           replace HO_247004 := Aside0.mk (Kd.V_drew HO_247004.out)
           replace HO_247005 := Aside0.mk (Kd.V_drew HO_247005.out)
           replace HO_261003 := Aside0.mk (Kd.V_drew HO_261003.out)
           replace HO_261004 := Aside0.mk (Kd.V_drew HO_261004.out)
           replace HO_261005 := Aside0.mk (Kd.V_drew HO_261005.out)
           replace BK230 := Aside0.mk (blk_drew BK230.out)
           replace BK246 := Aside0.mk (blk_drew BK246.out)
           replace BK260 := Aside0.mk (blk_drew BK260.out)
           replace HB := Aside0.mk (below_drew1 HB.out)
           have p272 : 0 ≤ (x69_2 : Int) := of_decide_eq_true (by first | (with_reducible assumption) | assumption)
           have q272 : x69_2 < (t266.length : Int) := of_decide_eq_true (by first | (with_reducible assumption) | assumption)
           obtain ⟨ad272, e272, hx272_0⟩ := Kd.at_int (Kd.R_reads' HO_11.out).2.2 x69_2 p272 q272
           cases e272
           replace p272 := eq_true p272
           replace q272 := eq_true q272
           have p273 : 0 ≤ (x69_2 : Int) := of_decide_eq_true (by first | (with_reducible assumption) | assumption)
           have q273 : x69_2 < (t269.length : Int) := of_decide_eq_true (by first | (with_reducible assumption) | assumption)
           obtain ⟨ad273, e273, hx273_0⟩ := Kd.at_int (Kd.R_reads' HO_12.out).2.2 x69_2 p273 q273
           cases e273
           replace p273 := eq_true p273
           replace q273 := eq_true q273
           refine start_ (n := 9) (S := fun w' => w'.cell? (ad272.add (x69_2).toNat) = some (.int .i64 (rd t266 x69_2)) ∧ w'.cell? (ad273.add (x69_2).toNat) = some (.int .i64 (rd t269 x69_2))) (ds := []) #[false, false, false, false, false, false, false, false, false] (by kernel_rfl) rfl rfl ⟨hx272_0, hx273_0⟩ (fun hHeld => ?_); refine with_tabW fuglemanlaw20_ConfigFinds.tab15 fuglemanlaw20_ConfigFinds.bits15 (fun HT_ HW_ => ?_)
           generalize wr.drew = w72 at HO_11 HO_12 HO_247003 HO_247004 HO_247005 HO_261003 HO_261004 HO_261005 BK230 BK246 BK260 HB hx272_0 hx273_0 hHeld ⊢
           refine pureK 0 (some 72) #[true, false, false, false, false, false, false, false, false] HT_ ?_
           refine pureK 1 (some 73) #[true, true, false, false, false, false, false, false, false] HT_ ?_
           refine pureK 2 (some 74) #[true, true, true, false, false, false, false, false, false] HT_ ?_
           refine pureK 4 (some 76) #[true, true, true, false, true, false, false, false, false] HT_ ?_
           refine pureK 5 (some 77) #[true, true, true, false, true, true, false, false, false] HT_ ?_
           refine pureK 6 (some 78) #[true, true, true, false, true, true, true, false, false] HT_ ?_
           refine takeK 3 (some 75) #[true, true, true, true, true, true, true, false, false] HT_ HW_ hHeld ?_ (hy := by (rintro w' ⟨s0, s1⟩; go_simp; with_reducible rfl))
           refine takeK 7 (some 79) #[true, true, true, true, true, true, true, true, false] HT_ HW_ hHeld ?_ (hy := by (rintro w' ⟨s0, s1⟩; go_simp; with_reducible rfl))
           refine pureK 8 (some 80) #[true, true, true, true, true, true, true, true, true] HT_ ?_
           refine done_ (done_of HT_.out (by kernel_rfl)) ?_
           try go_wp2
           go_roundg k2
           case measure => have := HJ9.out; have := HK2.out; omega
           case rel => exact ⟨(wrap64 (x69_2 + 1)), (by first | rfl | (simp; done) | (simp [*]; done)), H', ⟨by have := HJ9.out; have := HK2.out; omega⟩, (sR0 HO_11), (sR0 HO_12), (sV0 HO_247003), (sV0 HO_247004), (sV0 HO_247005), (sV0 HO_261003), (sV0 HO_261004), (sV0 HO_261005), (sK0 BK230), (sK0 BK246), (sK0 BK260), (sB0 HB)⟩
          ·rw [if_neg c71] at H
           have c71b0 : ((rd t266 x69_2) == (rd t269 x69_2)) = false := beq_eq_false_iff_ne.mpr c71
           have c71b1 : ((rd t266 x69_2) != (rd t269 x69_2)) = true := bne_iff_ne.mpr c71
           obtain rfl := Option.some.inj H
           try go_wp2
           replace HO_11 := Aside0.mk (Kd.R_drew HO_11.out)
           replace HO_12 := Aside0.mk (Kd.R_drew HO_12.out)
           replace HO_247003 := Aside0.mk (Kd.V_drew HO_247003.out)
           replace HO_247004 := Aside0.mk (Kd.V_drew HO_247004.out)
           replace HO_247005 := Aside0.mk (Kd.V_drew HO_247005.out)
           replace HO_261003 := Aside0.mk (Kd.V_drew HO_261003.out)
           replace HO_261004 := Aside0.mk (Kd.V_drew HO_261004.out)
           replace HO_261005 := Aside0.mk (Kd.V_drew HO_261005.out)
           replace BK230 := Aside0.mk (blk_drew BK230.out)
           replace BK246 := Aside0.mk (blk_drew BK246.out)
           replace BK260 := Aside0.mk (blk_drew BK260.out)
           replace HB := Aside0.mk (below_drew1 HB.out)
           have p272 : 0 ≤ (x69_2 : Int) := of_decide_eq_true (by first | (with_reducible assumption) | assumption)
           have q272 : x69_2 < (t266.length : Int) := of_decide_eq_true (by first | (with_reducible assumption) | assumption)
           obtain ⟨ad272, e272, hx272_0⟩ := Kd.at_int (Kd.R_reads' HO_11.out).2.2 x69_2 p272 q272
           cases e272
           replace p272 := eq_true p272
           replace q272 := eq_true q272
           have p273 : 0 ≤ (x69_2 : Int) := of_decide_eq_true (by first | (with_reducible assumption) | assumption)
           have q273 : x69_2 < (t269.length : Int) := of_decide_eq_true (by first | (with_reducible assumption) | assumption)
           obtain ⟨ad273, e273, hx273_0⟩ := Kd.at_int (Kd.R_reads' HO_12.out).2.2 x69_2 p273 q273
           cases e273
           replace p273 := eq_true p273
           replace q273 := eq_true q273
           refine start_ (n := 9) (S := fun w' => w'.cell? (ad272.add (x69_2).toNat) = some (.int .i64 (rd t266 x69_2)) ∧ w'.cell? (ad273.add (x69_2).toNat) = some (.int .i64 (rd t269 x69_2))) (ds := []) #[false, false, false, false, false, false, false, false, false] (by kernel_rfl) rfl rfl ⟨hx272_0, hx273_0⟩ (fun hHeld => ?_); refine with_tabW fuglemanlaw20_ConfigFinds.tab15 fuglemanlaw20_ConfigFinds.bits15 (fun HT_ HW_ => ?_)
           generalize wr.drew = w73 at HO_11 HO_12 HO_247003 HO_247004 HO_247005 HO_261003 HO_261004 HO_261005 BK230 BK246 BK260 HB hx272_0 hx273_0 hHeld ⊢
           refine pureK 0 (some 72) #[true, false, false, false, false, false, false, false, false] HT_ ?_
           refine pureK 1 (some 73) #[true, true, false, false, false, false, false, false, false] HT_ ?_
           refine pureK 2 (some 74) #[true, true, true, false, false, false, false, false, false] HT_ ?_
           refine pureK 4 (some 76) #[true, true, true, false, true, false, false, false, false] HT_ ?_
           refine pureK 5 (some 77) #[true, true, true, false, true, true, false, false, false] HT_ ?_
           refine pureK 6 (some 78) #[true, true, true, false, true, true, true, false, false] HT_ ?_
           refine takeK 3 (some 75) #[true, true, true, true, true, true, true, false, false] HT_ HW_ hHeld ?_ (hy := by (rintro w' ⟨s0, s1⟩; go_simp; with_reducible rfl))
           refine takeK 7 (some 79) #[true, true, true, true, true, true, true, true, false] HT_ HW_ hHeld ?_ (hy := by (rintro w' ⟨s0, s1⟩; go_simp; with_reducible rfl))
           refine pureK 8 (some 80) #[true, true, true, true, true, true, true, true, true] HT_ ?_
           refine done_ (done_of HT_.out (by kernel_rfl)) ?_
           try go_wp2
           go_ret
           exact sEnd HB
         ·rw [if_neg c70] at H
          exact absurd H (by simp)
        ·rw [if_neg c69] at H
         exact absurd H (by simp)
       ·rw [if_neg c68] at H
        exact absurd H (by simp)
      ·rw [if_neg c67] at H
       have c67b0 : decide (x69_2 < (t266.length : Int)) = false := decide_eq_false c67
       clear c67
       obtain rfl := Option.some.inj H
       go_wp2
       go_ret
       exact sEnd HB
   ·rw [if_neg c61] at H
    have c61b0 : ((t266.length : Int) == (t269.length : Int)) = false := beq_eq_false_iff_ne.mpr c61
    have c61b1 : ((t266.length : Int) != (t269.length : Int)) = true := bne_iff_ne.mpr c61
    have c61b2 : (t266.length == t269.length) = false := by first | simpa using c61 | (simp at c61 ⊢; omega)
    obtain rfl := Option.some.inj H
    try go_wp2
    replace HO_247003 := Aside0.mk (Kd.V_drew HO_247003.out)
    replace HO_247004 := Aside0.mk (Kd.V_drew HO_247004.out)
    replace HO_247005 := Aside0.mk (Kd.V_drew HO_247005.out)
    replace HO_261003 := Aside0.mk (Kd.V_drew HO_261003.out)
    replace HO_261004 := Aside0.mk (Kd.V_drew HO_261004.out)
    replace HO_261005 := Aside0.mk (Kd.V_drew HO_261005.out)
    replace BK230 := Aside0.mk (blk_drew BK230.out)
    replace BK246 := Aside0.mk (blk_drew BK246.out)
    replace BK260 := Aside0.mk (blk_drew BK260.out)
    replace HB := Aside0.mk (below_drew1 HB.out)
    refine start_ (n := 8) (S := fun w' => w'.cell? ⟨gb230, 0, none⟩ = some (.int .i64 a0_0) ∧ w'.cell? ⟨gb230, 1, none⟩ = some (.int .i64 a0_1) ∧ w'.cell? ⟨gb230, 2, none⟩ = some (.int .i64 a0_2) ∧ w'.cell? ⟨gb230, 3, none⟩ = some (.int .i64 a0_3) ∧ w'.cell? ⟨gb230, 4, none⟩ = some (.int .i64 a0_4) ∧ w'.cell? ⟨gb230, 5, none⟩ = some (.int .i64 a0_5) ∧ w'.cell? ⟨gb230, 6, none⟩ = some (.slice A0_6 l0_6.length c0_6) ∧ w'.cell? ⟨gb230, 7, none⟩ = some (.slice A0_7 l0_7.length c0_7) ∧ w'.cell? ⟨gb246, 0, none⟩ = some (.int .i64 t233) ∧ w'.cell? ⟨gb246, 1, none⟩ = some (.int .i64 t234) ∧ w'.cell? ⟨gb246, 2, none⟩ = some (.int .i64 t235) ∧ w'.cell? ⟨gb246, 3, none⟩ = some (.slice Ao20 t236.length co20) ∧ w'.cell? ⟨gb246, 4, none⟩ = some (.slice Ao21 t239.length co21) ∧ w'.cell? ⟨gb246, 5, none⟩ = some (.slice Ao22 t242.length co22) ∧ w'.cell? ⟨gb260, 0, none⟩ = some (.int .i64 t247) ∧ w'.cell? ⟨gb260, 1, none⟩ = some (.int .i64 t248) ∧ w'.cell? ⟨gb260, 2, none⟩ = some (.int .i64 t249) ∧ w'.cell? ⟨gb260, 3, none⟩ = some (.slice Ao30 t250.length co30) ∧ w'.cell? ⟨gb260, 4, none⟩ = some (.slice Ao31 t253.length co31) ∧ w'.cell? ⟨gb260, 5, none⟩ = some (.slice Ao32 t256.length co32)) (ds := []) #[false, false, false, false, false, false, false, false] (by kernel_rfl) rfl rfl ⟨sc BK230 0, sc BK230 1, sc BK230 2, sc BK230 3, sc BK230 4, sc BK230 5, sc BK230 6, sc BK230 7, sc BK246 0, sc BK246 1, sc BK246 2, sc BK246 3, sc BK246 4, sc BK246 5, sc BK260 0, sc BK260 1, sc BK260 2, sc BK260 3, sc BK260 4, sc BK260 5⟩ (fun hHeld => ?_); refine with_tabW fuglemanlaw20_ConfigFinds.tab9 fuglemanlaw20_ConfigFinds.bits9 (fun HT_ HW_ => ?_)
    generalize wc.drew = w74 at HO_247003 HO_247004 HO_247005 HO_261003 HO_261004 HO_261005 BK230 BK246 BK260 HB hHeld ⊢
    refine takeK 0 (some 56) #[true, false, false, false, false, false, false, false] HT_ HW_ hHeld ?_ (hy := by (rintro w' ⟨s0, s1, s2, s3, s4, s5, s6, s7, s8, s9, s10, s11, s12, s13, s14, s15, s16, s17, s18, s19⟩; go_simp; with_reducible rfl))
    refine takeK 1 (some 57) #[true, true, false, false, false, false, false, false] HT_ HW_ hHeld ?_ (hy := by (rintro w' ⟨s0, s1, s2, s3, s4, s5, s6, s7, s8, s9, s10, s11, s12, s13, s14, s15, s16, s17, s18, s19⟩; go_simp; with_reducible rfl))
    refine takeK 3 (some 59) #[true, true, false, true, false, false, false, false] HT_ HW_ hHeld ?_ (hy := by (rintro w' ⟨s0, s1, s2, s3, s4, s5, s6, s7, s8, s9, s10, s11, s12, s13, s14, s15, s16, s17, s18, s19⟩; go_simp; with_reducible rfl))
    refine takeK 4 (some 60) #[true, true, false, true, true, false, false, false] HT_ HW_ hHeld ?_ (hy := by (rintro w' ⟨s0, s1, s2, s3, s4, s5, s6, s7, s8, s9, s10, s11, s12, s13, s14, s15, s16, s17, s18, s19⟩; go_simp; with_reducible rfl))
    refine one_ (i := 2) (N := some 58) #[true, true, true, true, true, false, false, false] rfl rfl (one_of HT_.out (by kernel_rfl)) (by decide) (fun K hK => ?_)
    refine goesR Try.func17 #[.agg #[.int .i64 a0_0, .int .i64 a0_1, .int .i64 a0_2, .int .i64 a0_3, .int .i64 a0_4, .int .i64 a0_5, .slice A0_6 l0_6.length c0_6, .slice A0_7 l0_7.length c0_7], .agg #[.int .i64 t233, .int .i64 t234, .int .i64 t235, .slice Ao20 t236.length co20, .slice Ao21 t239.length co21, .slice Ao22 t242.length co22]] ?_
    with_reducible refine (config_Values.calls kj9 a0_0 a0_1 a0_2 a0_3 a0_4 a0_5 _ _ l0_6 _ _ l0_7 t233 t234 t235 _ _ t236 _ _ t239 _ _ t242 t266 _ ?side1 ?side2 ?side3 ?side4 ?side5 ?side6 ?side7 ?side8 ?side9 ?side10 A59.out).mono ?_
    (case side1 => exact sC HR0_6 HB)
    (case side2 => exact HC0_6.out)
    (case side3 => exact sC HR0_7 HB)
    (case side4 => exact HC0_7.out)
    (case side5 => repeat (first | exact (Kd.V_reads' HO_247003.out).2.2 | (with_reducible refine Kd.C_alloc ?_ _) | (with_reducible refine Kd.C_drewN ?_ _) | (with_reducible refine Kd.C_drew ?_)))
    (case side6 => exact (Kd.V_reads' HO_247003.out).2.1)
    (case side7 => repeat (first | exact (Kd.V_reads' HO_247004.out).2.2 | (with_reducible refine Kd.C_alloc ?_ _) | (with_reducible refine Kd.C_drewN ?_ _) | (with_reducible refine Kd.C_drew ?_)))
    (case side8 => exact (Kd.V_reads' HO_247004.out).2.1)
    (case side9 => repeat (first | exact (Kd.V_reads' HO_247005.out).2.2 | (with_reducible refine Kd.C_alloc ?_ _) | (with_reducible refine Kd.C_drewN ?_ _) | (with_reducible refine Kd.C_drew ?_)))
    (case side10 => exact (Kd.V_reads' HO_247005.out).2.1)
    rintro e w75 ⟨v267, rfl, ho0, hb⟩
    refine ⟨_, rfl, ?_⟩
    replace HO_247003 := Aside0.mk (Kd.V_elder' (by (with_reducible repeat (first | apply Kd.V_alloc | apply Kd.V_drewN | apply Kd.V_drew)); exact HO_247003.out) (Kd.R_base ho0) hb)
    replace HO_247004 := Aside0.mk (Kd.V_elder' (by (with_reducible repeat (first | apply Kd.V_alloc | apply Kd.V_drewN | apply Kd.V_drew)); exact HO_247004.out) (Kd.R_base ho0) hb)
    replace HO_247005 := Aside0.mk (Kd.V_elder' (by (with_reducible repeat (first | apply Kd.V_alloc | apply Kd.V_drewN | apply Kd.V_drew)); exact HO_247005.out) (Kd.R_base ho0) hb)
    replace HO_261003 := Aside0.mk (Kd.V_elder' (by (with_reducible repeat (first | apply Kd.V_alloc | apply Kd.V_drewN | apply Kd.V_drew)); exact HO_261003.out) (Kd.R_base ho0) hb)
    replace HO_261004 := Aside0.mk (Kd.V_elder' (by (with_reducible repeat (first | apply Kd.V_alloc | apply Kd.V_drewN | apply Kd.V_drew)); exact HO_261004.out) (Kd.R_base ho0) hb)
    replace HO_261005 := Aside0.mk (Kd.V_elder' (by (with_reducible repeat (first | apply Kd.V_alloc | apply Kd.V_drewN | apply Kd.V_drew)); exact HO_261005.out) (Kd.R_base ho0) hb)
    have HO268 := Aside0.mk (Kd.R_lower ho0 (below_size (by repeat (first | (with_reducible first | exact HB.out | apply below_alloc | apply pw_below_drewN | apply below_drew1 | refine below_set ?_ (Aside0.out (by assumption))) | exact HB.out))))
    replace BK230 := sK BK230 hb
    replace BK246 := sK BK246 hb
    replace BK260 := sK BK260 hb
    replace HB := sB HB hb
    (try clear hb)
    (try clear ho0)
    refine hK.out _ _ ⟨sc BK230 0, sc BK230 1, sc BK230 2, sc BK230 3, sc BK230 4, sc BK230 5, sc BK230 6, sc BK230 7, sc BK246 0, sc BK246 1, sc BK246 2, sc BK246 3, sc BK246 4, sc BK246 5, sc BK260 0, sc BK260 1, sc BK260 2, sc BK260 3, sc BK260 4, sc BK260 5⟩ (fun hHeld => ?_)
    clear hK K
    refine norm_ (a' := ?_) ?_ ?_
    rotate_left
    ·show Act.put _ (some 58) _ = _
     simp only [Act.put, List.setIfInBounds_toArray, List.set_cons_zero, List.set_cons_succ, i64_w, i32_w]
     rfl
    refine one_ (i := 5) (N := some 61) #[true, true, true, true, true, true, false, false] rfl rfl (one_of HT_.out (by kernel_rfl)) (by decide) (fun K hK => ?_)
    refine goesR Try.func18 #[.agg #[.int .i64 a0_0, .int .i64 a0_1, .int .i64 a0_2, .int .i64 a0_3, .int .i64 a0_4, .int .i64 a0_5, .slice A0_6 l0_6.length c0_6, .slice A0_7 l0_7.length c0_7], .agg #[.int .i64 t247, .int .i64 t248, .int .i64 t249, .slice Ao30 t250.length co30, .slice Ao31 t253.length co31, .slice Ao32 t256.length co32]] ?_
    with_reducible refine (fuglemanref20_Values.calls kj9 a0_0 a0_1 a0_2 a0_3 a0_4 a0_5 _ _ l0_6 _ _ l0_7 t247 t248 t249 _ _ t250 _ _ t253 _ _ t256 t269 _ ?side1 ?side2 ?side3 ?side4 ?side5 ?side6 ?side7 ?side8 ?side9 ?side10 A60.out).mono ?_
    (case side1 => exact sC HR0_6 HB)
    (case side2 => exact HC0_6.out)
    (case side3 => exact sC HR0_7 HB)
    (case side4 => exact HC0_7.out)
    (case side5 => repeat (first | exact (Kd.V_reads' HO_261003.out).2.2 | (with_reducible refine Kd.C_alloc ?_ _) | (with_reducible refine Kd.C_drewN ?_ _) | (with_reducible refine Kd.C_drew ?_)))
    (case side6 => exact (Kd.V_reads' HO_261003.out).2.1)
    (case side7 => repeat (first | exact (Kd.V_reads' HO_261004.out).2.2 | (with_reducible refine Kd.C_alloc ?_ _) | (with_reducible refine Kd.C_drewN ?_ _) | (with_reducible refine Kd.C_drew ?_)))
    (case side8 => exact (Kd.V_reads' HO_261004.out).2.1)
    (case side9 => repeat (first | exact (Kd.V_reads' HO_261005.out).2.2 | (with_reducible refine Kd.C_alloc ?_ _) | (with_reducible refine Kd.C_drewN ?_ _) | (with_reducible refine Kd.C_drew ?_)))
    (case side10 => exact (Kd.V_reads' HO_261005.out).2.1)
    rintro e w76 ⟨v270, rfl, ho0, hb⟩
    refine ⟨_, rfl, ?_⟩
    replace HO_247003 := Aside0.mk (Kd.V_elder' (by (with_reducible repeat (first | apply Kd.V_alloc | apply Kd.V_drewN | apply Kd.V_drew)); exact HO_247003.out) (Kd.R_base ho0) hb)
    replace HO_247004 := Aside0.mk (Kd.V_elder' (by (with_reducible repeat (first | apply Kd.V_alloc | apply Kd.V_drewN | apply Kd.V_drew)); exact HO_247004.out) (Kd.R_base ho0) hb)
    replace HO_247005 := Aside0.mk (Kd.V_elder' (by (with_reducible repeat (first | apply Kd.V_alloc | apply Kd.V_drewN | apply Kd.V_drew)); exact HO_247005.out) (Kd.R_base ho0) hb)
    replace HO_261003 := Aside0.mk (Kd.V_elder' (by (with_reducible repeat (first | apply Kd.V_alloc | apply Kd.V_drewN | apply Kd.V_drew)); exact HO_261003.out) (Kd.R_base ho0) hb)
    replace HO_261004 := Aside0.mk (Kd.V_elder' (by (with_reducible repeat (first | apply Kd.V_alloc | apply Kd.V_drewN | apply Kd.V_drew)); exact HO_261004.out) (Kd.R_base ho0) hb)
    replace HO_261005 := Aside0.mk (Kd.V_elder' (by (with_reducible repeat (first | apply Kd.V_alloc | apply Kd.V_drewN | apply Kd.V_drew)); exact HO_261005.out) (Kd.R_base ho0) hb)
    have HO271 := Aside0.mk (Kd.R_lower (Kd.R_new' ho0 (Kd.R_lt (by (with_reducible repeat (first | apply Kd.R_alloc | apply Kd.R_drewN | apply Kd.R_drew)); exact HO268.out))) (below_size (by repeat (first | (with_reducible first | exact HB.out | apply below_alloc | apply pw_below_drewN | apply below_drew1 | refine below_set ?_ (Aside0.out (by assumption))) | exact HB.out))))
    replace HO268 := Aside0.mk (Kd.R_elder' (by (with_reducible repeat (first | apply Kd.R_alloc | apply Kd.R_drewN | apply Kd.R_drew)); exact HO268.out) (Kd.R_base ho0) hb)
    replace BK230 := sK BK230 hb
    replace BK246 := sK BK246 hb
    replace BK260 := sK BK260 hb
    replace HB := sB HB hb
    (try clear hb)
    (try clear ho0)
    refine hK.out _ _ ⟨sc BK230 0, sc BK230 1, sc BK230 2, sc BK230 3, sc BK230 4, sc BK230 5, sc BK230 6, sc BK230 7, sc BK246 0, sc BK246 1, sc BK246 2, sc BK246 3, sc BK246 4, sc BK246 5, sc BK260 0, sc BK260 1, sc BK260 2, sc BK260 3, sc BK260 4, sc BK260 5⟩ (fun hHeld => ?_)
    clear hK K
    refine norm_ (a' := ?_) ?_ ?_
    rotate_left
    ·show Act.put _ (some 61) _ = _
     simp only [Act.put, List.setIfInBounds_toArray, List.set_cons_zero, List.set_cons_succ, i64_w, i32_w]
     rfl
    refine pureK 6 (some 11) #[true, true, true, true, true, true, true, false] HT_ ?_
    refine pureK 7 (some 12) #[true, true, true, true, true, true, true, true] HT_ ?_
    refine done_ (done_of HT_.out (by kernel_rfl)) ?_
    obtain ⟨Ao77, co77, eo77⟩ := Kd.R_slice HO268.out
    subst eo77
    obtain ⟨Ao78, co78, eo78⟩ := Kd.R_slice HO271.out
    subst eo78
    try go_wp2
    go_ret
    exact sEnd HB

end Go.Proofs.Ytedmikeamgebjaa.F
