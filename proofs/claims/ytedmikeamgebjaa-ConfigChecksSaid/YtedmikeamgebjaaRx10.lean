-- Written by a program out of the translation; not trusted: Lean checks it.
import Derived.Test.YtedmikeamgebjaaK
import Derived.Test.YtedmikeamgebjaaK2
import Derived.Test.YtedmikeamgebjaaRx0
import Derived.Test.YtedmikeamgebjaaRx6
import Derived.Test.YtedmikeamgebjaaRx7
import Derived.Test.YtedmikeamgebjaaRx8
import Derived.Test.YtedmikeamgebjaaRx9
namespace Go.Proofs.Ytedmikeamgebjaa.R
open Go.Proofs.YtedmikeamgebjaaW.PrintK Go.RowKit Go.Proofs.YtedmikeamgebjaaW.PrintWords Go.Proofs.YtedmikeamgebjaaW.PrintLast Go.Proofs.YtedmikeamgebjaaW.PrintMore
attribute [local go_sem] max2_int min2_int max_two min_two max_three min_three max_four min_four   -- for this text's walks alone
set_option linter.unusedVariables false
set_option linter.unusedSimpArgs false

/-! ### fuglemanref20_station: function 25 -/
mutual
def fuglemanref20_station.j0 : Nat → Int → Bool → Int → Int → Int → Int → Int → Int → List (S63) → List (S37) → Int → Int → Int → List (S54) → List (S56) → List (S56) → Option (Int)
 | 0, _, _, _, _, _, _, _, _, _, _, _, _, _, _, _, _ => none
 | k + 1, x1, x28, x205000, x205001, x205002, x205003, x205004, x205005, x205006, x205007, x207000, x207001, x207002, x207003, x207004, x207005 => if x28 = true then (some 3) else (fuglemanref20_station.l0 k x1 0 x205000 x205001 x205002 x205003 x205004 x205005 x205006 x205007 x207000 x207001 x207002 x207003 x207004 x207005)
def fuglemanref20_station.l0 : Nat → Int → Int → Int → Int → Int → Int → Int → Int → List (S63) → List (S37) → Int → Int → Int → List (S54) → List (S56) → List (S56) → Option (Int)
 | 0, _, _, _, _, _, _, _, _, _, _, _, _, _, _, _, _ => none
 | k + 1, x1, x6, x205000, x205001, x205002, x205003, x205004, x205005, x205006, x205007, x207000, x207001, x207002, x207003, x207004, x207005 => if x6 < x1 then (if 0 ≤ x6 then (if x6 < (x205007.length : Int) then (if ((rd_T37 x205007 x6).f0) = x207000 then (some 14) else (fuglemanref20_station.l0 k x1 (wrap64 (x6 + 1)) x205000 x205001 x205002 x205003 x205004 x205005 x205006 x205007 x207000 x207001 x207002 x207003 x207004 x207005)) else (none)) else (none)) else ((fuglemanref19_Lay.f k x207002 x207004 x205006 true).bind fun bt210 => (if bt210.1 = 0 then ((fuglemanref14_All.f x207003).bind fun bt212 => (if bt212.2.1 = 0 then ((fuglemanref19_Lay.f k 0 x207005 x205006 false).bind fun bt217 => (if bt217.1 = 0 then (fuglemanref20_station.l1 k 0 x205000 x205001 x205002 x205003 x205004 x205005 x205006 x205007 x207000 x207001 x207002 x207003 x207004 x207005) else (some bt217.1))) else (some bt212.2.1))) else (some bt210.1)))
def fuglemanref20_station.l1 : Nat → Int → Int → Int → Int → Int → Int → Int → List (S63) → List (S37) → Int → Int → Int → List (S54) → List (S56) → List (S56) → Option (Int)
 | 0, _, _, _, _, _, _, _, _, _, _, _, _, _, _, _ => none
 | k + 1, x9, x205000, x205001, x205002, x205003, x205004, x205005, x205006, x205007, x207000, x207001, x207002, x207003, x207004, x207005 => if x9 < (x207005.length : Int) then (if 0 ≤ x9 then ((fuglemanref16_Find.f k x205006 ((rd_T56 x207005 x9).f0)).bind fun bt220 => (if bt220.2.1 = x207000 then (fuglemanref20_station.l1 k (wrap64 (x9 + 1)) x205000 x205001 x205002 x205003 x205004 x205005 x205006 x205007 x207000 x207001 x207002 x207003 x207004 x207005) else (some 5))) else (none)) else (some 0)
end
def fuglemanref20_station.f (k : Nat) (a0_0 a0_1 a0_2 a0_3 a0_4 a0_5 : Int) (l0_6 : List (S63)) (l0_7 : List (S37)) (a1 : Int) : Option (Int) := if 0 ≤ a1 then (if a1 < (l0_7.length : Int) then ((fuglemanref20_in.f ((rd_T37 l0_7 a1).f0) 0 a0_5).bind fun t207 => (if t207 = true then ((fuglemanref20_in.f ((rd_T37 l0_7 a1).f1) 1 1000).bind fun t208 => (fuglemanref20_station.j0 k a1 (!t208) a0_0 a0_1 a0_2 a0_3 a0_4 a0_5 l0_6 l0_7 ((rd_T37 l0_7 a1).f0) ((rd_T37 l0_7 a1).f1) ((rd_T37 l0_7 a1).f2) ((rd_T37 l0_7 a1).f3) ((rd_T37 l0_7 a1).f4) ((rd_T37 l0_7 a1).f5))) else (fuglemanref20_station.j0 k a1 true a0_0 a0_1 a0_2 a0_3 a0_4 a0_5 l0_6 l0_7 ((rd_T37 l0_7 a1).f0) ((rd_T37 l0_7 a1).f1) ((rd_T37 l0_7 a1).f2) ((rd_T37 l0_7 a1).f3) ((rd_T37 l0_7 a1).f4) ((rd_T37 l0_7 a1).f5)))) else (none)) else (none)
theorem fuglemanref20_station.mono_l : ∀ k, (∀ y0 y1 y2 y3 y4 y5 y6 y7 y8 y9 y10 y11 y12 y13 y14 y15, LeO (fuglemanref20_station.j0 k y0 y1 y2 y3 y4 y5 y6 y7 y8 y9 y10 y11 y12 y13 y14 y15) (fuglemanref20_station.j0 (k + 1) y0 y1 y2 y3 y4 y5 y6 y7 y8 y9 y10 y11 y12 y13 y14 y15)) ∧ (∀ y0 y1 y2 y3 y4 y5 y6 y7 y8 y9 y10 y11 y12 y13 y14 y15, LeO (fuglemanref20_station.l0 k y0 y1 y2 y3 y4 y5 y6 y7 y8 y9 y10 y11 y12 y13 y14 y15) (fuglemanref20_station.l0 (k + 1) y0 y1 y2 y3 y4 y5 y6 y7 y8 y9 y10 y11 y12 y13 y14 y15)) ∧ (∀ y0 y1 y2 y3 y4 y5 y6 y7 y8 y9 y10 y11 y12 y13 y14, LeO (fuglemanref20_station.l1 k y0 y1 y2 y3 y4 y5 y6 y7 y8 y9 y10 y11 y12 y13 y14) (fuglemanref20_station.l1 (k + 1) y0 y1 y2 y3 y4 y5 y6 y7 y8 y9 y10 y11 y12 y13 y14))
 | 0 => ⟨fun _ _ _ _ _ _ _ _ _ _ _ _ _ _ _ _ r h => by simp [fuglemanref20_station.j0] at h, fun _ _ _ _ _ _ _ _ _ _ _ _ _ _ _ _ r h => by simp [fuglemanref20_station.l0] at h, fun _ _ _ _ _ _ _ _ _ _ _ _ _ _ _ r h => by simp [fuglemanref20_station.l1] at h⟩
 | k + 1 => by
  obtain ⟨ih0, ih1, ih2⟩ := fuglemanref20_station.mono_l k
  refine ⟨?_, ?_, ?_⟩
  ·intro y0 y1 y2 y3 y4 y5 y6 y7 y8 y9 y10 y11 y12 y13 y14 y15
   unfold fuglemanref20_station.j0
   repeat' first
   | (with_reducible exact ih0 _ _ _ _ _ _ _ _ _ _ _ _ _ _ _ _)
   | (with_reducible exact ih1 _ _ _ _ _ _ _ _ _ _ _ _ _ _ _ _)
   | (with_reducible exact ih2 _ _ _ _ _ _ _ _ _ _ _ _ _ _ _)
   | (with_reducible exact fuglemanref16_Find.mono _ _ _)
   | (with_reducible exact fuglemanref19_Lay.mono _ _ _ _ _)
   | (with_reducible exact LeO.refl _)
   | (with_reducible exact LeO.none _)
   | (with_reducible refine LeO.ite ?_ ?_)
   | (with_reducible refine LeO.bind ?_ (fun _ => ?_))
   | exact ih0 _ _ _ _ _ _ _ _ _ _ _ _ _ _ _ _
   | exact ih1 _ _ _ _ _ _ _ _ _ _ _ _ _ _ _ _
   | exact ih2 _ _ _ _ _ _ _ _ _ _ _ _ _ _ _
   | exact fuglemanref16_Find.mono _ _ _
   | exact fuglemanref19_Lay.mono _ _ _ _ _
   | exact LeO.none _
   | refine LeO.ite ?_ ?_
   | refine LeO.bind ?_ (fun _ => ?_)
  ·intro y0 y1 y2 y3 y4 y5 y6 y7 y8 y9 y10 y11 y12 y13 y14 y15
   unfold fuglemanref20_station.l0
   repeat' first
   | (with_reducible exact ih0 _ _ _ _ _ _ _ _ _ _ _ _ _ _ _ _)
   | (with_reducible exact ih1 _ _ _ _ _ _ _ _ _ _ _ _ _ _ _ _)
   | (with_reducible exact ih2 _ _ _ _ _ _ _ _ _ _ _ _ _ _ _)
   | (with_reducible exact fuglemanref16_Find.mono _ _ _)
   | (with_reducible exact fuglemanref19_Lay.mono _ _ _ _ _)
   | (with_reducible exact LeO.refl _)
   | (with_reducible exact LeO.none _)
   | (with_reducible refine LeO.ite ?_ ?_)
   | (with_reducible refine LeO.bind ?_ (fun _ => ?_))
   | exact ih0 _ _ _ _ _ _ _ _ _ _ _ _ _ _ _ _
   | exact ih1 _ _ _ _ _ _ _ _ _ _ _ _ _ _ _ _
   | exact ih2 _ _ _ _ _ _ _ _ _ _ _ _ _ _ _
   | exact fuglemanref16_Find.mono _ _ _
   | exact fuglemanref19_Lay.mono _ _ _ _ _
   | exact LeO.none _
   | refine LeO.ite ?_ ?_
   | refine LeO.bind ?_ (fun _ => ?_)
  ·intro y0 y1 y2 y3 y4 y5 y6 y7 y8 y9 y10 y11 y12 y13 y14
   unfold fuglemanref20_station.l1
   repeat' first
   | (with_reducible exact ih0 _ _ _ _ _ _ _ _ _ _ _ _ _ _ _ _)
   | (with_reducible exact ih1 _ _ _ _ _ _ _ _ _ _ _ _ _ _ _ _)
   | (with_reducible exact ih2 _ _ _ _ _ _ _ _ _ _ _ _ _ _ _)
   | (with_reducible exact fuglemanref16_Find.mono _ _ _)
   | (with_reducible exact fuglemanref19_Lay.mono _ _ _ _ _)
   | (with_reducible exact LeO.refl _)
   | (with_reducible exact LeO.none _)
   | (with_reducible refine LeO.ite ?_ ?_)
   | (with_reducible refine LeO.bind ?_ (fun _ => ?_))
   | exact ih0 _ _ _ _ _ _ _ _ _ _ _ _ _ _ _ _
   | exact ih1 _ _ _ _ _ _ _ _ _ _ _ _ _ _ _ _
   | exact ih2 _ _ _ _ _ _ _ _ _ _ _ _ _ _ _
   | exact fuglemanref16_Find.mono _ _ _
   | exact fuglemanref19_Lay.mono _ _ _ _ _
   | exact LeO.none _
   | refine LeO.ite ?_ ?_
   | refine LeO.bind ?_ (fun _ => ?_)
theorem fuglemanref20_station.mono : ∀ a0 a1 a2 a3 a4 a5 a6 a7 a8 k, LeO (fuglemanref20_station.f k a0 a1 a2 a3 a4 a5 a6 a7 a8) (fuglemanref20_station.f (k + 1) a0 a1 a2 a3 a4 a5 a6 a7 a8) := by
 intro a0 a1 a2 a3 a4 a5 a6 a7 a8 k
 obtain ⟨ih0, ih1, ih2⟩ := fuglemanref20_station.mono_l k
 unfold fuglemanref20_station.f
 repeat' first
   | (with_reducible exact ih0 _ _ _ _ _ _ _ _ _ _ _ _ _ _ _ _)
   | (with_reducible exact ih1 _ _ _ _ _ _ _ _ _ _ _ _ _ _ _ _)
   | (with_reducible exact ih2 _ _ _ _ _ _ _ _ _ _ _ _ _ _ _)
   | (with_reducible exact fuglemanref16_Find.mono _ _ _)
   | (with_reducible exact fuglemanref19_Lay.mono _ _ _ _ _)
   | (with_reducible exact LeO.refl _)
   | (with_reducible exact LeO.none _)
   | (with_reducible refine LeO.ite ?_ ?_)
   | (with_reducible refine LeO.bind ?_ (fun _ => ?_))
   | exact ih0 _ _ _ _ _ _ _ _ _ _ _ _ _ _ _ _
   | exact ih1 _ _ _ _ _ _ _ _ _ _ _ _ _ _ _ _
   | exact ih2 _ _ _ _ _ _ _ _ _ _ _ _ _ _ _
   | exact fuglemanref16_Find.mono _ _ _
   | exact fuglemanref19_Lay.mono _ _ _ _ _
   | exact LeO.none _
   | refine LeO.ite ?_ ?_
   | refine LeO.bind ?_ (fun _ => ?_)
def fuglemanref20_station.T7 : Bool × List (List Nat × List Nat) := (true, [([], []), ([0], [0]), ([], []), ([1, 2], [1, 2]), ([3], [3]), ([4], [4]), ([], []), ([6], [6]), ([5, 7], [5, 7])])
def fuglemanref20_station.B7 : List Nat := [0, 1, 0, 7, 15, 31, 0, 64, 255]
theorem fuglemanref20_station.tab7 : rtab .any (opsOf Try.f25 7) = fuglemanref20_station.T7 := by kernel_rfl
theorem fuglemanref20_station.bits7 : waitsOk fuglemanref20_station.T7.2 fuglemanref20_station.B7 = true := by kernel_rfl
def fuglemanref20_station.T21 : Bool × List (List Nat × List Nat) := (true, [([], []), ([0], [0]), ([], []), ([2], [2]), ([], []), ([3, 4], [3, 4]), ([5], [5]), ([6], [6]), ([1, 7], [1, 7]), ([8], [8]), ([9], [9]), ([9], [9]), ([], []), ([12, 10, 8, 0, 1, 2, 3, 4, 5, 6, 7, 8, 9, 10, 12], [10, 12]), ([11, 13, 0, 1, 2, 3, 4, 5, 6, 7, 8, 9, 10, 11, 12, 13], [11])])
def fuglemanref20_station.B21 : List Nat := [0, 1, 0, 4, 0, 28, 60, 124, 255, 511, 1023, 1023, 0, 6143, 16383]
theorem fuglemanref20_station.tab21 : rtab .any (opsOf Try.f25 21) = fuglemanref20_station.T21 := by kernel_rfl
theorem fuglemanref20_station.bits21 : waitsOk fuglemanref20_station.T21.2 fuglemanref20_station.B21 = true := by kernel_rfl
set_option maxHeartbeats 8000000 in
set_option maxRecDepth 100000 in
theorem fuglemanref20_station.calls (k : Nat) (a0_0 a0_1 a0_2 a0_3 a0_4 a0_5 : Int) (A0_6 : Option Addr) (c0_6 : Nat) (l0_6 : List (S63)) (A0_7 : Option Addr) (c0_7 : Nat) (l0_7 : List (S37)) (a1 r : Int) (w : World) (hr0_6 : Kd.C k63 w A0_6 l0_6.length l0_6) (hc0_6 : l0_6.length ≤ c0_6) (hr0_7 : Kd.C k37 w A0_7 l0_7.length l0_7) (hc0_7 : l0_7.length ≤ c0_7) (h : fuglemanref20_station.f k a0_0 a0_1 a0_2 a0_3 a0_4 a0_5 l0_6 l0_7 a1 = some r) :
  Calls Try.prog 25 #[.agg #[.int .i64 a0_0, .int .i64 a0_1, .int .i64 a0_2, .int .i64 a0_3, .int .i64 a0_4, .int .i64 a0_5, .slice A0_6 l0_6.length c0_6, .slice A0_7 l0_7.length c0_7], .int .i64 a1] w fun e w' => e = .returned (.int .i64 r) ∧ Below w.heap.size w w' := by
 have hu25 := Try.underlying25
 have hu37 := Try.underlying37
 have hu63 := Try.underlying63
 have HR0_6 := Aside0.mk hr0_6
 have HC0_6 := Aside0.mk hc0_6
 clear hr0_6 hc0_6
 have HR0_7 := Aside0.mk hr0_7
 have HC0_7 := Aside0.mk hc0_7
 clear hr0_7 hc0_7
 have HB := Aside0.mk (Below.refl w.heap.size w)
 have H : (if 0 ≤ a1 then (if a1 < (l0_7.length : Int) then ((fuglemanref20_in.f ((rd_T37 l0_7 a1).f0) 0 a0_5).bind fun t207 => (if t207 = true then ((fuglemanref20_in.f ((rd_T37 l0_7 a1).f1) 1 1000).bind fun t208 => (fuglemanref20_station.j0 k a1 (!t208) a0_0 a0_1 a0_2 a0_3 a0_4 a0_5 l0_6 l0_7 ((rd_T37 l0_7 a1).f0) ((rd_T37 l0_7 a1).f1) ((rd_T37 l0_7 a1).f2) ((rd_T37 l0_7 a1).f3) ((rd_T37 l0_7 a1).f4) ((rd_T37 l0_7 a1).f5))) else (fuglemanref20_station.j0 k a1 true a0_0 a0_1 a0_2 a0_3 a0_4 a0_5 l0_6 l0_7 ((rd_T37 l0_7 a1).f0) ((rd_T37 l0_7 a1).f1) ((rd_T37 l0_7 a1).f2) ((rd_T37 l0_7 a1).f3) ((rd_T37 l0_7 a1).f4) ((rd_T37 l0_7 a1).f5)))) else (none)) else (none)) = some r := h
 clear h
 by_cases c3 : 0 ≤ a1
 case neg =>
  rw [if_neg c3] at H
  exact absurd H (by simp)
 rw [if_pos c3] at H
 have c3b0 : decide (0 ≤ a1) = true := decide_eq_true c3
 clear c3
 by_cases c4 : a1 < (l0_7.length : Int)
 case neg =>
  rw [if_neg c4] at H
  exact absurd H (by simp)
 rw [if_pos c4] at H
 have c4b0 : decide (a1 < (l0_7.length : Int)) = true := decide_eq_true c4
 clear c4
 have HC5 := Aside0.mk H
 clear H
 go_enter Try.func25, Try.ntmps25
 go_upto_region 2 with (first | ((with_reducible refine gate_dst (N := 2) rfl ?_); refine boxK (N := 2) (#[.int .i64 a0_0, .int .i64 a0_1, .int .i64 a0_2, .int .i64 a0_3, .int .i64 a0_4, .int .i64 a0_5, .slice A0_6 l0_6.length c0_6, .slice A0_7 l0_7.length c0_7]) 25 ?_; intro gb204 hg w6 hbox hb; have BK204 := Aside0.mk (hbox); have GW204 := sG hg HB; have GE204 := sG hg HB; replace HB := sB HB hb; clear hb hbox hg; have z7 := bk8 BK204; have p205 : 0 ≤ (a1 : Int) := of_decide_eq_true (by first | (with_reducible assumption) | assumption); have q205 : a1 < (l0_7.length : Int) := of_decide_eq_true (by first | (with_reducible assumption) | assumption); obtain ⟨ad205, A205_3, c205_3, A205_4, c205_4, A205_5, c205_5, e205, hx205_0, hx205_1, hx205_2, hx205_3, hx205_4, hx205_5, hl205_3, hi205_3, hl205_4, hi205_4, hl205_5, hi205_5⟩ := at_T37 HR0_7.out a1 p205 q205; cases e205; replace hx205_0 := (HB.out.cell (World.block_lt_of_cell? w _ hx205_0)).trans hx205_0; replace hx205_1 := (HB.out.cell (World.block_lt_of_cell? w _ hx205_1)).trans hx205_1; replace hx205_2 := (HB.out.cell (World.block_lt_of_cell? w _ hx205_2)).trans hx205_2; replace hx205_3 := (HB.out.cell (World.block_lt_of_cell? w _ hx205_3)).trans hx205_3; replace hx205_4 := (HB.out.cell (World.block_lt_of_cell? w _ hx205_4)).trans hx205_4; replace hx205_5 := (HB.out.cell (World.block_lt_of_cell? w _ hx205_5)).trans hx205_5; have HR205_3 := Aside0.mk hi205_3; have HC205_3 := Aside0.mk hl205_3; clear hi205_3 hl205_3; have HR205_4 := Aside0.mk hi205_4; have HC205_4 := Aside0.mk hl205_4; clear hi205_4 hl205_4; have HR205_5 := Aside0.mk hi205_5; have HC205_5 := Aside0.mk hl205_5; clear hi205_5 hl205_5; replace p205 := eq_true p205; replace q205 := eq_true q205) | ((with_reducible refine gate_dst (N := 5) rfl ?_); refine boxK (N := 5) (#[.int .i64 0, .int .i64 0, .int .i64 0, .slice none 0 0, .slice none 0 0, .slice none 0 0]) 37 ?_; intro gb206 hg w8 hbox hb; have BK206 := Aside0.mk (hbox); have GW206 := sG hg HB; have GE206 := sG hg HB; replace HB := sB HB hb; have NB204_206 := sNl hg BK204; have NB206_204 := sNg hg BK204; replace BK204 := sK BK204 hb; clear hb hbox hg; have hnb9 := NB206_204.out; have hnc9 := NB204_206.out; have z10 := bk6 BK206))
 (try simp only [Act.put, List.setIfInBounds_toArray, List.set_cons_zero, List.set_cons_succ])
 go_cut [28] (fun v28 wc => ∃ (kq : Nat) (x28_4 : Bool), v28 = .bool x28_4 ∧ Aside0 (fuglemanref20_station.j0 kq a1 x28_4 a0_0 a0_1 a0_2 a0_3 a0_4 a0_5 l0_6 l0_7 ((rd_T37 l0_7 a1).f0) ((rd_T37 l0_7 a1).f1) ((rd_T37 l0_7 a1).f2) ((rd_T37 l0_7 a1).f3) ((rd_T37 l0_7 a1).f4) ((rd_T37 l0_7 a1).f5) = some r) ∧ Aside0 (kq ≤ k) ∧ Aside0 (wc.heap[gb204]? = some (.cells #[.int .i64 a0_0, .int .i64 a0_1, .int .i64 a0_2, .int .i64 a0_3, .int .i64 a0_4, .int .i64 a0_5, (.slice A0_6 l0_6.length c0_6), (.slice (some ad205) l0_7.length c0_7)] 25 (0, 0))) ∧ Aside0 (wc.heap[gb206]? = some (.cells #[.int .i64 ((rd_T37 l0_7 a1).f0), .int .i64 ((rd_T37 l0_7 a1).f1), .int .i64 ((rd_T37 l0_7 a1).f2), (.slice A205_3 ((rd_T37 l0_7 a1).f3).length c205_3), (.slice A205_4 ((rd_T37 l0_7 a1).f4).length c205_4), (.slice A205_5 ((rd_T37 l0_7 a1).f5).length c205_5)] 37 (0, 0))) ∧ Aside0 (Below w.heap.size w wc))
 case first =>
  have H := HC5.out
  clear HC5
  replace H := Option.bind_eq_some_iff.mp H
  obtain ⟨t207, A110, H⟩ := H
  replace H : (if t207 = true then ((fuglemanref20_in.f ((rd_T37 l0_7 a1).f1) 1 1000).bind fun t208 => (fuglemanref20_station.j0 k a1 (!t208) a0_0 a0_1 a0_2 a0_3 a0_4 a0_5 l0_6 l0_7 ((rd_T37 l0_7 a1).f0) ((rd_T37 l0_7 a1).f1) ((rd_T37 l0_7 a1).f2) ((rd_T37 l0_7 a1).f3) ((rd_T37 l0_7 a1).f4) ((rd_T37 l0_7 a1).f5))) else (fuglemanref20_station.j0 k a1 true a0_0 a0_1 a0_2 a0_3 a0_4 a0_5 l0_6 l0_7 ((rd_T37 l0_7 a1).f0) ((rd_T37 l0_7 a1).f1) ((rd_T37 l0_7 a1).f2) ((rd_T37 l0_7 a1).f3) ((rd_T37 l0_7 a1).f4) ((rd_T37 l0_7 a1).f5))) = some r := H
  have A11 := Aside0.mk A110
  clear A110
  by_cases c12 : t207 = true
  case neg =>
   replace c12 := Bool.eq_false_iff.mpr c12
   subst c12
   rw [if_neg (show ¬ (false = true) by decide)] at H
   have H' := Aside0.mk H
   clear H
   have hnb17 := NB206_204.out
   have hnc17 := NB204_206.out
   have z18 := bk6 BK206
   have z19 := bk8 BK204
   go_wp2_with (first | ((with_reducible refine gate_callee (f := 23) rfl ?_); refine goesK (some 21) Try.func23 #[.int .i64 ((rd_T37 l0_7 a1).f0), .int .i64 0, .int .i64 a0_5] ?_; (with_reducible refine (fuglemanref20_in.calls ((rd_T37 l0_7 a1).f0) 0 a0_5 false _ A11.out).mono ?_); rintro e w' ⟨rfl, ⟨nd, rfl⟩⟩; refine ⟨_, rfl, ?_⟩))
   go_meet
   case rel => exact ⟨_, (true), (by first | rfl | (simp; done) | (simp [*]; done)), H', ⟨by first | omega | exact Nat.le_refl _⟩, (sKq0 BK204), (sKq0 BK206), (sB0 HB)⟩
  subst c12
  rw [if_pos rfl] at H
  replace H := Option.bind_eq_some_iff.mp H
  obtain ⟨t208, A130, H⟩ := H
  replace H : (fuglemanref20_station.j0 k a1 (!t208) a0_0 a0_1 a0_2 a0_3 a0_4 a0_5 l0_6 l0_7 ((rd_T37 l0_7 a1).f0) ((rd_T37 l0_7 a1).f1) ((rd_T37 l0_7 a1).f2) ((rd_T37 l0_7 a1).f3) ((rd_T37 l0_7 a1).f4) ((rd_T37 l0_7 a1).f5)) = some r := H
  have A13 := Aside0.mk A130
  clear A130
  have H' := Aside0.mk H
  clear H
  have hnb14 := NB206_204.out
  have hnc14 := NB204_206.out
  have z15 := bk6 BK206
  have z16 := bk8 BK204
  go_wp2_with (first | ((with_reducible refine gate_callee (f := 23) rfl ?_); refine goesK (some 21) Try.func23 #[.int .i64 ((rd_T37 l0_7 a1).f0), .int .i64 0, .int .i64 a0_5] ?_; (with_reducible refine (fuglemanref20_in.calls ((rd_T37 l0_7 a1).f0) 0 a0_5 true _ A11.out).mono ?_); rintro e w' ⟨rfl, ⟨nd, rfl⟩⟩; refine ⟨_, rfl, ?_⟩) | (go_at_call 23; (with_reducible refine (fuglemanref20_in.calls ((rd_T37 l0_7 a1).f1) 1 1000 t208 _ A13.out).mono ?_); rintro e w' ⟨rfl, ⟨nd, rfl⟩⟩))
  go_meet
  case rel => exact ⟨_, (!t208), (by first | rfl | (simp; done) | (simp [*]; done)), H', ⟨by first | omega | exact Nat.le_refl _⟩, (sKq0 BK204), (sKq0 BK206), (sB0 HB)⟩
 clear HC5
 (try clear c3); (try clear c3b0); (try clear c4); (try clear c4b0); (try clear c12); (try clear hx205_0); (try clear hx205_1); (try clear hx205_2); (try clear hx205_3); (try clear hx205_4); (try clear hx205_5); (try clear p205); (try clear q205)
 obtain ⟨kq, x28_4, rfl, HA, HJ4, BK204, BK206, HB⟩ := hcut
 cases kq with
 | zero => exact absurd HA.out (by simp [fuglemanref20_station.j0])
 | succ kj4 =>
  have H := HA.out
  clear HA
  simp only [fuglemanref20_station.j0] at H
  by_cases c20 : x28_4 = true
  ·subst c20
   rw [if_pos rfl] at H
   obtain rfl := Option.some.inj H
   go_wp2
   go_ret
   exact sEnd HB
  ·replace c20 := Bool.eq_false_iff.mpr c20
   subst c20
   rw [if_neg (show ¬ (false = true) by decide)] at H
   have H' := Aside0.mk H
   clear H
   go_wp2
   go_loopg [6] kj4 (fun kq v6 w' => ∃ (x6_2 : Int), v6 = .int .i64 x6_2 ∧ Aside0 (fuglemanref20_station.l0 kq a1 x6_2 a0_0 a0_1 a0_2 a0_3 a0_4 a0_5 l0_6 l0_7 ((rd_T37 l0_7 a1).f0) ((rd_T37 l0_7 a1).f1) ((rd_T37 l0_7 a1).f2) ((rd_T37 l0_7 a1).f3) ((rd_T37 l0_7 a1).f4) ((rd_T37 l0_7 a1).f5) = some r) ∧ Aside0 (kq ≤ kj4) ∧ Aside0 (w'.heap[gb204]? = some (.cells #[.int .i64 a0_0, .int .i64 a0_1, .int .i64 a0_2, .int .i64 a0_3, .int .i64 a0_4, .int .i64 a0_5, (.slice A0_6 l0_6.length c0_6), (.slice (some ad205) l0_7.length c0_7)] 25 (0, 0))) ∧ Aside0 (w'.heap[gb206]? = some (.cells #[.int .i64 ((rd_T37 l0_7 a1).f0), .int .i64 ((rd_T37 l0_7 a1).f1), .int .i64 ((rd_T37 l0_7 a1).f2), (.slice A205_3 ((rd_T37 l0_7 a1).f3).length c205_3), (.slice A205_4 ((rd_T37 l0_7 a1).f4).length c205_4), (.slice A205_5 ((rd_T37 l0_7 a1).f5).length c205_5)] 37 (0, 0))) ∧ Aside0 (Below w.heap.size w w'))
   case atStart => exact ⟨(0), (by first | rfl | (simp; done) | (simp [*]; done)), H', ⟨Nat.le_refl _⟩, (sK0 BK204), (sK0 BK206), (sB0 HB)⟩
   case round =>
    clear H'
    (try clear c3); (try clear c3b0); (try clear c4); (try clear c4b0); (try clear c12); (try clear c20); (try clear hx205_0); (try clear hx205_1); (try clear hx205_2); (try clear hx205_3); (try clear hx205_4); (try clear hx205_5); (try clear p205); (try clear q205)
    obtain ⟨x6_2, rfl, HA, HK2, BK204, BK206, HB⟩ := hrel
    cases gk with
    | zero => exact absurd HA.out (by simp [fuglemanref20_station.l0])
    | succ k2 =>
     have H := HA.out
     clear HA
     simp only [fuglemanref20_station.l0] at H
     by_cases c21 : x6_2 < a1
     ·rw [if_pos c21] at H
      have c21b0 : decide (x6_2 < a1) = true := decide_eq_true c21
      clear c21
      by_cases c22 : 0 ≤ x6_2
      ·rw [if_pos c22] at H
       have c22b0 : decide (0 ≤ x6_2) = true := decide_eq_true c22
       clear c22
       by_cases c23 : x6_2 < (l0_7.length : Int)
       ·rw [if_pos c23] at H
        have c23b0 : decide (x6_2 < (l0_7.length : Int)) = true := decide_eq_true c23
        clear c23
        by_cases c24 : ((rd_T37 l0_7 x6_2).f0) = ((rd_T37 l0_7 a1).f0)
        ·rw [if_pos c24] at H
         have c24b0 : (((rd_T37 l0_7 x6_2).f0) == ((rd_T37 l0_7 a1).f0)) = true := beq_iff_eq.mpr c24
         have c24b1 : (((rd_T37 l0_7 x6_2).f0) != ((rd_T37 l0_7 a1).f0)) = false := bne_eq_false_iff_eq.mpr c24
         clear c24
         obtain rfl := Option.some.inj H
         try go_wp2
         replace BK204 := Aside0.mk (blk_drew BK204.out)
         replace BK206 := Aside0.mk (blk_drew BK206.out)
         replace HB := Aside0.mk (below_drew1 HB.out)
         have p209 : 0 ≤ (x6_2 : Int) := of_decide_eq_true (by first | (with_reducible assumption) | assumption)
         have q209 : x6_2 < (l0_7.length : Int) := of_decide_eq_true (by first | (with_reducible assumption) | assumption)
         obtain ⟨ad209, A209_3, c209_3, A209_4, c209_4, A209_5, c209_5, e209, hx209_0, hx209_1, hx209_2, hx209_3, hx209_4, hx209_5, hl209_3, hi209_3, hl209_4, hi209_4, hl209_5, hi209_5⟩ := at_T37 HR0_7.out x6_2 p209 q209
         have hw209_5 := hx209_5
         have hw209_4 := hx209_4
         have hw209_3 := hx209_3
         have hw209_2 := hx209_2
         have hw209_1 := hx209_1
         have hw209_0 := hx209_0
         obtain rfl : ad205 = ad209 := (by injection e209)
         replace hx209_0 := (HB.out.cell (World.block_lt_of_cell? w _ hx209_0)).trans hx209_0
         replace hx209_1 := (HB.out.cell (World.block_lt_of_cell? w _ hx209_1)).trans hx209_1
         replace hx209_2 := (HB.out.cell (World.block_lt_of_cell? w _ hx209_2)).trans hx209_2
         replace hx209_3 := (HB.out.cell (World.block_lt_of_cell? w _ hx209_3)).trans hx209_3
         replace hx209_4 := (HB.out.cell (World.block_lt_of_cell? w _ hx209_4)).trans hx209_4
         replace hx209_5 := (HB.out.cell (World.block_lt_of_cell? w _ hx209_5)).trans hx209_5
         have HR209_3 := Aside0.mk hi209_3
         have HC209_3 := Aside0.mk hl209_3
         clear hi209_3 hl209_3
         have HR209_4 := Aside0.mk hi209_4
         have HC209_4 := Aside0.mk hl209_4
         clear hi209_4 hl209_4
         have HR209_5 := Aside0.mk hi209_5
         have HC209_5 := Aside0.mk hl209_5
         clear hi209_5 hl209_5
         replace p209 := eq_true p209
         replace q209 := eq_true q209
         refine start_ (n := 9) (S := fun w' => w'.cell? ⟨gb204, 0, none⟩ = some (.int .i64 a0_0) ∧ w'.cell? ⟨gb204, 1, none⟩ = some (.int .i64 a0_1) ∧ w'.cell? ⟨gb204, 2, none⟩ = some (.int .i64 a0_2) ∧ w'.cell? ⟨gb204, 3, none⟩ = some (.int .i64 a0_3) ∧ w'.cell? ⟨gb204, 4, none⟩ = some (.int .i64 a0_4) ∧ w'.cell? ⟨gb204, 5, none⟩ = some (.int .i64 a0_5) ∧ w'.cell? ⟨gb204, 6, none⟩ = some (.slice A0_6 l0_6.length c0_6) ∧ w'.cell? ⟨gb204, 7, none⟩ = some (.slice (some ad205) l0_7.length c0_7) ∧ w'.cell? ⟨gb206, 0, none⟩ = some (.int .i64 ((rd_T37 l0_7 a1).f0)) ∧ w'.cell? ⟨gb206, 1, none⟩ = some (.int .i64 ((rd_T37 l0_7 a1).f1)) ∧ w'.cell? ⟨gb206, 2, none⟩ = some (.int .i64 ((rd_T37 l0_7 a1).f2)) ∧ w'.cell? ⟨gb206, 3, none⟩ = some (.slice A205_3 ((rd_T37 l0_7 a1).f3).length c205_3) ∧ w'.cell? ⟨gb206, 4, none⟩ = some (.slice A205_4 ((rd_T37 l0_7 a1).f4).length c205_4) ∧ w'.cell? ⟨gb206, 5, none⟩ = some (.slice A205_5 ((rd_T37 l0_7 a1).f5).length c205_5) ∧ w'.cell? (ad205.add ((x6_2).toNat * 6)) = some (.int .i64 ((rd_T37 l0_7 x6_2).f0)) ∧ w'.cell? ⟨(ad205.add ((x6_2).toNat * 6)).block, (ad205.add ((x6_2).toNat * 6)).off + 1, none⟩ = some (.int .i64 ((rd_T37 l0_7 x6_2).f1)) ∧ w'.cell? ⟨(ad205.add ((x6_2).toNat * 6)).block, (ad205.add ((x6_2).toNat * 6)).off + 2, none⟩ = some (.int .i64 ((rd_T37 l0_7 x6_2).f2)) ∧ w'.cell? ⟨(ad205.add ((x6_2).toNat * 6)).block, (ad205.add ((x6_2).toNat * 6)).off + 3, none⟩ = some (.slice A209_3 ((rd_T37 l0_7 x6_2).f3).length c209_3) ∧ w'.cell? ⟨(ad205.add ((x6_2).toNat * 6)).block, (ad205.add ((x6_2).toNat * 6)).off + 4, none⟩ = some (.slice A209_4 ((rd_T37 l0_7 x6_2).f4).length c209_4) ∧ w'.cell? ⟨(ad205.add ((x6_2).toNat * 6)).block, (ad205.add ((x6_2).toNat * 6)).off + 5, none⟩ = some (.slice A209_5 ((rd_T37 l0_7 x6_2).f5).length c209_5)) (ds := []) #[false, false, false, false, false, false, false, false, false] (by kernel_rfl) rfl rfl ⟨sc BK204 0, sc BK204 1, sc BK204 2, sc BK204 3, sc BK204 4, sc BK204 5, sc BK204 6, sc BK204 7, sc BK206 0, sc BK206 1, sc BK206 2, sc BK206 3, sc BK206 4, sc BK206 5, ((HB.out.cell (World.block_lt_of_cell? w _ hw209_0)).trans hw209_0), ((HB.out.cell (World.block_lt_of_cell? w _ hw209_1)).trans hw209_1), ((HB.out.cell (World.block_lt_of_cell? w _ hw209_2)).trans hw209_2), ((HB.out.cell (World.block_lt_of_cell? w _ hw209_3)).trans hw209_3), ((HB.out.cell (World.block_lt_of_cell? w _ hw209_4)).trans hw209_4), ((HB.out.cell (World.block_lt_of_cell? w _ hw209_5)).trans hw209_5)⟩ (fun hHeld => ?_); refine with_tabW fuglemanref20_station.tab7 fuglemanref20_station.bits7 (fun HT_ HW_ => ?_)
         generalize wr.drew = w25 at BK204 BK206 HB HR209_3 HR209_4 HR209_5 hx209_0 hx209_1 hx209_2 hx209_3 hx209_4 hx209_5 hHeld ⊢
         refine pureK 0 (some 34) #[true, false, false, false, false, false, false, false, false] HT_ ?_
         refine pureK 2 (some 36) #[true, false, true, false, false, false, false, false, false] HT_ ?_
         refine pureK 6 (some 40) #[true, false, true, false, false, false, true, false, false] HT_ ?_
         refine takeK 1 (some 35) #[true, true, true, false, false, false, true, false, false] HT_ HW_ hHeld ?_ (hy := by (rintro w' ⟨s0, s1, s2, s3, s4, s5, s6, s7, s8, s9, s10, s11, s12, s13, s14, s15, s16, s17, s18, s19⟩; go_simp; with_reducible rfl))
         refine pureK 3 (some 37) #[true, true, true, true, false, false, true, false, false] HT_ ?_
         refine pureK 4 (some 38) #[true, true, true, true, true, false, true, false, false] HT_ ?_
         refine takeK 5 (some 39) #[true, true, true, true, true, true, true, false, false] HT_ HW_ hHeld ?_ (hy := by (rintro w' ⟨s0, s1, s2, s3, s4, s5, s6, s7, s8, s9, s10, s11, s12, s13, s14, s15, s16, s17, s18, s19⟩; go_simp; with_reducible rfl))
         refine takeK 7 (some 41) #[true, true, true, true, true, true, true, true, false] HT_ HW_ hHeld ?_ (hy := by (rintro w' ⟨s0, s1, s2, s3, s4, s5, s6, s7, s8, s9, s10, s11, s12, s13, s14, s15, s16, s17, s18, s19⟩; go_simp; with_reducible rfl))
         refine pureK 8 (some 42) #[true, true, true, true, true, true, true, true, true] HT_ ?_
         refine done_ (done_of HT_.out (by kernel_rfl)) ?_
         try go_wp2
         go_ret
         exact sEnd HB
        ·rw [if_neg c24] at H
         have c24b0 : (((rd_T37 l0_7 x6_2).f0) == ((rd_T37 l0_7 a1).f0)) = false := beq_eq_false_iff_ne.mpr c24
         have c24b1 : (((rd_T37 l0_7 x6_2).f0) != ((rd_T37 l0_7 a1).f0)) = true := bne_iff_ne.mpr c24
         have H' := Aside0.mk H
         clear H
         try go_wp2
         replace BK204 := Aside0.mk (blk_drew BK204.out)
         replace BK206 := Aside0.mk (blk_drew BK206.out)
         replace HB := Aside0.mk (below_drew1 HB.out)
         have p209 : 0 ≤ (x6_2 : Int) := of_decide_eq_true (by first | (with_reducible assumption) | assumption)
         have q209 : x6_2 < (l0_7.length : Int) := of_decide_eq_true (by first | (with_reducible assumption) | assumption)
         obtain ⟨ad209, A209_3, c209_3, A209_4, c209_4, A209_5, c209_5, e209, hx209_0, hx209_1, hx209_2, hx209_3, hx209_4, hx209_5, hl209_3, hi209_3, hl209_4, hi209_4, hl209_5, hi209_5⟩ := at_T37 HR0_7.out x6_2 p209 q209
         have hw209_5 := hx209_5
         have hw209_4 := hx209_4
         have hw209_3 := hx209_3
         have hw209_2 := hx209_2
         have hw209_1 := hx209_1
         have hw209_0 := hx209_0
         obtain rfl : ad205 = ad209 := (by injection e209)
         replace hx209_0 := (HB.out.cell (World.block_lt_of_cell? w _ hx209_0)).trans hx209_0
         replace hx209_1 := (HB.out.cell (World.block_lt_of_cell? w _ hx209_1)).trans hx209_1
         replace hx209_2 := (HB.out.cell (World.block_lt_of_cell? w _ hx209_2)).trans hx209_2
         replace hx209_3 := (HB.out.cell (World.block_lt_of_cell? w _ hx209_3)).trans hx209_3
         replace hx209_4 := (HB.out.cell (World.block_lt_of_cell? w _ hx209_4)).trans hx209_4
         replace hx209_5 := (HB.out.cell (World.block_lt_of_cell? w _ hx209_5)).trans hx209_5
         have HR209_3 := Aside0.mk hi209_3
         have HC209_3 := Aside0.mk hl209_3
         clear hi209_3 hl209_3
         have HR209_4 := Aside0.mk hi209_4
         have HC209_4 := Aside0.mk hl209_4
         clear hi209_4 hl209_4
         have HR209_5 := Aside0.mk hi209_5
         have HC209_5 := Aside0.mk hl209_5
         clear hi209_5 hl209_5
         replace p209 := eq_true p209
         replace q209 := eq_true q209
         refine start_ (n := 9) (S := fun w' => w'.cell? ⟨gb204, 0, none⟩ = some (.int .i64 a0_0) ∧ w'.cell? ⟨gb204, 1, none⟩ = some (.int .i64 a0_1) ∧ w'.cell? ⟨gb204, 2, none⟩ = some (.int .i64 a0_2) ∧ w'.cell? ⟨gb204, 3, none⟩ = some (.int .i64 a0_3) ∧ w'.cell? ⟨gb204, 4, none⟩ = some (.int .i64 a0_4) ∧ w'.cell? ⟨gb204, 5, none⟩ = some (.int .i64 a0_5) ∧ w'.cell? ⟨gb204, 6, none⟩ = some (.slice A0_6 l0_6.length c0_6) ∧ w'.cell? ⟨gb204, 7, none⟩ = some (.slice (some ad205) l0_7.length c0_7) ∧ w'.cell? ⟨gb206, 0, none⟩ = some (.int .i64 ((rd_T37 l0_7 a1).f0)) ∧ w'.cell? ⟨gb206, 1, none⟩ = some (.int .i64 ((rd_T37 l0_7 a1).f1)) ∧ w'.cell? ⟨gb206, 2, none⟩ = some (.int .i64 ((rd_T37 l0_7 a1).f2)) ∧ w'.cell? ⟨gb206, 3, none⟩ = some (.slice A205_3 ((rd_T37 l0_7 a1).f3).length c205_3) ∧ w'.cell? ⟨gb206, 4, none⟩ = some (.slice A205_4 ((rd_T37 l0_7 a1).f4).length c205_4) ∧ w'.cell? ⟨gb206, 5, none⟩ = some (.slice A205_5 ((rd_T37 l0_7 a1).f5).length c205_5) ∧ w'.cell? (ad205.add ((x6_2).toNat * 6)) = some (.int .i64 ((rd_T37 l0_7 x6_2).f0)) ∧ w'.cell? ⟨(ad205.add ((x6_2).toNat * 6)).block, (ad205.add ((x6_2).toNat * 6)).off + 1, none⟩ = some (.int .i64 ((rd_T37 l0_7 x6_2).f1)) ∧ w'.cell? ⟨(ad205.add ((x6_2).toNat * 6)).block, (ad205.add ((x6_2).toNat * 6)).off + 2, none⟩ = some (.int .i64 ((rd_T37 l0_7 x6_2).f2)) ∧ w'.cell? ⟨(ad205.add ((x6_2).toNat * 6)).block, (ad205.add ((x6_2).toNat * 6)).off + 3, none⟩ = some (.slice A209_3 ((rd_T37 l0_7 x6_2).f3).length c209_3) ∧ w'.cell? ⟨(ad205.add ((x6_2).toNat * 6)).block, (ad205.add ((x6_2).toNat * 6)).off + 4, none⟩ = some (.slice A209_4 ((rd_T37 l0_7 x6_2).f4).length c209_4) ∧ w'.cell? ⟨(ad205.add ((x6_2).toNat * 6)).block, (ad205.add ((x6_2).toNat * 6)).off + 5, none⟩ = some (.slice A209_5 ((rd_T37 l0_7 x6_2).f5).length c209_5)) (ds := []) #[false, false, false, false, false, false, false, false, false] (by kernel_rfl) rfl rfl ⟨sc BK204 0, sc BK204 1, sc BK204 2, sc BK204 3, sc BK204 4, sc BK204 5, sc BK204 6, sc BK204 7, sc BK206 0, sc BK206 1, sc BK206 2, sc BK206 3, sc BK206 4, sc BK206 5, ((HB.out.cell (World.block_lt_of_cell? w _ hw209_0)).trans hw209_0), ((HB.out.cell (World.block_lt_of_cell? w _ hw209_1)).trans hw209_1), ((HB.out.cell (World.block_lt_of_cell? w _ hw209_2)).trans hw209_2), ((HB.out.cell (World.block_lt_of_cell? w _ hw209_3)).trans hw209_3), ((HB.out.cell (World.block_lt_of_cell? w _ hw209_4)).trans hw209_4), ((HB.out.cell (World.block_lt_of_cell? w _ hw209_5)).trans hw209_5)⟩ (fun hHeld => ?_); refine with_tabW fuglemanref20_station.tab7 fuglemanref20_station.bits7 (fun HT_ HW_ => ?_)
         generalize wr.drew = w26 at BK204 BK206 HB HR209_3 HR209_4 HR209_5 hx209_0 hx209_1 hx209_2 hx209_3 hx209_4 hx209_5 hHeld ⊢
         refine pureK 0 (some 34) #[true, false, false, false, false, false, false, false, false] HT_ ?_
         refine pureK 2 (some 36) #[true, false, true, false, false, false, false, false, false] HT_ ?_
         refine pureK 6 (some 40) #[true, false, true, false, false, false, true, false, false] HT_ ?_
         refine takeK 1 (some 35) #[true, true, true, false, false, false, true, false, false] HT_ HW_ hHeld ?_ (hy := by (rintro w' ⟨s0, s1, s2, s3, s4, s5, s6, s7, s8, s9, s10, s11, s12, s13, s14, s15, s16, s17, s18, s19⟩; go_simp; with_reducible rfl))
         refine pureK 3 (some 37) #[true, true, true, true, false, false, true, false, false] HT_ ?_
         refine pureK 4 (some 38) #[true, true, true, true, true, false, true, false, false] HT_ ?_
         refine takeK 5 (some 39) #[true, true, true, true, true, true, true, false, false] HT_ HW_ hHeld ?_ (hy := by (rintro w' ⟨s0, s1, s2, s3, s4, s5, s6, s7, s8, s9, s10, s11, s12, s13, s14, s15, s16, s17, s18, s19⟩; go_simp; with_reducible rfl))
         refine takeK 7 (some 41) #[true, true, true, true, true, true, true, true, false] HT_ HW_ hHeld ?_ (hy := by (rintro w' ⟨s0, s1, s2, s3, s4, s5, s6, s7, s8, s9, s10, s11, s12, s13, s14, s15, s16, s17, s18, s19⟩; go_simp; with_reducible rfl))
         refine pureK 8 (some 42) #[true, true, true, true, true, true, true, true, true] HT_ ?_
         refine done_ (done_of HT_.out (by kernel_rfl)) ?_
         try go_wp2
         go_roundg k2
         case measure => have := HJ4.out; have := HK2.out; omega
         case rel => exact ⟨(wrap64 (x6_2 + 1)), (by first | rfl | (simp; done) | (simp [*]; done)), H', ⟨by have := HJ4.out; have := HK2.out; omega⟩, (sK0 BK204), (sK0 BK206), (sB0 HB)⟩
       ·rw [if_neg c23] at H
        exact absurd H (by simp)
      ·rw [if_neg c22] at H
       exact absurd H (by simp)
     ·rw [if_neg c21] at H
      have c21b0 : decide (x6_2 < a1) = false := decide_eq_false c21
      clear c21
      replace H := Option.bind_eq_some_iff.mp H
      obtain ⟨⟨t210, t211⟩, A270, H⟩ := H
      replace H : (if t210 = 0 then ((fuglemanref14_All.f ((rd_T37 l0_7 a1).f3)).bind fun bt212 => (if bt212.2.1 = 0 then ((fuglemanref19_Lay.f k2 0 ((rd_T37 l0_7 a1).f5) l0_6 false).bind fun bt217 => (if bt217.1 = 0 then (fuglemanref20_station.l1 k2 0 a0_0 a0_1 a0_2 a0_3 a0_4 a0_5 l0_6 l0_7 ((rd_T37 l0_7 a1).f0) ((rd_T37 l0_7 a1).f1) ((rd_T37 l0_7 a1).f2) ((rd_T37 l0_7 a1).f3) ((rd_T37 l0_7 a1).f4) ((rd_T37 l0_7 a1).f5)) else (some bt217.1))) else (some bt212.2.1))) else (some t210)) = some r := H
      have A27 := Aside0.mk A270
      clear A270
      by_cases c28 : t210 = 0
      ·rw [if_pos c28] at H
       have c28b0 : (t210 == 0) = true := beq_iff_eq.mpr c28
       have c28b1 : (t210 != 0) = false := bne_eq_false_iff_eq.mpr c28
       clear c28
       replace H := Option.bind_eq_some_iff.mp H
       obtain ⟨⟨t212, t213, t214⟩, A290, H⟩ := H
       replace H : (if t213 = 0 then ((fuglemanref19_Lay.f k2 0 ((rd_T37 l0_7 a1).f5) l0_6 false).bind fun bt217 => (if bt217.1 = 0 then (fuglemanref20_station.l1 k2 0 a0_0 a0_1 a0_2 a0_3 a0_4 a0_5 l0_6 l0_7 ((rd_T37 l0_7 a1).f0) ((rd_T37 l0_7 a1).f1) ((rd_T37 l0_7 a1).f2) ((rd_T37 l0_7 a1).f3) ((rd_T37 l0_7 a1).f4) ((rd_T37 l0_7 a1).f5)) else (some bt217.1))) else (some t213)) = some r := H
       have A29 := Aside0.mk A290
       clear A290
       by_cases c30 : t213 = 0
       ·rw [if_pos c30] at H
        have c30b0 : (t213 == 0) = true := beq_iff_eq.mpr c30
        have c30b1 : (t213 != 0) = false := bne_eq_false_iff_eq.mpr c30
        clear c30
        replace H := Option.bind_eq_some_iff.mp H
        obtain ⟨⟨t217, t218⟩, A310, H⟩ := H
        replace H : (if t217 = 0 then (fuglemanref20_station.l1 k2 0 a0_0 a0_1 a0_2 a0_3 a0_4 a0_5 l0_6 l0_7 ((rd_T37 l0_7 a1).f0) ((rd_T37 l0_7 a1).f1) ((rd_T37 l0_7 a1).f2) ((rd_T37 l0_7 a1).f3) ((rd_T37 l0_7 a1).f4) ((rd_T37 l0_7 a1).f5)) else (some t217)) = some r := H
        have A31 := Aside0.mk A310
        clear A310
        by_cases c32 : t217 = 0
        ·rw [if_pos c32] at H
         have c32b0 : (t217 == 0) = true := beq_iff_eq.mpr c32
         have c32b1 : (t217 != 0) = false := bne_eq_false_iff_eq.mpr c32
         clear c32
         have H' := Aside0.mk H
         clear H
         have hnb33 := NB206_204.out
         have hnc33 := NB204_206.out
         have z34 := bk6 BK206
         have z35 := bk8 BK204
         go_wp2_with (first | ((with_reducible refine gate_callee (f := 41) rfl ?_); refine goesK (some 50) Try.func41 #[.int .i64 ((rd_T37 l0_7 a1).f2), .slice A205_4 ((rd_T37 l0_7 a1).f4).length c205_4, .slice A0_6 l0_6.length c0_6, .bool true] ?_; (with_reducible refine (fuglemanref19_Lay.calls k2 ((rd_T37 l0_7 a1).f2) _ _ ((rd_T37 l0_7 a1).f4) _ _ l0_6 true t210 t211 _ ?side1 ?side2 ?side3 ?side4 A27.out).mono ?_); (case side1 => exact sC HR205_4 HB); (case side2 => exact HC205_4.out); (case side3 => exact sC HR0_6 HB); (case side4 => exact HC0_6.out); rintro e w36 ⟨rfl, hb⟩; refine ⟨_, rfl, ?_⟩; replace BK204 := sK BK204 hb; replace BK206 := sK BK206 hb; replace HB := sB HB hb; (try clear hb); have z37 := bk6 BK206) | ((with_reducible refine gate_callee (f := 42) rfl ?_); refine goesK (some 59) Try.func42 #[.slice A205_3 ((rd_T37 l0_7 a1).f3).length c205_3] ?_; (with_reducible refine (fuglemanref14_All.calls _ _ ((rd_T37 l0_7 a1).f3) t212 t213 t214 _ ?side1 ?side2 A29.out).mono ?_); (case side1 => exact sC HR205_3 HB); (case side2 => exact HC205_3.out); rintro e w38 ⟨v215, rfl, ho0, hb⟩; refine ⟨_, rfl, ?_⟩; have HO216 := Aside0.mk (Kd.R_lower ho0 (below_size (by repeat (first | (with_reducible first | exact HB.out | apply below_alloc | apply pw_below_drewN | apply below_drew1 | refine below_set ?_ (Aside0.out (by assumption))) | exact HB.out)))); replace BK204 := sK BK204 hb; replace BK206 := sK BK206 hb; replace HB := sB HB hb; (try clear hb); (try clear ho0); have z39 := bk6 BK206; have z40 := bk8 BK204) | ((with_reducible refine gate_callee (f := 41) rfl ?_); refine goesK (some 71) Try.func41 #[.int .i64 0, .slice A205_5 ((rd_T37 l0_7 a1).f5).length c205_5, .slice A0_6 l0_6.length c0_6, .bool false] ?_; (with_reducible refine (fuglemanref19_Lay.calls k2 0 _ _ ((rd_T37 l0_7 a1).f5) _ _ l0_6 false t217 t218 _ ?side1 ?side2 ?side3 ?side4 A31.out).mono ?_); (case side1 => exact sC HR205_5 HB); (case side2 => exact HC205_5.out); (case side3 => exact sC HR0_6 HB); (case side4 => exact HC0_6.out); rintro e w41 ⟨rfl, hb⟩; refine ⟨_, rfl, ?_⟩; replace HO216 := sR HO216 hb; replace BK204 := sK BK204 hb; replace BK206 := sK BK206 hb; replace HB := sB HB hb; (try clear hb)))
         go_loopg [9] k2 (fun kq v9 w' => ∃ (x9_3 : Int), v9 = .int .i64 x9_3 ∧ Aside0 (fuglemanref20_station.l1 kq x9_3 a0_0 a0_1 a0_2 a0_3 a0_4 a0_5 l0_6 l0_7 ((rd_T37 l0_7 a1).f0) ((rd_T37 l0_7 a1).f1) ((rd_T37 l0_7 a1).f2) ((rd_T37 l0_7 a1).f3) ((rd_T37 l0_7 a1).f4) ((rd_T37 l0_7 a1).f5) = some r) ∧ Aside0 (kq ≤ k2) ∧ Aside0 (w'.heap[gb204]? = some (.cells #[.int .i64 a0_0, .int .i64 a0_1, .int .i64 a0_2, .int .i64 a0_3, .int .i64 a0_4, .int .i64 a0_5, (.slice A0_6 l0_6.length c0_6), (.slice (some ad205) l0_7.length c0_7)] 25 (0, 0))) ∧ Aside0 (w'.heap[gb206]? = some (.cells #[.int .i64 ((rd_T37 l0_7 a1).f0), .int .i64 ((rd_T37 l0_7 a1).f1), .int .i64 ((rd_T37 l0_7 a1).f2), (.slice A205_3 ((rd_T37 l0_7 a1).f3).length c205_3), (.slice A205_4 ((rd_T37 l0_7 a1).f4).length c205_4), (.slice A205_5 ((rd_T37 l0_7 a1).f5).length c205_5)] 37 (0, 0))) ∧ Aside0 (Below w.heap.size w w'))
         case atStart => exact ⟨(0), (by first | rfl | (simp; done) | (simp [*]; done)), H', ⟨Nat.le_refl _⟩, (sK0 BK204), (sK0 BK206), (sB0 HB)⟩
         case round =>
          clear H'
          (try clear c3); (try clear c3b0); (try clear c4); (try clear c4b0); (try clear c12); (try clear c20); (try clear c21); (try clear c21b0); (try clear c22); (try clear c22b0); (try clear c23); (try clear c23b0); (try clear c24); (try clear c24b0); (try clear c24b1); (try clear c28); (try clear c28b0); (try clear c28b1); (try clear c30); (try clear c30b0); (try clear c30b1); (try clear c32); (try clear c32b0); (try clear c32b1); (try clear hx205_0); (try clear hx205_1); (try clear hx205_2); (try clear hx205_3); (try clear hx205_4); (try clear hx205_5); (try clear hx209_0); (try clear hx209_1); (try clear hx209_2); (try clear hx209_3); (try clear hx209_4); (try clear hx209_5); (try clear p205); (try clear p209); (try clear q205); (try clear q209)
          obtain ⟨x9_3, rfl, HA, HK3, BK204, BK206, HB⟩ := hrel
          cases gk with
          | zero => exact absurd HA.out (by simp [fuglemanref20_station.l1])
          | succ k3 =>
           have H := HA.out
           clear HA
           simp only [fuglemanref20_station.l1] at H
           by_cases c42 : x9_3 < (((rd_T37 l0_7 a1).f5).length : Int)
           ·rw [if_pos c42] at H
            have c42b0 : decide (x9_3 < (((rd_T37 l0_7 a1).f5).length : Int)) = true := decide_eq_true c42
            clear c42
            by_cases c43 : 0 ≤ x9_3
            ·rw [if_pos c43] at H
             have c43b0 : decide (0 ≤ x9_3) = true := decide_eq_true c43
             clear c43
             replace H := Option.bind_eq_some_iff.mp H
             obtain ⟨⟨t220, t221, t222, t223, t224⟩, A440, H⟩ := H
             replace H : (if t221 = ((rd_T37 l0_7 a1).f0) then (fuglemanref20_station.l1 k3 (wrap64 (x9_3 + 1)) a0_0 a0_1 a0_2 a0_3 a0_4 a0_5 l0_6 l0_7 ((rd_T37 l0_7 a1).f0) ((rd_T37 l0_7 a1).f1) ((rd_T37 l0_7 a1).f2) ((rd_T37 l0_7 a1).f3) ((rd_T37 l0_7 a1).f4) ((rd_T37 l0_7 a1).f5)) else (some 5)) = some r := H
             have A44 := Aside0.mk A440
             clear A440
             by_cases c45 : t221 = ((rd_T37 l0_7 a1).f0)
             ·rw [if_pos c45] at H
              have c45b0 : (t221 == ((rd_T37 l0_7 a1).f0)) = true := beq_iff_eq.mpr c45
              have c45b1 : (t221 != ((rd_T37 l0_7 a1).f0)) = false := bne_eq_false_iff_eq.mpr c45
              clear c45
              have H' := Aside0.mk H
              clear H
              have hnb46 := NB206_204.out
              have hnc46 := NB204_206.out
              have z47 := bk6 BK206
              try go_wp2
              replace BK204 := Aside0.mk (blk_drew BK204.out)
              replace BK206 := Aside0.mk (blk_drew BK206.out)
              replace HB := Aside0.mk (below_drew1 HB.out)
              have p219 : 0 ≤ (x9_3 : Int) := of_decide_eq_true (by first | (with_reducible assumption) | assumption)
              have q219 : x9_3 < (((rd_T37 l0_7 a1).f5).length : Int) := of_decide_eq_true (by first | (with_reducible assumption) | assumption)
              obtain ⟨ad219, e219, hx219_0, hx219_1⟩ := at_T56 HR205_5.out x9_3 p219 q219
              have hw219_1 := hx219_1
              have hw219_0 := hx219_0
              cases e219
              replace hx219_0 := (HB.out.cell (World.block_lt_of_cell? w _ hx219_0)).trans hx219_0
              replace hx219_1 := (HB.out.cell (World.block_lt_of_cell? w _ hx219_1)).trans hx219_1
              replace p219 := eq_true p219
              replace q219 := eq_true q219
              refine start_ (n := 15) (S := fun w' => w'.cell? ⟨gb204, 0, none⟩ = some (.int .i64 a0_0) ∧ w'.cell? ⟨gb204, 1, none⟩ = some (.int .i64 a0_1) ∧ w'.cell? ⟨gb204, 2, none⟩ = some (.int .i64 a0_2) ∧ w'.cell? ⟨gb204, 3, none⟩ = some (.int .i64 a0_3) ∧ w'.cell? ⟨gb204, 4, none⟩ = some (.int .i64 a0_4) ∧ w'.cell? ⟨gb204, 5, none⟩ = some (.int .i64 a0_5) ∧ w'.cell? ⟨gb204, 6, none⟩ = some (.slice A0_6 l0_6.length c0_6) ∧ w'.cell? ⟨gb204, 7, none⟩ = some (.slice (some ad205) l0_7.length c0_7) ∧ w'.cell? ⟨gb206, 0, none⟩ = some (.int .i64 ((rd_T37 l0_7 a1).f0)) ∧ w'.cell? ⟨gb206, 1, none⟩ = some (.int .i64 ((rd_T37 l0_7 a1).f1)) ∧ w'.cell? ⟨gb206, 2, none⟩ = some (.int .i64 ((rd_T37 l0_7 a1).f2)) ∧ w'.cell? ⟨gb206, 3, none⟩ = some (.slice A205_3 ((rd_T37 l0_7 a1).f3).length c205_3) ∧ w'.cell? ⟨gb206, 4, none⟩ = some (.slice A205_4 ((rd_T37 l0_7 a1).f4).length c205_4) ∧ w'.cell? ⟨gb206, 5, none⟩ = some (.slice (some ad219) ((rd_T37 l0_7 a1).f5).length c205_5) ∧ w'.cell? (ad219.add ((x9_3).toNat * 2)) = some (.int .i64 ((rd_T56 ((rd_T37 l0_7 a1).f5) x9_3).f0)) ∧ w'.cell? ⟨(ad219.add ((x9_3).toNat * 2)).block, (ad219.add ((x9_3).toNat * 2)).off + 1, none⟩ = some (.int .i64 ((rd_T56 ((rd_T37 l0_7 a1).f5) x9_3).f1))) (ds := []) #[false, false, false, false, false, false, false, false, false, false, false, false, false, false, false] (by kernel_rfl) rfl rfl ⟨sc BK204 0, sc BK204 1, sc BK204 2, sc BK204 3, sc BK204 4, sc BK204 5, sc BK204 6, sc BK204 7, sc BK206 0, sc BK206 1, sc BK206 2, sc BK206 3, sc BK206 4, sc BK206 5, ((HB.out.cell (World.block_lt_of_cell? w _ hw219_0)).trans hw219_0), ((HB.out.cell (World.block_lt_of_cell? w _ hw219_1)).trans hw219_1)⟩ (fun hHeld => ?_); refine with_tabW fuglemanref20_station.tab21 fuglemanref20_station.bits21 (fun HT_ HW_ => ?_)
              generalize wr.drew = w48 at BK204 BK206 HB hx219_0 hx219_1 hHeld ⊢
              refine pureK 0 (some 85) #[true, false, false, false, false, false, false, false, false, false, false, false, false, false, false] HT_ ?_
              refine pureK 2 (some 87) #[true, false, true, false, false, false, false, false, false, false, false, false, false, false, false] HT_ ?_
              refine pureK 4 (some 89) #[true, false, true, false, true, false, false, false, false, false, false, false, false, false, false] HT_ ?_
              refine takeK 1 (some 86) #[true, true, true, false, true, false, false, false, false, false, false, false, false, false, false] HT_ HW_ hHeld ?_ (hy := by (rintro w' ⟨s0, s1, s2, s3, s4, s5, s6, s7, s8, s9, s10, s11, s12, s13, s14, s15⟩; go_simp; with_reducible rfl))
              refine takeK 3 (some 88) #[true, true, true, true, true, false, false, false, false, false, false, false, false, false, false] HT_ HW_ hHeld ?_ (hy := by (rintro w' ⟨s0, s1, s2, s3, s4, s5, s6, s7, s8, s9, s10, s11, s12, s13, s14, s15⟩; go_simp; with_reducible rfl))
              refine pureK 5 (some 90) #[true, true, true, true, true, true, false, false, false, false, false, false, false, false, false] HT_ ?_
              refine pureK 6 (some 91) #[true, true, true, true, true, true, true, false, false, false, false, false, false, false, false] HT_ ?_
              refine takeK 7 (some 92) #[true, true, true, true, true, true, true, true, false, false, false, false, false, false, false] HT_ HW_ hHeld ?_ (hy := by (rintro w' ⟨s0, s1, s2, s3, s4, s5, s6, s7, s8, s9, s10, s11, s12, s13, s14, s15⟩; go_simp; with_reducible rfl))
              refine join_ (σ := Nat) 2 #[true, true, true, true, true, true, true, true, true, true, true, true, true, false, false] (fun s_ => [(93, .tuple #[.agg #[.int .i64 t220, .int .i64 t221, .int .i64 t222, .bool t223], .bool t224]), (10, .pointer (some ⟨s_, 0, none⟩)), (84, .tuple #[.agg #[.int .i64 t220, .int .i64 t221, .int .i64 t222, .bool t223], .bool t224]), (94, .agg #[.int .i64 t220, .int .i64 t221, .int .i64 t222, .bool t223]), (95, .bool t224)]) (fun s_ w' => (w'.cell? ⟨gb204, 0, none⟩ = some (.int .i64 a0_0) ∧ w'.cell? ⟨gb204, 1, none⟩ = some (.int .i64 a0_1) ∧ w'.cell? ⟨gb204, 2, none⟩ = some (.int .i64 a0_2) ∧ w'.cell? ⟨gb204, 3, none⟩ = some (.int .i64 a0_3) ∧ w'.cell? ⟨gb204, 4, none⟩ = some (.int .i64 a0_4) ∧ w'.cell? ⟨gb204, 5, none⟩ = some (.int .i64 a0_5) ∧ w'.cell? ⟨gb204, 6, none⟩ = some (.slice A0_6 l0_6.length c0_6) ∧ w'.cell? ⟨gb204, 7, none⟩ = some (.slice (some ad205) l0_7.length c0_7) ∧ w'.cell? ⟨gb206, 0, none⟩ = some (.int .i64 ((rd_T37 l0_7 a1).f0)) ∧ w'.cell? ⟨gb206, 1, none⟩ = some (.int .i64 ((rd_T37 l0_7 a1).f1)) ∧ w'.cell? ⟨gb206, 2, none⟩ = some (.int .i64 ((rd_T37 l0_7 a1).f2)) ∧ w'.cell? ⟨gb206, 3, none⟩ = some (.slice A205_3 ((rd_T37 l0_7 a1).f3).length c205_3) ∧ w'.cell? ⟨gb206, 4, none⟩ = some (.slice A205_4 ((rd_T37 l0_7 a1).f4).length c205_4) ∧ w'.cell? ⟨gb206, 5, none⟩ = some (.slice (some ad219) ((rd_T37 l0_7 a1).f5).length c205_5) ∧ w'.cell? (ad219.add ((x9_3).toNat * 2)) = some (.int .i64 ((rd_T56 ((rd_T37 l0_7 a1).f5) x9_3).f0)) ∧ w'.cell? ⟨(ad219.add ((x9_3).toNat * 2)).block, (ad219.add ((x9_3).toNat * 2)).off + 1, none⟩ = some (.int .i64 ((rd_T56 ((rd_T37 l0_7 a1).f5) x9_3).f1))) ∧ (w'.heap[gb204]? = some (.cells #[.int .i64 a0_0, .int .i64 a0_1, .int .i64 a0_2, .int .i64 a0_3, .int .i64 a0_4, .int .i64 a0_5, .slice A0_6 l0_6.length c0_6, .slice (some ad205) l0_7.length c0_7] 25 (0, 0))) ∧ (w'.heap[gb206]? = some (.cells #[.int .i64 ((rd_T37 l0_7 a1).f0), .int .i64 ((rd_T37 l0_7 a1).f1), .int .i64 ((rd_T37 l0_7 a1).f2), .slice A205_3 ((rd_T37 l0_7 a1).f3).length c205_3, .slice A205_4 ((rd_T37 l0_7 a1).f4).length c205_4, .slice (some ad219) ((rd_T37 l0_7 a1).f5).length c205_5] 37 (0, 0))) ∧ (w'.heap[s_]? = some (.cells #[.int .i64 0, .int .i64 0, .int .i64 0, .bool false] 63 (0, 0))) ∧ (w.heap.size ≤ s_) ∧ (w.heap.size ≤ s_) ∧ (gb204 ≠ s_) ∧ (s_ ≠ gb204) ∧ (gb206 ≠ s_) ∧ (s_ ≠ gb206) ∧ (Below w.heap.size w w')) ?_ ?_
              rotate_left
              ·intro hCont
               refine two_ (i := 8) (j := 12) (Ni := some 93) (Nj := some 10) #[true, true, true, true, true, true, true, true, true, false, false, false, false, false, false] #[true, true, true, true, true, true, true, true, false, false, false, false, true, false, false] rfl rfl rfl rfl (two_of HT_.out (by kernel_rfl)) (by decide) (by decide) (fun K hK => ?_) (fun K hK => ?_)
               ·skip
                refine goesR Try.func34 #[.slice A0_6 l0_6.length c0_6, .int .i64 ((rd_T56 ((rd_T37 l0_7 a1).f5) x9_3).f0)] ?_
                with_reducible refine (fuglemanref16_Find.calls k3 _ _ l0_6 ((rd_T56 ((rd_T37 l0_7 a1).f5) x9_3).f0) t220 t221 t222 t223 t224 _ ?side1 ?side2 A44.out).mono ?_
                (case side1 => exact sC HR0_6 HB)
                (case side2 => exact HC0_6.out)
                rintro e w49 ⟨rfl, hb⟩
                refine ⟨_, rfl, ?_⟩
                replace BK204 := sK BK204 hb
                replace BK206 := sK BK206 hb
                replace HB := sB HB hb
                (try clear hb)
                refine hK.out _ _ ⟨sc BK204 0, sc BK204 1, sc BK204 2, sc BK204 3, sc BK204 4, sc BK204 5, sc BK204 6, sc BK204 7, sc BK206 0, sc BK206 1, sc BK206 2, sc BK206 3, sc BK206 4, sc BK206 5, ((HB.out.cell (World.block_lt_of_cell? w _ hw219_0)).trans hw219_0), ((HB.out.cell (World.block_lt_of_cell? w _ hw219_1)).trans hw219_1)⟩ (fun hHeld => ?_)
                clear hK K
                refine norm_ (a' := ?_) ?_ ?_
                rotate_left
                ·show Act.put _ (some 93) _ = _
                 simp only [Act.put, List.setIfInBounds_toArray, List.set_cons_zero, List.set_cons_succ, i64_w, i32_w]
                 rfl
                refine pureK 9 (some 84) #[true, true, true, true, true, true, true, true, true, true, false, false, false, false, false] HT_ ?_
                refine pureK 10 (some 94) #[true, true, true, true, true, true, true, true, true, true, true, false, false, false, false] HT_ ?_
                refine pureK 11 (some 95) #[true, true, true, true, true, true, true, true, true, true, true, true, false, false, false] HT_ ?_
                refine one_ (i := 12) (N := some 10) #[true, true, true, true, true, true, true, true, true, true, true, true, true, false, false] rfl rfl (one_of HT_.out (by kernel_rfl)) (by decide) (fun K hK => ?_)
                refine box_step ?hg (N := 10) ?hd (cs := #[.int .i64 0, .int .i64 0, .int .i64 0, .bool false]) (t := 63) ?hr ?_; (case hd => rfl); (case hg => rfl); (case hr => first | (go_simp; done) | (go_simp; rfl))
                intro gb225 hg w50 hbox hb
                have BK225 := Aside0.mk (hbox)
                have GW225 := sG hg HB
                have GE225 := sG hg HB
                replace HB := sB HB hb
                have NB204_225 := sNl hg BK204
                have NB225_204 := sNg hg BK204
                replace BK204 := sK BK204 hb
                have NB206_225 := sNl hg BK206
                have NB225_206 := sNg hg BK206
                replace BK206 := sK BK206 hb
                clear hb hbox hg
                refine hK.out _ _ ⟨sc BK204 0, sc BK204 1, sc BK204 2, sc BK204 3, sc BK204 4, sc BK204 5, sc BK204 6, sc BK204 7, sc BK206 0, sc BK206 1, sc BK206 2, sc BK206 3, sc BK206 4, sc BK206 5, ((HB.out.cell (World.block_lt_of_cell? w _ hw219_0)).trans hw219_0), ((HB.out.cell (World.block_lt_of_cell? w _ hw219_1)).trans hw219_1)⟩ (fun hHeld => ?_)
                clear hK K
                refine norm_ (a' := ?_) ?_ ?_
                rotate_left
                ·show Act.put _ (some 10) _ = _
                 simp only [Act.put, List.setIfInBounds_toArray, List.set_cons_zero, List.set_cons_succ, i64_w, i32_w]
                 rfl
                exact norm_ (by simp only [putAll, Act.put, List.setIfInBounds_toArray, List.set_cons_zero, List.set_cons_succ]) (hCont (gb225) _ ⟨hHeld, (by (with_reducible repeat (first | refine blk_drewN ?_ _ | refine blk_drew ?_ | refine blk_alloc ?_ _)); exact BK204.out), (by (with_reducible repeat (first | refine blk_drewN ?_ _ | refine blk_drew ?_ | refine blk_alloc ?_ _)); exact BK206.out), (by (with_reducible repeat (first | refine blk_drewN ?_ _ | refine blk_drew ?_ | refine blk_alloc ?_ _)); exact BK225.out), GW225.out, GE225.out, NB204_225.out, NB225_204.out, NB206_225.out, NB225_206.out, (by repeat (first | (with_reducible first | exact HB.out | apply below_alloc | apply pw_below_drewN | apply below_drew1 | refine below_set ?_ (Aside0.out (by assumption))) | exact HB.out))⟩)
               ·skip
                refine box_step ?hg (N := 10) ?hd (cs := #[.int .i64 0, .int .i64 0, .int .i64 0, .bool false]) (t := 63) ?hr ?_; (case hd => rfl); (case hg => rfl); (case hr => first | (go_simp; done) | (go_simp; rfl))
                intro gb225 hg w49 hbox hb
                have BK225 := Aside0.mk (hbox)
                have GW225 := sG hg HB
                have GE225 := sG hg HB
                replace HB := sB HB hb
                have NB204_225 := sNl hg BK204
                have NB225_204 := sNg hg BK204
                replace BK204 := sK BK204 hb
                have NB206_225 := sNl hg BK206
                have NB225_206 := sNg hg BK206
                replace BK206 := sK BK206 hb
                clear hb hbox hg
                refine hK.out _ _ ⟨sc BK204 0, sc BK204 1, sc BK204 2, sc BK204 3, sc BK204 4, sc BK204 5, sc BK204 6, sc BK204 7, sc BK206 0, sc BK206 1, sc BK206 2, sc BK206 3, sc BK206 4, sc BK206 5, ((HB.out.cell (World.block_lt_of_cell? w _ hw219_0)).trans hw219_0), ((HB.out.cell (World.block_lt_of_cell? w _ hw219_1)).trans hw219_1)⟩ (fun hHeld => ?_)
                clear hK K
                refine norm_ (a' := ?_) ?_ ?_
                rotate_left
                ·show Act.put _ (some 10) _ = _
                 simp only [Act.put, List.setIfInBounds_toArray, List.set_cons_zero, List.set_cons_succ, i64_w, i32_w]
                 rfl
                refine one_ (i := 8) (N := some 93) #[true, true, true, true, true, true, true, true, true, false, false, false, true, false, false] rfl rfl (one_of HT_.out (by kernel_rfl)) (by decide) (fun K hK => ?_)
                refine goesR Try.func34 #[.slice A0_6 l0_6.length c0_6, .int .i64 ((rd_T56 ((rd_T37 l0_7 a1).f5) x9_3).f0)] ?_
                with_reducible refine (fuglemanref16_Find.calls k3 _ _ l0_6 ((rd_T56 ((rd_T37 l0_7 a1).f5) x9_3).f0) t220 t221 t222 t223 t224 _ ?side1 ?side2 A44.out).mono ?_
                (case side1 => exact sC HR0_6 HB)
                (case side2 => exact HC0_6.out)
                rintro e w50 ⟨rfl, hb⟩
                refine ⟨_, rfl, ?_⟩
                replace BK204 := sK BK204 hb
                replace BK206 := sK BK206 hb
                replace BK225 := sK BK225 hb
                replace HB := sB HB hb
                (try clear hb)
                refine hK.out _ _ ⟨sc BK204 0, sc BK204 1, sc BK204 2, sc BK204 3, sc BK204 4, sc BK204 5, sc BK204 6, sc BK204 7, sc BK206 0, sc BK206 1, sc BK206 2, sc BK206 3, sc BK206 4, sc BK206 5, ((HB.out.cell (World.block_lt_of_cell? w _ hw219_0)).trans hw219_0), ((HB.out.cell (World.block_lt_of_cell? w _ hw219_1)).trans hw219_1)⟩ (fun hHeld => ?_)
                clear hK K
                refine norm_ (a' := ?_) ?_ ?_
                rotate_left
                ·show Act.put _ (some 93) _ = _
                 simp only [Act.put, List.setIfInBounds_toArray, List.set_cons_zero, List.set_cons_succ, i64_w, i32_w]
                 rfl
                refine pureK 9 (some 84) #[true, true, true, true, true, true, true, true, true, true, false, false, true, false, false] HT_ ?_
                refine pureK 10 (some 94) #[true, true, true, true, true, true, true, true, true, true, true, false, true, false, false] HT_ ?_
                refine pureK 11 (some 95) #[true, true, true, true, true, true, true, true, true, true, true, true, true, false, false] HT_ ?_
                exact norm_ (by simp only [putAll, Act.put, List.setIfInBounds_toArray, List.set_cons_zero, List.set_cons_succ]) (hCont (gb225) _ ⟨hHeld, (by (with_reducible repeat (first | refine blk_drewN ?_ _ | refine blk_drew ?_ | refine blk_alloc ?_ _)); exact BK204.out), (by (with_reducible repeat (first | refine blk_drewN ?_ _ | refine blk_drew ?_ | refine blk_alloc ?_ _)); exact BK206.out), (by (with_reducible repeat (first | refine blk_drewN ?_ _ | refine blk_drew ?_ | refine blk_alloc ?_ _)); exact BK225.out), GW225.out, GE225.out, NB204_225.out, NB225_204.out, NB206_225.out, NB225_206.out, (by repeat (first | (with_reducible first | exact HB.out | apply below_alloc | apply pw_below_drewN | apply below_drew1 | refine below_set ?_ (Aside0.out (by assumption))) | exact HB.out))⟩)
              rintro gb225 w51 ⟨hS_, h0_, h1_, h2_, h3_, h4_, h5_, h6_, h7_, h8_, h9_⟩
              have n0_ : Aside0 (w51.heap[gb204]? = some (.cells #[.int .i64 a0_0, .int .i64 a0_1, .int .i64 a0_2, .int .i64 a0_3, .int .i64 a0_4, .int .i64 a0_5, .slice A0_6 l0_6.length c0_6, .slice (some ad205) l0_7.length c0_7] 25 (0, 0))) := ⟨h0_⟩
              have n1_ : Aside0 (w51.heap[gb206]? = some (.cells #[.int .i64 ((rd_T37 l0_7 a1).f0), .int .i64 ((rd_T37 l0_7 a1).f1), .int .i64 ((rd_T37 l0_7 a1).f2), .slice A205_3 ((rd_T37 l0_7 a1).f3).length c205_3, .slice A205_4 ((rd_T37 l0_7 a1).f4).length c205_4, .slice (some ad219) ((rd_T37 l0_7 a1).f5).length c205_5] 37 (0, 0))) := ⟨h1_⟩
              have n2_ : Aside0 (w51.heap[gb225]? = some (.cells #[.int .i64 0, .int .i64 0, .int .i64 0, .bool false] 63 (0, 0))) := ⟨h2_⟩
              have n3_ : Aside0 (w.heap.size ≤ gb225) := ⟨h3_⟩
              have n4_ : Aside0 (w.heap.size ≤ gb225) := ⟨h4_⟩
              have n5_ : Aside0 (gb204 ≠ gb225) := ⟨h5_⟩
              have n6_ : Aside0 (gb225 ≠ gb204) := ⟨h6_⟩
              have n7_ : Aside0 (gb206 ≠ gb225) := ⟨h7_⟩
              have n8_ : Aside0 (gb225 ≠ gb206) := ⟨h8_⟩
              have n9_ : Aside0 (Below w.heap.size w w51) := ⟨h9_⟩
              clear BK204
              clear BK206
              clear HB
              clear h0_ h1_ h2_ h3_ h4_ h5_ h6_ h7_ h8_ h9_
              have BK204 := n0_
              have BK206 := n1_
              have BK225 := n2_
              have GW225 := n3_
              have GE225 := n4_
              have NB204_225 := n5_
              have NB225_204 := n6_
              have NB206_225 := n7_
              have NB225_206 := n8_
              have HB := n9_
              clear n0_ n1_ n2_ n3_ n4_ n5_ n6_ n7_ n8_ n9_
              have hHeld : w51.cell? ⟨gb204, 0, none⟩ = some (.int .i64 a0_0) ∧ w51.cell? ⟨gb204, 1, none⟩ = some (.int .i64 a0_1) ∧ w51.cell? ⟨gb204, 2, none⟩ = some (.int .i64 a0_2) ∧ w51.cell? ⟨gb204, 3, none⟩ = some (.int .i64 a0_3) ∧ w51.cell? ⟨gb204, 4, none⟩ = some (.int .i64 a0_4) ∧ w51.cell? ⟨gb204, 5, none⟩ = some (.int .i64 a0_5) ∧ w51.cell? ⟨gb204, 6, none⟩ = some (.slice A0_6 l0_6.length c0_6) ∧ w51.cell? ⟨gb204, 7, none⟩ = some (.slice (some ad205) l0_7.length c0_7) ∧ w51.cell? ⟨gb206, 0, none⟩ = some (.int .i64 ((rd_T37 l0_7 a1).f0)) ∧ w51.cell? ⟨gb206, 1, none⟩ = some (.int .i64 ((rd_T37 l0_7 a1).f1)) ∧ w51.cell? ⟨gb206, 2, none⟩ = some (.int .i64 ((rd_T37 l0_7 a1).f2)) ∧ w51.cell? ⟨gb206, 3, none⟩ = some (.slice A205_3 ((rd_T37 l0_7 a1).f3).length c205_3) ∧ w51.cell? ⟨gb206, 4, none⟩ = some (.slice A205_4 ((rd_T37 l0_7 a1).f4).length c205_4) ∧ w51.cell? ⟨gb206, 5, none⟩ = some (.slice (some ad219) ((rd_T37 l0_7 a1).f5).length c205_5) ∧ w51.cell? (ad219.add ((x9_3).toNat * 2)) = some (.int .i64 ((rd_T56 ((rd_T37 l0_7 a1).f5) x9_3).f0)) ∧ w51.cell? ⟨(ad219.add ((x9_3).toNat * 2)).block, (ad219.add ((x9_3).toNat * 2)).off + 1, none⟩ = some (.int .i64 ((rd_T56 ((rd_T37 l0_7 a1).f5) x9_3).f1)) := hS_
              refine norm_ (a' := ?_) ?_ ?_
              rotate_left
              ·simp only [putAll, Act.put, List.setIfInBounds_toArray, List.set_cons_zero, List.set_cons_succ]
               rfl
              refine one_ (i := 13) (N := none) #[true, true, true, true, true, true, true, true, true, true, true, true, true, true, false] rfl rfl (one_of HT_.out (by kernel_rfl)) (by decide) (fun K hK => ?_)
              have hs52 : w51.cell? ⟨gb225, 0, none⟩ = some (.int .i64 0) := sc BK225 0
              have hfs52 := blk_frozen BK225.out 0
              have hns52_0 := NB204_225.out
              have hns52_1 := NB206_225.out
              have hms52_0 := NB225_204.out
              have hms52_1 := NB225_206.out
              have hs53 : w51.cell? ⟨gb225, 1, none⟩ = some (.int .i64 0) := sc BK225 1
              have hfs53 := blk_frozen BK225.out 1
              have hns53_0 := NB204_225.out
              have hns53_1 := NB206_225.out
              have hms53_0 := NB225_204.out
              have hms53_1 := NB225_206.out
              have hs54 : w51.cell? ⟨gb225, 2, none⟩ = some (.int .i64 0) := sc BK225 2
              have hfs54 := blk_frozen BK225.out 2
              have hns54_0 := NB204_225.out
              have hns54_1 := NB206_225.out
              have hms54_0 := NB225_204.out
              have hms54_1 := NB225_206.out
              have hs55 : w51.cell? ⟨gb225, 3, none⟩ = some (.bool false) := sc BK225 3
              have hfs55 := blk_frozen BK225.out 3
              have hns55_0 := NB204_225.out
              have hns55_1 := NB206_225.out
              have hms55_0 := NB225_204.out
              have hms55_1 := NB225_206.out
              refine skip_ (w1 := ?_) (by rfl) rfl ?_ ?_
              rotate_left
              ·go_simp
               rfl
              refine hK.out _ _ ⟨(sH hHeld.1), (sH hHeld.2.1), (sH hHeld.2.2.1), (sH hHeld.2.2.2.1), (sH hHeld.2.2.2.2.1), (sH hHeld.2.2.2.2.2.1), (sH hHeld.2.2.2.2.2.2.1), (sH hHeld.2.2.2.2.2.2.2.1), (sH hHeld.2.2.2.2.2.2.2.2.1), (sH hHeld.2.2.2.2.2.2.2.2.2.1), (sH hHeld.2.2.2.2.2.2.2.2.2.2.1), (sH hHeld.2.2.2.2.2.2.2.2.2.2.2.1), (sH hHeld.2.2.2.2.2.2.2.2.2.2.2.2.1), (sH hHeld.2.2.2.2.2.2.2.2.2.2.2.2.2.1), ((cell_far (p := ⟨gb225, _, none⟩) (by first | exact Nat.ne_of_lt (Nat.lt_of_lt_of_le (by have := World.block_lt_of_cell? _ _ hw219_0; first | rwa [add_block] at this | exact this) GW225.out) | (rw [add_block]; exact Nat.ne_of_lt (Nat.lt_of_lt_of_le (by have := World.block_lt_of_cell? _ _ hw219_0; first | rwa [add_block] at this | exact this) GW225.out)) | (show (Addr.add _ _).block ≠ _; rw [add_block]; exact Nat.ne_of_lt (Nat.lt_of_lt_of_le (by have := World.block_lt_of_cell? _ _ hw219_0; first | rwa [add_block] at this | exact this) GW225.out)) | (dsimp only; exact Nat.ne_of_lt (Nat.lt_of_lt_of_le (by have := World.block_lt_of_cell? _ _ hw219_0; first | rwa [add_block] at this | exact this) GW225.out))) _).trans (((cell_far (p := ⟨gb225, _, none⟩) (by first | exact Nat.ne_of_lt (Nat.lt_of_lt_of_le (by have := World.block_lt_of_cell? _ _ hw219_0; first | rwa [add_block] at this | exact this) GW225.out) | (rw [add_block]; exact Nat.ne_of_lt (Nat.lt_of_lt_of_le (by have := World.block_lt_of_cell? _ _ hw219_0; first | rwa [add_block] at this | exact this) GW225.out)) | (show (Addr.add _ _).block ≠ _; rw [add_block]; exact Nat.ne_of_lt (Nat.lt_of_lt_of_le (by have := World.block_lt_of_cell? _ _ hw219_0; first | rwa [add_block] at this | exact this) GW225.out)) | (dsimp only; exact Nat.ne_of_lt (Nat.lt_of_lt_of_le (by have := World.block_lt_of_cell? _ _ hw219_0; first | rwa [add_block] at this | exact this) GW225.out))) _).trans (((cell_far (p := ⟨gb225, _, none⟩) (by first | exact Nat.ne_of_lt (Nat.lt_of_lt_of_le (by have := World.block_lt_of_cell? _ _ hw219_0; first | rwa [add_block] at this | exact this) GW225.out) | (rw [add_block]; exact Nat.ne_of_lt (Nat.lt_of_lt_of_le (by have := World.block_lt_of_cell? _ _ hw219_0; first | rwa [add_block] at this | exact this) GW225.out)) | (show (Addr.add _ _).block ≠ _; rw [add_block]; exact Nat.ne_of_lt (Nat.lt_of_lt_of_le (by have := World.block_lt_of_cell? _ _ hw219_0; first | rwa [add_block] at this | exact this) GW225.out)) | (dsimp only; exact Nat.ne_of_lt (Nat.lt_of_lt_of_le (by have := World.block_lt_of_cell? _ _ hw219_0; first | rwa [add_block] at this | exact this) GW225.out))) _).trans (((cell_far (p := ⟨gb225, _, none⟩) (by first | exact Nat.ne_of_lt (Nat.lt_of_lt_of_le (by have := World.block_lt_of_cell? _ _ hw219_0; first | rwa [add_block] at this | exact this) GW225.out) | (rw [add_block]; exact Nat.ne_of_lt (Nat.lt_of_lt_of_le (by have := World.block_lt_of_cell? _ _ hw219_0; first | rwa [add_block] at this | exact this) GW225.out)) | (show (Addr.add _ _).block ≠ _; rw [add_block]; exact Nat.ne_of_lt (Nat.lt_of_lt_of_le (by have := World.block_lt_of_cell? _ _ hw219_0; first | rwa [add_block] at this | exact this) GW225.out)) | (dsimp only; exact Nat.ne_of_lt (Nat.lt_of_lt_of_le (by have := World.block_lt_of_cell? _ _ hw219_0; first | rwa [add_block] at this | exact this) GW225.out))) _).trans (hHeld.2.2.2.2.2.2.2.2.2.2.2.2.2.2.1)))))))), ((cell_far (p := ⟨gb225, _, none⟩) (by first | exact Nat.ne_of_lt (Nat.lt_of_lt_of_le (by have := World.block_lt_of_cell? _ _ hw219_1; first | rwa [add_block] at this | exact this) GW225.out) | (rw [add_block]; exact Nat.ne_of_lt (Nat.lt_of_lt_of_le (by have := World.block_lt_of_cell? _ _ hw219_1; first | rwa [add_block] at this | exact this) GW225.out)) | (show (Addr.add _ _).block ≠ _; rw [add_block]; exact Nat.ne_of_lt (Nat.lt_of_lt_of_le (by have := World.block_lt_of_cell? _ _ hw219_1; first | rwa [add_block] at this | exact this) GW225.out)) | (dsimp only; exact Nat.ne_of_lt (Nat.lt_of_lt_of_le (by have := World.block_lt_of_cell? _ _ hw219_1; first | rwa [add_block] at this | exact this) GW225.out))) _).trans (((cell_far (p := ⟨gb225, _, none⟩) (by first | exact Nat.ne_of_lt (Nat.lt_of_lt_of_le (by have := World.block_lt_of_cell? _ _ hw219_1; first | rwa [add_block] at this | exact this) GW225.out) | (rw [add_block]; exact Nat.ne_of_lt (Nat.lt_of_lt_of_le (by have := World.block_lt_of_cell? _ _ hw219_1; first | rwa [add_block] at this | exact this) GW225.out)) | (show (Addr.add _ _).block ≠ _; rw [add_block]; exact Nat.ne_of_lt (Nat.lt_of_lt_of_le (by have := World.block_lt_of_cell? _ _ hw219_1; first | rwa [add_block] at this | exact this) GW225.out)) | (dsimp only; exact Nat.ne_of_lt (Nat.lt_of_lt_of_le (by have := World.block_lt_of_cell? _ _ hw219_1; first | rwa [add_block] at this | exact this) GW225.out))) _).trans (((cell_far (p := ⟨gb225, _, none⟩) (by first | exact Nat.ne_of_lt (Nat.lt_of_lt_of_le (by have := World.block_lt_of_cell? _ _ hw219_1; first | rwa [add_block] at this | exact this) GW225.out) | (rw [add_block]; exact Nat.ne_of_lt (Nat.lt_of_lt_of_le (by have := World.block_lt_of_cell? _ _ hw219_1; first | rwa [add_block] at this | exact this) GW225.out)) | (show (Addr.add _ _).block ≠ _; rw [add_block]; exact Nat.ne_of_lt (Nat.lt_of_lt_of_le (by have := World.block_lt_of_cell? _ _ hw219_1; first | rwa [add_block] at this | exact this) GW225.out)) | (dsimp only; exact Nat.ne_of_lt (Nat.lt_of_lt_of_le (by have := World.block_lt_of_cell? _ _ hw219_1; first | rwa [add_block] at this | exact this) GW225.out))) _).trans (((cell_far (p := ⟨gb225, _, none⟩) (by first | exact Nat.ne_of_lt (Nat.lt_of_lt_of_le (by have := World.block_lt_of_cell? _ _ hw219_1; first | rwa [add_block] at this | exact this) GW225.out) | (rw [add_block]; exact Nat.ne_of_lt (Nat.lt_of_lt_of_le (by have := World.block_lt_of_cell? _ _ hw219_1; first | rwa [add_block] at this | exact this) GW225.out)) | (show (Addr.add _ _).block ≠ _; rw [add_block]; exact Nat.ne_of_lt (Nat.lt_of_lt_of_le (by have := World.block_lt_of_cell? _ _ hw219_1; first | rwa [add_block] at this | exact this) GW225.out)) | (dsimp only; exact Nat.ne_of_lt (Nat.lt_of_lt_of_le (by have := World.block_lt_of_cell? _ _ hw219_1; first | rwa [add_block] at this | exact this) GW225.out))) _).trans (hHeld.2.2.2.2.2.2.2.2.2.2.2.2.2.2.2))))))))⟩ (fun hHeld => ?_)
              clear hK K
              refine pureK 14 (some 11) #[true, true, true, true, true, true, true, true, true, true, true, true, true, true, true] HT_ ?_
              refine done_ (done_of HT_.out (by kernel_rfl)) ?_
              have hnb56 := NB225_204.out
              have hnc56 := NB204_225.out
              have hnb57 := NB225_206.out
              have hnc57 := NB206_225.out
              have z58 := bk4 BK225
              have z59 := bk6 BK206
              try go_wp2
              go_roundg k3
              case measure => have := HJ4.out; have := HK2.out; have := HK3.out; omega
              case rel => exact ⟨(wrap64 (x9_3 + 1)), (by first | rfl | (simp; done) | (simp [*]; done)), H', ⟨by have := HJ4.out; have := HK2.out; have := HK3.out; omega⟩, (sKq0 BK204), (sKq0 BK206), (sB0 HB)⟩
             ·rw [if_neg c45] at H
              have c45b0 : (t221 == ((rd_T37 l0_7 a1).f0)) = false := beq_eq_false_iff_ne.mpr c45
              have c45b1 : (t221 != ((rd_T37 l0_7 a1).f0)) = true := bne_iff_ne.mpr c45
              obtain rfl := Option.some.inj H
              have hnb60 := NB206_204.out
              have hnc60 := NB204_206.out
              have z61 := bk6 BK206
              try go_wp2
              replace BK204 := Aside0.mk (blk_drew BK204.out)
              replace BK206 := Aside0.mk (blk_drew BK206.out)
              replace HB := Aside0.mk (below_drew1 HB.out)
              have p219 : 0 ≤ (x9_3 : Int) := of_decide_eq_true (by first | (with_reducible assumption) | assumption)
              have q219 : x9_3 < (((rd_T37 l0_7 a1).f5).length : Int) := of_decide_eq_true (by first | (with_reducible assumption) | assumption)
              obtain ⟨ad219, e219, hx219_0, hx219_1⟩ := at_T56 HR205_5.out x9_3 p219 q219
              have hw219_1 := hx219_1
              have hw219_0 := hx219_0
              cases e219
              replace hx219_0 := (HB.out.cell (World.block_lt_of_cell? w _ hx219_0)).trans hx219_0
              replace hx219_1 := (HB.out.cell (World.block_lt_of_cell? w _ hx219_1)).trans hx219_1
              replace p219 := eq_true p219
              replace q219 := eq_true q219
              refine start_ (n := 15) (S := fun w' => w'.cell? ⟨gb204, 0, none⟩ = some (.int .i64 a0_0) ∧ w'.cell? ⟨gb204, 1, none⟩ = some (.int .i64 a0_1) ∧ w'.cell? ⟨gb204, 2, none⟩ = some (.int .i64 a0_2) ∧ w'.cell? ⟨gb204, 3, none⟩ = some (.int .i64 a0_3) ∧ w'.cell? ⟨gb204, 4, none⟩ = some (.int .i64 a0_4) ∧ w'.cell? ⟨gb204, 5, none⟩ = some (.int .i64 a0_5) ∧ w'.cell? ⟨gb204, 6, none⟩ = some (.slice A0_6 l0_6.length c0_6) ∧ w'.cell? ⟨gb204, 7, none⟩ = some (.slice (some ad205) l0_7.length c0_7) ∧ w'.cell? ⟨gb206, 0, none⟩ = some (.int .i64 ((rd_T37 l0_7 a1).f0)) ∧ w'.cell? ⟨gb206, 1, none⟩ = some (.int .i64 ((rd_T37 l0_7 a1).f1)) ∧ w'.cell? ⟨gb206, 2, none⟩ = some (.int .i64 ((rd_T37 l0_7 a1).f2)) ∧ w'.cell? ⟨gb206, 3, none⟩ = some (.slice A205_3 ((rd_T37 l0_7 a1).f3).length c205_3) ∧ w'.cell? ⟨gb206, 4, none⟩ = some (.slice A205_4 ((rd_T37 l0_7 a1).f4).length c205_4) ∧ w'.cell? ⟨gb206, 5, none⟩ = some (.slice (some ad219) ((rd_T37 l0_7 a1).f5).length c205_5) ∧ w'.cell? (ad219.add ((x9_3).toNat * 2)) = some (.int .i64 ((rd_T56 ((rd_T37 l0_7 a1).f5) x9_3).f0)) ∧ w'.cell? ⟨(ad219.add ((x9_3).toNat * 2)).block, (ad219.add ((x9_3).toNat * 2)).off + 1, none⟩ = some (.int .i64 ((rd_T56 ((rd_T37 l0_7 a1).f5) x9_3).f1))) (ds := []) #[false, false, false, false, false, false, false, false, false, false, false, false, false, false, false] (by kernel_rfl) rfl rfl ⟨sc BK204 0, sc BK204 1, sc BK204 2, sc BK204 3, sc BK204 4, sc BK204 5, sc BK204 6, sc BK204 7, sc BK206 0, sc BK206 1, sc BK206 2, sc BK206 3, sc BK206 4, sc BK206 5, ((HB.out.cell (World.block_lt_of_cell? w _ hw219_0)).trans hw219_0), ((HB.out.cell (World.block_lt_of_cell? w _ hw219_1)).trans hw219_1)⟩ (fun hHeld => ?_); refine with_tabW fuglemanref20_station.tab21 fuglemanref20_station.bits21 (fun HT_ HW_ => ?_)
              generalize wr.drew = w62 at BK204 BK206 HB hx219_0 hx219_1 hHeld ⊢
              refine pureK 0 (some 85) #[true, false, false, false, false, false, false, false, false, false, false, false, false, false, false] HT_ ?_
              refine pureK 2 (some 87) #[true, false, true, false, false, false, false, false, false, false, false, false, false, false, false] HT_ ?_
              refine pureK 4 (some 89) #[true, false, true, false, true, false, false, false, false, false, false, false, false, false, false] HT_ ?_
              refine takeK 1 (some 86) #[true, true, true, false, true, false, false, false, false, false, false, false, false, false, false] HT_ HW_ hHeld ?_ (hy := by (rintro w' ⟨s0, s1, s2, s3, s4, s5, s6, s7, s8, s9, s10, s11, s12, s13, s14, s15⟩; go_simp; with_reducible rfl))
              refine takeK 3 (some 88) #[true, true, true, true, true, false, false, false, false, false, false, false, false, false, false] HT_ HW_ hHeld ?_ (hy := by (rintro w' ⟨s0, s1, s2, s3, s4, s5, s6, s7, s8, s9, s10, s11, s12, s13, s14, s15⟩; go_simp; with_reducible rfl))
              refine pureK 5 (some 90) #[true, true, true, true, true, true, false, false, false, false, false, false, false, false, false] HT_ ?_
              refine pureK 6 (some 91) #[true, true, true, true, true, true, true, false, false, false, false, false, false, false, false] HT_ ?_
              refine takeK 7 (some 92) #[true, true, true, true, true, true, true, true, false, false, false, false, false, false, false] HT_ HW_ hHeld ?_ (hy := by (rintro w' ⟨s0, s1, s2, s3, s4, s5, s6, s7, s8, s9, s10, s11, s12, s13, s14, s15⟩; go_simp; with_reducible rfl))
              refine join_ (σ := Nat) 2 #[true, true, true, true, true, true, true, true, true, true, true, true, true, false, false] (fun s_ => [(93, .tuple #[.agg #[.int .i64 t220, .int .i64 t221, .int .i64 t222, .bool t223], .bool t224]), (10, .pointer (some ⟨s_, 0, none⟩)), (84, .tuple #[.agg #[.int .i64 t220, .int .i64 t221, .int .i64 t222, .bool t223], .bool t224]), (94, .agg #[.int .i64 t220, .int .i64 t221, .int .i64 t222, .bool t223]), (95, .bool t224)]) (fun s_ w' => (w'.cell? ⟨gb204, 0, none⟩ = some (.int .i64 a0_0) ∧ w'.cell? ⟨gb204, 1, none⟩ = some (.int .i64 a0_1) ∧ w'.cell? ⟨gb204, 2, none⟩ = some (.int .i64 a0_2) ∧ w'.cell? ⟨gb204, 3, none⟩ = some (.int .i64 a0_3) ∧ w'.cell? ⟨gb204, 4, none⟩ = some (.int .i64 a0_4) ∧ w'.cell? ⟨gb204, 5, none⟩ = some (.int .i64 a0_5) ∧ w'.cell? ⟨gb204, 6, none⟩ = some (.slice A0_6 l0_6.length c0_6) ∧ w'.cell? ⟨gb204, 7, none⟩ = some (.slice (some ad205) l0_7.length c0_7) ∧ w'.cell? ⟨gb206, 0, none⟩ = some (.int .i64 ((rd_T37 l0_7 a1).f0)) ∧ w'.cell? ⟨gb206, 1, none⟩ = some (.int .i64 ((rd_T37 l0_7 a1).f1)) ∧ w'.cell? ⟨gb206, 2, none⟩ = some (.int .i64 ((rd_T37 l0_7 a1).f2)) ∧ w'.cell? ⟨gb206, 3, none⟩ = some (.slice A205_3 ((rd_T37 l0_7 a1).f3).length c205_3) ∧ w'.cell? ⟨gb206, 4, none⟩ = some (.slice A205_4 ((rd_T37 l0_7 a1).f4).length c205_4) ∧ w'.cell? ⟨gb206, 5, none⟩ = some (.slice (some ad219) ((rd_T37 l0_7 a1).f5).length c205_5) ∧ w'.cell? (ad219.add ((x9_3).toNat * 2)) = some (.int .i64 ((rd_T56 ((rd_T37 l0_7 a1).f5) x9_3).f0)) ∧ w'.cell? ⟨(ad219.add ((x9_3).toNat * 2)).block, (ad219.add ((x9_3).toNat * 2)).off + 1, none⟩ = some (.int .i64 ((rd_T56 ((rd_T37 l0_7 a1).f5) x9_3).f1))) ∧ (w'.heap[gb204]? = some (.cells #[.int .i64 a0_0, .int .i64 a0_1, .int .i64 a0_2, .int .i64 a0_3, .int .i64 a0_4, .int .i64 a0_5, .slice A0_6 l0_6.length c0_6, .slice (some ad205) l0_7.length c0_7] 25 (0, 0))) ∧ (w'.heap[gb206]? = some (.cells #[.int .i64 ((rd_T37 l0_7 a1).f0), .int .i64 ((rd_T37 l0_7 a1).f1), .int .i64 ((rd_T37 l0_7 a1).f2), .slice A205_3 ((rd_T37 l0_7 a1).f3).length c205_3, .slice A205_4 ((rd_T37 l0_7 a1).f4).length c205_4, .slice (some ad219) ((rd_T37 l0_7 a1).f5).length c205_5] 37 (0, 0))) ∧ (w'.heap[s_]? = some (.cells #[.int .i64 0, .int .i64 0, .int .i64 0, .bool false] 63 (0, 0))) ∧ (w.heap.size ≤ s_) ∧ (w.heap.size ≤ s_) ∧ (gb204 ≠ s_) ∧ (s_ ≠ gb204) ∧ (gb206 ≠ s_) ∧ (s_ ≠ gb206) ∧ (Below w.heap.size w w')) ?_ ?_
              rotate_left
              ·intro hCont
               refine two_ (i := 8) (j := 12) (Ni := some 93) (Nj := some 10) #[true, true, true, true, true, true, true, true, true, false, false, false, false, false, false] #[true, true, true, true, true, true, true, true, false, false, false, false, true, false, false] rfl rfl rfl rfl (two_of HT_.out (by kernel_rfl)) (by decide) (by decide) (fun K hK => ?_) (fun K hK => ?_)
               ·skip
                refine goesR Try.func34 #[.slice A0_6 l0_6.length c0_6, .int .i64 ((rd_T56 ((rd_T37 l0_7 a1).f5) x9_3).f0)] ?_
                with_reducible refine (fuglemanref16_Find.calls k3 _ _ l0_6 ((rd_T56 ((rd_T37 l0_7 a1).f5) x9_3).f0) t220 t221 t222 t223 t224 _ ?side1 ?side2 A44.out).mono ?_
                (case side1 => exact sC HR0_6 HB)
                (case side2 => exact HC0_6.out)
                rintro e w63 ⟨rfl, hb⟩
                refine ⟨_, rfl, ?_⟩
                replace BK204 := sK BK204 hb
                replace BK206 := sK BK206 hb
                replace HB := sB HB hb
                (try clear hb)
                refine hK.out _ _ ⟨sc BK204 0, sc BK204 1, sc BK204 2, sc BK204 3, sc BK204 4, sc BK204 5, sc BK204 6, sc BK204 7, sc BK206 0, sc BK206 1, sc BK206 2, sc BK206 3, sc BK206 4, sc BK206 5, ((HB.out.cell (World.block_lt_of_cell? w _ hw219_0)).trans hw219_0), ((HB.out.cell (World.block_lt_of_cell? w _ hw219_1)).trans hw219_1)⟩ (fun hHeld => ?_)
                clear hK K
                refine norm_ (a' := ?_) ?_ ?_
                rotate_left
                ·show Act.put _ (some 93) _ = _
                 simp only [Act.put, List.setIfInBounds_toArray, List.set_cons_zero, List.set_cons_succ, i64_w, i32_w]
                 rfl
                refine pureK 9 (some 84) #[true, true, true, true, true, true, true, true, true, true, false, false, false, false, false] HT_ ?_
                refine pureK 10 (some 94) #[true, true, true, true, true, true, true, true, true, true, true, false, false, false, false] HT_ ?_
                refine pureK 11 (some 95) #[true, true, true, true, true, true, true, true, true, true, true, true, false, false, false] HT_ ?_
                refine one_ (i := 12) (N := some 10) #[true, true, true, true, true, true, true, true, true, true, true, true, true, false, false] rfl rfl (one_of HT_.out (by kernel_rfl)) (by decide) (fun K hK => ?_)
                refine box_step ?hg (N := 10) ?hd (cs := #[.int .i64 0, .int .i64 0, .int .i64 0, .bool false]) (t := 63) ?hr ?_; (case hd => rfl); (case hg => rfl); (case hr => first | (go_simp; done) | (go_simp; rfl))
                intro gb225 hg w64 hbox hb
                have BK225 := Aside0.mk (hbox)
                have GW225 := sG hg HB
                have GE225 := sG hg HB
                replace HB := sB HB hb
                have NB204_225 := sNl hg BK204
                have NB225_204 := sNg hg BK204
                replace BK204 := sK BK204 hb
                have NB206_225 := sNl hg BK206
                have NB225_206 := sNg hg BK206
                replace BK206 := sK BK206 hb
                clear hb hbox hg
                refine hK.out _ _ ⟨sc BK204 0, sc BK204 1, sc BK204 2, sc BK204 3, sc BK204 4, sc BK204 5, sc BK204 6, sc BK204 7, sc BK206 0, sc BK206 1, sc BK206 2, sc BK206 3, sc BK206 4, sc BK206 5, ((HB.out.cell (World.block_lt_of_cell? w _ hw219_0)).trans hw219_0), ((HB.out.cell (World.block_lt_of_cell? w _ hw219_1)).trans hw219_1)⟩ (fun hHeld => ?_)
                clear hK K
                refine norm_ (a' := ?_) ?_ ?_
                rotate_left
                ·show Act.put _ (some 10) _ = _
                 simp only [Act.put, List.setIfInBounds_toArray, List.set_cons_zero, List.set_cons_succ, i64_w, i32_w]
                 rfl
                exact norm_ (by simp only [putAll, Act.put, List.setIfInBounds_toArray, List.set_cons_zero, List.set_cons_succ]) (hCont (gb225) _ ⟨hHeld, (by (with_reducible repeat (first | refine blk_drewN ?_ _ | refine blk_drew ?_ | refine blk_alloc ?_ _)); exact BK204.out), (by (with_reducible repeat (first | refine blk_drewN ?_ _ | refine blk_drew ?_ | refine blk_alloc ?_ _)); exact BK206.out), (by (with_reducible repeat (first | refine blk_drewN ?_ _ | refine blk_drew ?_ | refine blk_alloc ?_ _)); exact BK225.out), GW225.out, GE225.out, NB204_225.out, NB225_204.out, NB206_225.out, NB225_206.out, (by repeat (first | (with_reducible first | exact HB.out | apply below_alloc | apply pw_below_drewN | apply below_drew1 | refine below_set ?_ (Aside0.out (by assumption))) | exact HB.out))⟩)
               ·skip
                refine box_step ?hg (N := 10) ?hd (cs := #[.int .i64 0, .int .i64 0, .int .i64 0, .bool false]) (t := 63) ?hr ?_; (case hd => rfl); (case hg => rfl); (case hr => first | (go_simp; done) | (go_simp; rfl))
                intro gb225 hg w63 hbox hb
                have BK225 := Aside0.mk (hbox)
                have GW225 := sG hg HB
                have GE225 := sG hg HB
                replace HB := sB HB hb
                have NB204_225 := sNl hg BK204
                have NB225_204 := sNg hg BK204
                replace BK204 := sK BK204 hb
                have NB206_225 := sNl hg BK206
                have NB225_206 := sNg hg BK206
                replace BK206 := sK BK206 hb
                clear hb hbox hg
                refine hK.out _ _ ⟨sc BK204 0, sc BK204 1, sc BK204 2, sc BK204 3, sc BK204 4, sc BK204 5, sc BK204 6, sc BK204 7, sc BK206 0, sc BK206 1, sc BK206 2, sc BK206 3, sc BK206 4, sc BK206 5, ((HB.out.cell (World.block_lt_of_cell? w _ hw219_0)).trans hw219_0), ((HB.out.cell (World.block_lt_of_cell? w _ hw219_1)).trans hw219_1)⟩ (fun hHeld => ?_)
                clear hK K
                refine norm_ (a' := ?_) ?_ ?_
                rotate_left
                ·show Act.put _ (some 10) _ = _
                 simp only [Act.put, List.setIfInBounds_toArray, List.set_cons_zero, List.set_cons_succ, i64_w, i32_w]
                 rfl
                refine one_ (i := 8) (N := some 93) #[true, true, true, true, true, true, true, true, true, false, false, false, true, false, false] rfl rfl (one_of HT_.out (by kernel_rfl)) (by decide) (fun K hK => ?_)
                refine goesR Try.func34 #[.slice A0_6 l0_6.length c0_6, .int .i64 ((rd_T56 ((rd_T37 l0_7 a1).f5) x9_3).f0)] ?_
                with_reducible refine (fuglemanref16_Find.calls k3 _ _ l0_6 ((rd_T56 ((rd_T37 l0_7 a1).f5) x9_3).f0) t220 t221 t222 t223 t224 _ ?side1 ?side2 A44.out).mono ?_
                (case side1 => exact sC HR0_6 HB)
                (case side2 => exact HC0_6.out)
                rintro e w64 ⟨rfl, hb⟩
                refine ⟨_, rfl, ?_⟩
                replace BK204 := sK BK204 hb
                replace BK206 := sK BK206 hb
                replace BK225 := sK BK225 hb
                replace HB := sB HB hb
                (try clear hb)
                refine hK.out _ _ ⟨sc BK204 0, sc BK204 1, sc BK204 2, sc BK204 3, sc BK204 4, sc BK204 5, sc BK204 6, sc BK204 7, sc BK206 0, sc BK206 1, sc BK206 2, sc BK206 3, sc BK206 4, sc BK206 5, ((HB.out.cell (World.block_lt_of_cell? w _ hw219_0)).trans hw219_0), ((HB.out.cell (World.block_lt_of_cell? w _ hw219_1)).trans hw219_1)⟩ (fun hHeld => ?_)
                clear hK K
                refine norm_ (a' := ?_) ?_ ?_
                rotate_left
                ·show Act.put _ (some 93) _ = _
                 simp only [Act.put, List.setIfInBounds_toArray, List.set_cons_zero, List.set_cons_succ, i64_w, i32_w]
                 rfl
                refine pureK 9 (some 84) #[true, true, true, true, true, true, true, true, true, true, false, false, true, false, false] HT_ ?_
                refine pureK 10 (some 94) #[true, true, true, true, true, true, true, true, true, true, true, false, true, false, false] HT_ ?_
                refine pureK 11 (some 95) #[true, true, true, true, true, true, true, true, true, true, true, true, true, false, false] HT_ ?_
                exact norm_ (by simp only [putAll, Act.put, List.setIfInBounds_toArray, List.set_cons_zero, List.set_cons_succ]) (hCont (gb225) _ ⟨hHeld, (by (with_reducible repeat (first | refine blk_drewN ?_ _ | refine blk_drew ?_ | refine blk_alloc ?_ _)); exact BK204.out), (by (with_reducible repeat (first | refine blk_drewN ?_ _ | refine blk_drew ?_ | refine blk_alloc ?_ _)); exact BK206.out), (by (with_reducible repeat (first | refine blk_drewN ?_ _ | refine blk_drew ?_ | refine blk_alloc ?_ _)); exact BK225.out), GW225.out, GE225.out, NB204_225.out, NB225_204.out, NB206_225.out, NB225_206.out, (by repeat (first | (with_reducible first | exact HB.out | apply below_alloc | apply pw_below_drewN | apply below_drew1 | refine below_set ?_ (Aside0.out (by assumption))) | exact HB.out))⟩)
              rintro gb225 w65 ⟨hS_, h0_, h1_, h2_, h3_, h4_, h5_, h6_, h7_, h8_, h9_⟩
              have n0_ : Aside0 (w65.heap[gb204]? = some (.cells #[.int .i64 a0_0, .int .i64 a0_1, .int .i64 a0_2, .int .i64 a0_3, .int .i64 a0_4, .int .i64 a0_5, .slice A0_6 l0_6.length c0_6, .slice (some ad205) l0_7.length c0_7] 25 (0, 0))) := ⟨h0_⟩
              have n1_ : Aside0 (w65.heap[gb206]? = some (.cells #[.int .i64 ((rd_T37 l0_7 a1).f0), .int .i64 ((rd_T37 l0_7 a1).f1), .int .i64 ((rd_T37 l0_7 a1).f2), .slice A205_3 ((rd_T37 l0_7 a1).f3).length c205_3, .slice A205_4 ((rd_T37 l0_7 a1).f4).length c205_4, .slice (some ad219) ((rd_T37 l0_7 a1).f5).length c205_5] 37 (0, 0))) := ⟨h1_⟩
              have n2_ : Aside0 (w65.heap[gb225]? = some (.cells #[.int .i64 0, .int .i64 0, .int .i64 0, .bool false] 63 (0, 0))) := ⟨h2_⟩
              have n3_ : Aside0 (w.heap.size ≤ gb225) := ⟨h3_⟩
              have n4_ : Aside0 (w.heap.size ≤ gb225) := ⟨h4_⟩
              have n5_ : Aside0 (gb204 ≠ gb225) := ⟨h5_⟩
              have n6_ : Aside0 (gb225 ≠ gb204) := ⟨h6_⟩
              have n7_ : Aside0 (gb206 ≠ gb225) := ⟨h7_⟩
              have n8_ : Aside0 (gb225 ≠ gb206) := ⟨h8_⟩
              have n9_ : Aside0 (Below w.heap.size w w65) := ⟨h9_⟩
              clear BK204
              clear BK206
              clear HB
              clear h0_ h1_ h2_ h3_ h4_ h5_ h6_ h7_ h8_ h9_
              have BK204 := n0_
              have BK206 := n1_
              have BK225 := n2_
              have GW225 := n3_
              have GE225 := n4_
              have NB204_225 := n5_
              have NB225_204 := n6_
              have NB206_225 := n7_
              have NB225_206 := n8_
              have HB := n9_
              clear n0_ n1_ n2_ n3_ n4_ n5_ n6_ n7_ n8_ n9_
              have hHeld : w65.cell? ⟨gb204, 0, none⟩ = some (.int .i64 a0_0) ∧ w65.cell? ⟨gb204, 1, none⟩ = some (.int .i64 a0_1) ∧ w65.cell? ⟨gb204, 2, none⟩ = some (.int .i64 a0_2) ∧ w65.cell? ⟨gb204, 3, none⟩ = some (.int .i64 a0_3) ∧ w65.cell? ⟨gb204, 4, none⟩ = some (.int .i64 a0_4) ∧ w65.cell? ⟨gb204, 5, none⟩ = some (.int .i64 a0_5) ∧ w65.cell? ⟨gb204, 6, none⟩ = some (.slice A0_6 l0_6.length c0_6) ∧ w65.cell? ⟨gb204, 7, none⟩ = some (.slice (some ad205) l0_7.length c0_7) ∧ w65.cell? ⟨gb206, 0, none⟩ = some (.int .i64 ((rd_T37 l0_7 a1).f0)) ∧ w65.cell? ⟨gb206, 1, none⟩ = some (.int .i64 ((rd_T37 l0_7 a1).f1)) ∧ w65.cell? ⟨gb206, 2, none⟩ = some (.int .i64 ((rd_T37 l0_7 a1).f2)) ∧ w65.cell? ⟨gb206, 3, none⟩ = some (.slice A205_3 ((rd_T37 l0_7 a1).f3).length c205_3) ∧ w65.cell? ⟨gb206, 4, none⟩ = some (.slice A205_4 ((rd_T37 l0_7 a1).f4).length c205_4) ∧ w65.cell? ⟨gb206, 5, none⟩ = some (.slice (some ad219) ((rd_T37 l0_7 a1).f5).length c205_5) ∧ w65.cell? (ad219.add ((x9_3).toNat * 2)) = some (.int .i64 ((rd_T56 ((rd_T37 l0_7 a1).f5) x9_3).f0)) ∧ w65.cell? ⟨(ad219.add ((x9_3).toNat * 2)).block, (ad219.add ((x9_3).toNat * 2)).off + 1, none⟩ = some (.int .i64 ((rd_T56 ((rd_T37 l0_7 a1).f5) x9_3).f1)) := hS_
              refine norm_ (a' := ?_) ?_ ?_
              rotate_left
              ·simp only [putAll, Act.put, List.setIfInBounds_toArray, List.set_cons_zero, List.set_cons_succ]
               rfl
              refine one_ (i := 13) (N := none) #[true, true, true, true, true, true, true, true, true, true, true, true, true, true, false] rfl rfl (one_of HT_.out (by kernel_rfl)) (by decide) (fun K hK => ?_)
              have hs66 : w65.cell? ⟨gb225, 0, none⟩ = some (.int .i64 0) := sc BK225 0
              have hfs66 := blk_frozen BK225.out 0
              have hns66_0 := NB204_225.out
              have hns66_1 := NB206_225.out
              have hms66_0 := NB225_204.out
              have hms66_1 := NB225_206.out
              have hs67 : w65.cell? ⟨gb225, 1, none⟩ = some (.int .i64 0) := sc BK225 1
              have hfs67 := blk_frozen BK225.out 1
              have hns67_0 := NB204_225.out
              have hns67_1 := NB206_225.out
              have hms67_0 := NB225_204.out
              have hms67_1 := NB225_206.out
              have hs68 : w65.cell? ⟨gb225, 2, none⟩ = some (.int .i64 0) := sc BK225 2
              have hfs68 := blk_frozen BK225.out 2
              have hns68_0 := NB204_225.out
              have hns68_1 := NB206_225.out
              have hms68_0 := NB225_204.out
              have hms68_1 := NB225_206.out
              have hs69 : w65.cell? ⟨gb225, 3, none⟩ = some (.bool false) := sc BK225 3
              have hfs69 := blk_frozen BK225.out 3
              have hns69_0 := NB204_225.out
              have hns69_1 := NB206_225.out
              have hms69_0 := NB225_204.out
              have hms69_1 := NB225_206.out
              refine skip_ (w1 := ?_) (by rfl) rfl ?_ ?_
              rotate_left
              ·go_simp
               rfl
              refine hK.out _ _ ⟨(sH hHeld.1), (sH hHeld.2.1), (sH hHeld.2.2.1), (sH hHeld.2.2.2.1), (sH hHeld.2.2.2.2.1), (sH hHeld.2.2.2.2.2.1), (sH hHeld.2.2.2.2.2.2.1), (sH hHeld.2.2.2.2.2.2.2.1), (sH hHeld.2.2.2.2.2.2.2.2.1), (sH hHeld.2.2.2.2.2.2.2.2.2.1), (sH hHeld.2.2.2.2.2.2.2.2.2.2.1), (sH hHeld.2.2.2.2.2.2.2.2.2.2.2.1), (sH hHeld.2.2.2.2.2.2.2.2.2.2.2.2.1), (sH hHeld.2.2.2.2.2.2.2.2.2.2.2.2.2.1), ((cell_far (p := ⟨gb225, _, none⟩) (by first | exact Nat.ne_of_lt (Nat.lt_of_lt_of_le (by have := World.block_lt_of_cell? _ _ hw219_0; first | rwa [add_block] at this | exact this) GW225.out) | (rw [add_block]; exact Nat.ne_of_lt (Nat.lt_of_lt_of_le (by have := World.block_lt_of_cell? _ _ hw219_0; first | rwa [add_block] at this | exact this) GW225.out)) | (show (Addr.add _ _).block ≠ _; rw [add_block]; exact Nat.ne_of_lt (Nat.lt_of_lt_of_le (by have := World.block_lt_of_cell? _ _ hw219_0; first | rwa [add_block] at this | exact this) GW225.out)) | (dsimp only; exact Nat.ne_of_lt (Nat.lt_of_lt_of_le (by have := World.block_lt_of_cell? _ _ hw219_0; first | rwa [add_block] at this | exact this) GW225.out))) _).trans (((cell_far (p := ⟨gb225, _, none⟩) (by first | exact Nat.ne_of_lt (Nat.lt_of_lt_of_le (by have := World.block_lt_of_cell? _ _ hw219_0; first | rwa [add_block] at this | exact this) GW225.out) | (rw [add_block]; exact Nat.ne_of_lt (Nat.lt_of_lt_of_le (by have := World.block_lt_of_cell? _ _ hw219_0; first | rwa [add_block] at this | exact this) GW225.out)) | (show (Addr.add _ _).block ≠ _; rw [add_block]; exact Nat.ne_of_lt (Nat.lt_of_lt_of_le (by have := World.block_lt_of_cell? _ _ hw219_0; first | rwa [add_block] at this | exact this) GW225.out)) | (dsimp only; exact Nat.ne_of_lt (Nat.lt_of_lt_of_le (by have := World.block_lt_of_cell? _ _ hw219_0; first | rwa [add_block] at this | exact this) GW225.out))) _).trans (((cell_far (p := ⟨gb225, _, none⟩) (by first | exact Nat.ne_of_lt (Nat.lt_of_lt_of_le (by have := World.block_lt_of_cell? _ _ hw219_0; first | rwa [add_block] at this | exact this) GW225.out) | (rw [add_block]; exact Nat.ne_of_lt (Nat.lt_of_lt_of_le (by have := World.block_lt_of_cell? _ _ hw219_0; first | rwa [add_block] at this | exact this) GW225.out)) | (show (Addr.add _ _).block ≠ _; rw [add_block]; exact Nat.ne_of_lt (Nat.lt_of_lt_of_le (by have := World.block_lt_of_cell? _ _ hw219_0; first | rwa [add_block] at this | exact this) GW225.out)) | (dsimp only; exact Nat.ne_of_lt (Nat.lt_of_lt_of_le (by have := World.block_lt_of_cell? _ _ hw219_0; first | rwa [add_block] at this | exact this) GW225.out))) _).trans (((cell_far (p := ⟨gb225, _, none⟩) (by first | exact Nat.ne_of_lt (Nat.lt_of_lt_of_le (by have := World.block_lt_of_cell? _ _ hw219_0; first | rwa [add_block] at this | exact this) GW225.out) | (rw [add_block]; exact Nat.ne_of_lt (Nat.lt_of_lt_of_le (by have := World.block_lt_of_cell? _ _ hw219_0; first | rwa [add_block] at this | exact this) GW225.out)) | (show (Addr.add _ _).block ≠ _; rw [add_block]; exact Nat.ne_of_lt (Nat.lt_of_lt_of_le (by have := World.block_lt_of_cell? _ _ hw219_0; first | rwa [add_block] at this | exact this) GW225.out)) | (dsimp only; exact Nat.ne_of_lt (Nat.lt_of_lt_of_le (by have := World.block_lt_of_cell? _ _ hw219_0; first | rwa [add_block] at this | exact this) GW225.out))) _).trans (hHeld.2.2.2.2.2.2.2.2.2.2.2.2.2.2.1)))))))), ((cell_far (p := ⟨gb225, _, none⟩) (by first | exact Nat.ne_of_lt (Nat.lt_of_lt_of_le (by have := World.block_lt_of_cell? _ _ hw219_1; first | rwa [add_block] at this | exact this) GW225.out) | (rw [add_block]; exact Nat.ne_of_lt (Nat.lt_of_lt_of_le (by have := World.block_lt_of_cell? _ _ hw219_1; first | rwa [add_block] at this | exact this) GW225.out)) | (show (Addr.add _ _).block ≠ _; rw [add_block]; exact Nat.ne_of_lt (Nat.lt_of_lt_of_le (by have := World.block_lt_of_cell? _ _ hw219_1; first | rwa [add_block] at this | exact this) GW225.out)) | (dsimp only; exact Nat.ne_of_lt (Nat.lt_of_lt_of_le (by have := World.block_lt_of_cell? _ _ hw219_1; first | rwa [add_block] at this | exact this) GW225.out))) _).trans (((cell_far (p := ⟨gb225, _, none⟩) (by first | exact Nat.ne_of_lt (Nat.lt_of_lt_of_le (by have := World.block_lt_of_cell? _ _ hw219_1; first | rwa [add_block] at this | exact this) GW225.out) | (rw [add_block]; exact Nat.ne_of_lt (Nat.lt_of_lt_of_le (by have := World.block_lt_of_cell? _ _ hw219_1; first | rwa [add_block] at this | exact this) GW225.out)) | (show (Addr.add _ _).block ≠ _; rw [add_block]; exact Nat.ne_of_lt (Nat.lt_of_lt_of_le (by have := World.block_lt_of_cell? _ _ hw219_1; first | rwa [add_block] at this | exact this) GW225.out)) | (dsimp only; exact Nat.ne_of_lt (Nat.lt_of_lt_of_le (by have := World.block_lt_of_cell? _ _ hw219_1; first | rwa [add_block] at this | exact this) GW225.out))) _).trans (((cell_far (p := ⟨gb225, _, none⟩) (by first | exact Nat.ne_of_lt (Nat.lt_of_lt_of_le (by have := World.block_lt_of_cell? _ _ hw219_1; first | rwa [add_block] at this | exact this) GW225.out) | (rw [add_block]; exact Nat.ne_of_lt (Nat.lt_of_lt_of_le (by have := World.block_lt_of_cell? _ _ hw219_1; first | rwa [add_block] at this | exact this) GW225.out)) | (show (Addr.add _ _).block ≠ _; rw [add_block]; exact Nat.ne_of_lt (Nat.lt_of_lt_of_le (by have := World.block_lt_of_cell? _ _ hw219_1; first | rwa [add_block] at this | exact this) GW225.out)) | (dsimp only; exact Nat.ne_of_lt (Nat.lt_of_lt_of_le (by have := World.block_lt_of_cell? _ _ hw219_1; first | rwa [add_block] at this | exact this) GW225.out))) _).trans (((cell_far (p := ⟨gb225, _, none⟩) (by first | exact Nat.ne_of_lt (Nat.lt_of_lt_of_le (by have := World.block_lt_of_cell? _ _ hw219_1; first | rwa [add_block] at this | exact this) GW225.out) | (rw [add_block]; exact Nat.ne_of_lt (Nat.lt_of_lt_of_le (by have := World.block_lt_of_cell? _ _ hw219_1; first | rwa [add_block] at this | exact this) GW225.out)) | (show (Addr.add _ _).block ≠ _; rw [add_block]; exact Nat.ne_of_lt (Nat.lt_of_lt_of_le (by have := World.block_lt_of_cell? _ _ hw219_1; first | rwa [add_block] at this | exact this) GW225.out)) | (dsimp only; exact Nat.ne_of_lt (Nat.lt_of_lt_of_le (by have := World.block_lt_of_cell? _ _ hw219_1; first | rwa [add_block] at this | exact this) GW225.out))) _).trans (hHeld.2.2.2.2.2.2.2.2.2.2.2.2.2.2.2))))))))⟩ (fun hHeld => ?_)
              clear hK K
              refine pureK 14 (some 11) #[true, true, true, true, true, true, true, true, true, true, true, true, true, true, true] HT_ ?_
              refine done_ (done_of HT_.out (by kernel_rfl)) ?_
              have hnb70 := NB225_204.out
              have hnc70 := NB204_225.out
              have hnb71 := NB225_206.out
              have hnc71 := NB206_225.out
              have z72 := bk4 BK225
              have z73 := bk6 BK206
              try go_wp2
              go_ret
              exact sEnd HB
            ·rw [if_neg c43] at H
             exact absurd H (by simp)
           ·rw [if_neg c42] at H
            have c42b0 : decide (x9_3 < (((rd_T37 l0_7 a1).f5).length : Int)) = false := decide_eq_false c42
            clear c42
            obtain rfl := Option.some.inj H
            have hnb74 := NB206_204.out
            have hnc74 := NB204_206.out
            have z75 := bk6 BK206
            go_wp2
            go_ret
            exact sEnd HB
        ·rw [if_neg c32] at H
         have c32b0 : (t217 == 0) = false := beq_eq_false_iff_ne.mpr c32
         have c32b1 : (t217 != 0) = true := bne_iff_ne.mpr c32
         obtain rfl := Option.some.inj H
         have hnb76 := NB206_204.out
         have hnc76 := NB204_206.out
         have z77 := bk6 BK206
         have z78 := bk8 BK204
         go_wp2_with (first | ((with_reducible refine gate_callee (f := 41) rfl ?_); refine goesK (some 50) Try.func41 #[.int .i64 ((rd_T37 l0_7 a1).f2), .slice A205_4 ((rd_T37 l0_7 a1).f4).length c205_4, .slice A0_6 l0_6.length c0_6, .bool true] ?_; (with_reducible refine (fuglemanref19_Lay.calls k2 ((rd_T37 l0_7 a1).f2) _ _ ((rd_T37 l0_7 a1).f4) _ _ l0_6 true t210 t211 _ ?side1 ?side2 ?side3 ?side4 A27.out).mono ?_); (case side1 => exact sC HR205_4 HB); (case side2 => exact HC205_4.out); (case side3 => exact sC HR0_6 HB); (case side4 => exact HC0_6.out); rintro e w79 ⟨rfl, hb⟩; refine ⟨_, rfl, ?_⟩; replace BK204 := sK BK204 hb; replace BK206 := sK BK206 hb; replace HB := sB HB hb; (try clear hb); have z80 := bk6 BK206) | ((with_reducible refine gate_callee (f := 42) rfl ?_); refine goesK (some 59) Try.func42 #[.slice A205_3 ((rd_T37 l0_7 a1).f3).length c205_3] ?_; (with_reducible refine (fuglemanref14_All.calls _ _ ((rd_T37 l0_7 a1).f3) t212 t213 t214 _ ?side1 ?side2 A29.out).mono ?_); (case side1 => exact sC HR205_3 HB); (case side2 => exact HC205_3.out); rintro e w81 ⟨v215, rfl, ho0, hb⟩; refine ⟨_, rfl, ?_⟩; have HO216 := Aside0.mk (Kd.R_lower ho0 (below_size (by repeat (first | (with_reducible first | exact HB.out | apply below_alloc | apply pw_below_drewN | apply below_drew1 | refine below_set ?_ (Aside0.out (by assumption))) | exact HB.out)))); replace BK204 := sK BK204 hb; replace BK206 := sK BK206 hb; replace HB := sB HB hb; (try clear hb); (try clear ho0); have z82 := bk6 BK206; have z83 := bk8 BK204) | ((with_reducible refine gate_callee (f := 41) rfl ?_); refine goesK (some 71) Try.func41 #[.int .i64 0, .slice A205_5 ((rd_T37 l0_7 a1).f5).length c205_5, .slice A0_6 l0_6.length c0_6, .bool false] ?_; (with_reducible refine (fuglemanref19_Lay.calls k2 0 _ _ ((rd_T37 l0_7 a1).f5) _ _ l0_6 false t217 t218 _ ?side1 ?side2 ?side3 ?side4 A31.out).mono ?_); (case side1 => exact sC HR205_5 HB); (case side2 => exact HC205_5.out); (case side3 => exact sC HR0_6 HB); (case side4 => exact HC0_6.out); rintro e w84 ⟨rfl, hb⟩; refine ⟨_, rfl, ?_⟩; replace HO216 := sR HO216 hb; replace BK204 := sK BK204 hb; replace BK206 := sK BK206 hb; replace HB := sB HB hb; (try clear hb)))
         go_ret
         exact sEnd HB
       ·rw [if_neg c30] at H
        have c30b0 : (t213 == 0) = false := beq_eq_false_iff_ne.mpr c30
        have c30b1 : (t213 != 0) = true := bne_iff_ne.mpr c30
        obtain rfl := Option.some.inj H
        have hnb85 := NB206_204.out
        have hnc85 := NB204_206.out
        have z86 := bk6 BK206
        have z87 := bk8 BK204
        go_wp2_with (first | ((with_reducible refine gate_callee (f := 41) rfl ?_); refine goesK (some 50) Try.func41 #[.int .i64 ((rd_T37 l0_7 a1).f2), .slice A205_4 ((rd_T37 l0_7 a1).f4).length c205_4, .slice A0_6 l0_6.length c0_6, .bool true] ?_; (with_reducible refine (fuglemanref19_Lay.calls k2 ((rd_T37 l0_7 a1).f2) _ _ ((rd_T37 l0_7 a1).f4) _ _ l0_6 true t210 t211 _ ?side1 ?side2 ?side3 ?side4 A27.out).mono ?_); (case side1 => exact sC HR205_4 HB); (case side2 => exact HC205_4.out); (case side3 => exact sC HR0_6 HB); (case side4 => exact HC0_6.out); rintro e w88 ⟨rfl, hb⟩; refine ⟨_, rfl, ?_⟩; replace BK204 := sK BK204 hb; replace BK206 := sK BK206 hb; replace HB := sB HB hb; (try clear hb); have z89 := bk6 BK206) | ((with_reducible refine gate_callee (f := 42) rfl ?_); refine goesK (some 59) Try.func42 #[.slice A205_3 ((rd_T37 l0_7 a1).f3).length c205_3] ?_; (with_reducible refine (fuglemanref14_All.calls _ _ ((rd_T37 l0_7 a1).f3) t212 t213 t214 _ ?side1 ?side2 A29.out).mono ?_); (case side1 => exact sC HR205_3 HB); (case side2 => exact HC205_3.out); rintro e w90 ⟨v215, rfl, ho0, hb⟩; refine ⟨_, rfl, ?_⟩; have HO216 := Aside0.mk (Kd.R_lower ho0 (below_size (by repeat (first | (with_reducible first | exact HB.out | apply below_alloc | apply pw_below_drewN | apply below_drew1 | refine below_set ?_ (Aside0.out (by assumption))) | exact HB.out)))); replace BK204 := sK BK204 hb; replace BK206 := sK BK206 hb; replace HB := sB HB hb; (try clear hb); (try clear ho0)))
        go_ret
        exact sEnd HB
      ·rw [if_neg c28] at H
       have c28b0 : (t210 == 0) = false := beq_eq_false_iff_ne.mpr c28
       have c28b1 : (t210 != 0) = true := bne_iff_ne.mpr c28
       obtain rfl := Option.some.inj H
       have hnb91 := NB206_204.out
       have hnc91 := NB204_206.out
       have z92 := bk6 BK206
       have z93 := bk8 BK204
       go_wp2_with (first | ((with_reducible refine gate_callee (f := 41) rfl ?_); refine goesK (some 50) Try.func41 #[.int .i64 ((rd_T37 l0_7 a1).f2), .slice A205_4 ((rd_T37 l0_7 a1).f4).length c205_4, .slice A0_6 l0_6.length c0_6, .bool true] ?_; (with_reducible refine (fuglemanref19_Lay.calls k2 ((rd_T37 l0_7 a1).f2) _ _ ((rd_T37 l0_7 a1).f4) _ _ l0_6 true t210 t211 _ ?side1 ?side2 ?side3 ?side4 A27.out).mono ?_); (case side1 => exact sC HR205_4 HB); (case side2 => exact HC205_4.out); (case side3 => exact sC HR0_6 HB); (case side4 => exact HC0_6.out); rintro e w94 ⟨rfl, hb⟩; refine ⟨_, rfl, ?_⟩; replace BK204 := sK BK204 hb; replace BK206 := sK BK206 hb; replace HB := sB HB hb; (try clear hb)))
       go_ret
       exact sEnd HB

end Go.Proofs.Ytedmikeamgebjaa.R
