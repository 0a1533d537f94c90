-- Written by a program out of the translation; not trusted: Lean checks it.
import Derived.Test.YtedmikeamgebjaaK
import Derived.Test.YtedmikeamgebjaaFx0
import Derived.Test.YtedmikeamgebjaaFx3
import Derived.Test.YtedmikeamgebjaaFx9
namespace Go.Proofs.Ytedmikeamgebjaa.F
open Go.Proofs.YtedmikeamgebjaaW.PrintK Go.RowKit Go.Proofs.YtedmikeamgebjaaW.PrintWords Go.Proofs.YtedmikeamgebjaaW.PrintLast Go.Proofs.YtedmikeamgebjaaW.PrintMore
attribute [local go_sem] max2_int min2_int max_two min_two max_three min_three max_four min_four   -- for this text's walks alone
set_option linter.unusedVariables false
set_option linter.unusedSimpArgs false

/-! ### fuglemanref20_Readers: function 16 -/
mutual
def fuglemanref20_Readers.l0 : Nat → Int → Int → Int → Int → Int → Int → Int → Int → Int → List (S63) → List (S37) → Option (Int)
 | 0, _, _, _, _, _, _, _, _, _, _, _ => none
 | k + 1, x1, x5, x6, x197000, x197001, x197002, x197003, x197004, x197005, x197006, x197007 => if x6 < (x197007.length : Int) then (fuglemanref20_Readers.l1 k x1 x5 x6 0 x197000 x197001 x197002 x197003 x197004 x197005 x197006 x197007) else (some x5)
def fuglemanref20_Readers.l1 : Nat → Int → Int → Int → Int → Int → Int → Int → Int → Int → Int → List (S63) → List (S37) → Option (Int)
 | 0, _, _, _, _, _, _, _, _, _, _, _, _ => none
 | k + 1, x1, x5, x6, x7, x197000, x197001, x197002, x197003, x197004, x197005, x197006, x197007 => if 0 ≤ x6 then (if x6 < (x197007.length : Int) then (if x7 < (((rd_T37 x197007 x6).f4).length : Int) then (if 0 ≤ x7 then (if ((rd_T56 ((rd_T37 x197007 x6).f4) x7).f0) = x1 then ((fuglemanref05_With.f k x5 ((rd_T37 x197007 x6).f0)).bind fun t201 => (fuglemanref20_Readers.l1 k x1 t201 x6 (wrap64 (x7 + 1)) x197000 x197001 x197002 x197003 x197004 x197005 x197006 x197007)) else (fuglemanref20_Readers.l1 k x1 x5 x6 (wrap64 (x7 + 1)) x197000 x197001 x197002 x197003 x197004 x197005 x197006 x197007)) else (none)) else (fuglemanref20_Readers.l0 k x1 x5 (wrap64 (x6 + 1)) x197000 x197001 x197002 x197003 x197004 x197005 x197006 x197007)) else (none)) else (none)
end
def fuglemanref20_Readers.f (k : Nat) (a0_0 : Int) (a0_1 : Int) (a0_2 : Int) (a0_3 : Int) (a0_4 : Int) (a0_5 : Int) (l0_6 : List (S63)) (l0_7 : List (S37)) (a1 : Int) : Option (Int) := fuglemanref20_Readers.l0 k a1 0 0 a0_0 a0_1 a0_2 a0_3 a0_4 a0_5 l0_6 l0_7
theorem fuglemanref20_Readers.mono_l : ∀ k, (∀ y0 y1 y2 y3 y4 y5 y6 y7 y8 y9 y10, LeO (fuglemanref20_Readers.l0 k y0 y1 y2 y3 y4 y5 y6 y7 y8 y9 y10) (fuglemanref20_Readers.l0 (k + 1) y0 y1 y2 y3 y4 y5 y6 y7 y8 y9 y10)) ∧ (∀ y0 y1 y2 y3 y4 y5 y6 y7 y8 y9 y10 y11, LeO (fuglemanref20_Readers.l1 k y0 y1 y2 y3 y4 y5 y6 y7 y8 y9 y10 y11) (fuglemanref20_Readers.l1 (k + 1) y0 y1 y2 y3 y4 y5 y6 y7 y8 y9 y10 y11))
 | 0 => ⟨fun _ _ _ _ _ _ _ _ _ _ _ r h => by simp [fuglemanref20_Readers.l0] at h, fun _ _ _ _ _ _ _ _ _ _ _ _ r h => by simp [fuglemanref20_Readers.l1] at h⟩
 | k + 1 => by
  obtain ⟨ih0, ih1⟩ := fuglemanref20_Readers.mono_l k
  refine ⟨?_, ?_⟩
  ·intro y0 y1 y2 y3 y4 y5 y6 y7 y8 y9 y10
   unfold fuglemanref20_Readers.l0
   repeat' first
   | (with_reducible exact ih0 _ _ _ _ _ _ _ _ _ _ _)
   | (with_reducible exact ih1 _ _ _ _ _ _ _ _ _ _ _ _)
   | (with_reducible exact fuglemanref05_With.mono _ _ _)
   | (with_reducible exact LeO.refl _)
   | (with_reducible exact LeO.none _)
   | (with_reducible refine LeO.ite ?_ ?_)
   | (with_reducible refine LeO.bind ?_ (fun _ => ?_))
   | exact ih0 _ _ _ _ _ _ _ _ _ _ _
   | exact ih1 _ _ _ _ _ _ _ _ _ _ _ _
   | exact fuglemanref05_With.mono _ _ _
   | exact LeO.none _
   | refine LeO.ite ?_ ?_
   | refine LeO.bind ?_ (fun _ => ?_)
  ·intro y0 y1 y2 y3 y4 y5 y6 y7 y8 y9 y10 y11
   unfold fuglemanref20_Readers.l1
   repeat' first
   | (with_reducible exact ih0 _ _ _ _ _ _ _ _ _ _ _)
   | (with_reducible exact ih1 _ _ _ _ _ _ _ _ _ _ _ _)
   | (with_reducible exact fuglemanref05_With.mono _ _ _)
   | (with_reducible exact LeO.refl _)
   | (with_reducible exact LeO.none _)
   | (with_reducible refine LeO.ite ?_ ?_)
   | (with_reducible refine LeO.bind ?_ (fun _ => ?_))
   | exact ih0 _ _ _ _ _ _ _ _ _ _ _
   | exact ih1 _ _ _ _ _ _ _ _ _ _ _ _
   | exact fuglemanref05_With.mono _ _ _
   | exact LeO.none _
   | refine LeO.ite ?_ ?_
   | refine LeO.bind ?_ (fun _ => ?_)
theorem fuglemanref20_Readers.mono : ∀ a0 a1 a2 a3 a4 a5 a6 a7 a8 k, LeO (fuglemanref20_Readers.f k a0 a1 a2 a3 a4 a5 a6 a7 a8) (fuglemanref20_Readers.f (k + 1) a0 a1 a2 a3 a4 a5 a6 a7 a8) := by
 intro a0 a1 a2 a3 a4 a5 a6 a7 a8 k
 obtain ⟨ih0, ih1⟩ := fuglemanref20_Readers.mono_l k
 unfold fuglemanref20_Readers.f
 repeat' first
   | (with_reducible exact ih0 _ _ _ _ _ _ _ _ _ _ _)
   | (with_reducible exact ih1 _ _ _ _ _ _ _ _ _ _ _ _)
   | (with_reducible exact fuglemanref05_With.mono _ _ _)
   | (with_reducible exact LeO.refl _)
   | (with_reducible exact LeO.none _)
   | (with_reducible refine LeO.ite ?_ ?_)
   | (with_reducible refine LeO.bind ?_ (fun _ => ?_))
   | exact ih0 _ _ _ _ _ _ _ _ _ _ _
   | exact ih1 _ _ _ _ _ _ _ _ _ _ _ _
   | exact fuglemanref05_With.mono _ _ _
   | exact LeO.none _
   | refine LeO.ite ?_ ?_
   | refine LeO.bind ?_ (fun _ => ?_)
set_option maxHeartbeats 8000000 in
set_option maxRecDepth 100000 in
theorem fuglemanref20_Readers.calls (k : Nat) (a0_0 : Int) (a0_1 : Int) (a0_2 : Int) (a0_3 : Int) (a0_4 : Int) (a0_5 : Int) (A0_6 : Option Addr) (c0_6 : Nat) (l0_6 : List (S63)) (A0_7 : Option Addr) (c0_7 : Nat) (l0_7 : List (S37)) (a1 : Int) (r : Int) (w : World) (hr0_6 : Kd.C k63 w A0_6 l0_6.length l0_6) (hc0_6 : l0_6.length ≤ c0_6) (hr0_7 : Kd.C k37 w A0_7 l0_7.length l0_7) (hc0_7 : l0_7.length ≤ c0_7) (h : fuglemanref20_Readers.f k a0_0 a0_1 a0_2 a0_3 a0_4 a0_5 l0_6 l0_7 a1 = some r) :
  Calls Try.prog 16 #[.agg #[.int .i64 a0_0, .int .i64 a0_1, .int .i64 a0_2, .int .i64 a0_3, .int .i64 a0_4, .int .i64 a0_5, .slice A0_6 l0_6.length c0_6, .slice A0_7 l0_7.length c0_7], .int .i64 a1] w fun e w' => e = .returned (.int .u32 r) ∧ Below w.heap.size w w' := by
 have hu25 := Try.underlying25
 have HR0_6 := Aside0.mk hr0_6
 have HC0_6 := Aside0.mk hc0_6
 clear hr0_6 hc0_6
 have HR0_7 := Aside0.mk hr0_7
 have HC0_7 := Aside0.mk hc0_7
 clear hr0_7 hc0_7
 have HB := Aside0.mk (Below.refl w.heap.size w)
 have H : (fuglemanref20_Readers.l0 k a1 0 0 a0_0 a0_1 a0_2 a0_3 a0_4 a0_5 l0_6 l0_7) = some r := h
 clear h
 have H' := Aside0.mk H
 clear H
 go_enter Try.func16, Try.ntmps16
 go_wp2_with (first | ((with_reducible refine gate_dst (N := 2) rfl ?_); refine boxK (N := 2) (#[.int .i64 a0_0, .int .i64 a0_1, .int .i64 a0_2, .int .i64 a0_3, .int .i64 a0_4, .int .i64 a0_5, .slice A0_6 l0_6.length c0_6, .slice A0_7 l0_7.length c0_7]) 25 ?_; intro gb196 hg w3 hbox hb; have BK196 := Aside0.mk (hbox); have GW196 := sG hg HB; have GE196 := sG hg HB; replace HB := sB HB hb; clear hb hbox hg))
 go_loopg [5, 6] k (fun kq v5 v6 w' => ∃ (x5_1 : Int) (x6_1 : Int), v5 = .int .u32 x5_1 ∧ v6 = .int .i64 x6_1 ∧ Aside0 (fuglemanref20_Readers.l0 kq a1 x5_1 x6_1 a0_0 a0_1 a0_2 a0_3 a0_4 a0_5 l0_6 l0_7 = some r) ∧ Aside0 (kq ≤ k) ∧ Aside0 (w'.heap[gb196]? = some (.cells #[.int .i64 a0_0, .int .i64 a0_1, .int .i64 a0_2, .int .i64 a0_3, .int .i64 a0_4, .int .i64 a0_5, (.slice A0_6 l0_6.length c0_6), (.slice A0_7 l0_7.length c0_7)] 25 (0, 0))) ∧ Aside0 (Below w.heap.size w w'))
 case atStart => exact ⟨(0), (0), (by first | rfl | (simp; done) | (simp [*]; done)), (by first | rfl | (simp; done) | (simp [*]; done)), H', ⟨Nat.le_refl _⟩, (sK0 BK196), (sB0 HB)⟩
 clear H'
 obtain ⟨x5_1, x6_1, rfl, rfl, HA, HK1, BK196, HB⟩ := hrel
 cases gk with
 | zero => exact absurd HA.out (by simp [fuglemanref20_Readers.l0])
 | succ k1 =>
  have H := HA.out
  clear HA
  simp only [fuglemanref20_Readers.l0] at H
  by_cases c4 : x6_1 < (l0_7.length : Int)
  ·rw [if_pos c4] at H
   have c4b0 : decide (x6_1 < (l0_7.length : Int)) = true := decide_eq_true c4
   clear c4
   have H' := Aside0.mk H
   clear H
   obtain ⟨z5_0, z5_1, z5_2, z5_3, z5_4, z5_5, z5_6, z5_7, q5_0, q5_1, q5_2, q5_3, q5_4, q5_5, q5_6, q5_7⟩ := bk8 BK196
   go_wp2
   go_loopg [5, 7] k1 (fun kq v5 v7 w' => ∃ (x5_2 : Int) (x7_2 : Int), v5 = .int .u32 x5_2 ∧ v7 = .int .i64 x7_2 ∧ Aside0 (fuglemanref20_Readers.l1 kq a1 x5_2 x6_1 x7_2 a0_0 a0_1 a0_2 a0_3 a0_4 a0_5 l0_6 l0_7 = some r) ∧ Aside0 (kq ≤ k1) ∧ Aside0 (w'.heap[gb196]? = some (.cells #[.int .i64 a0_0, .int .i64 a0_1, .int .i64 a0_2, .int .i64 a0_3, .int .i64 a0_4, .int .i64 a0_5, (.slice A0_6 l0_6.length c0_6), (.slice A0_7 l0_7.length c0_7)] 25 (0, 0))) ∧ Aside0 (Below w.heap.size w w'))
   case atStart => exact ⟨(x5_1), (0), (by first | rfl | (simp; done) | (simp [*]; done)), (by first | rfl | (simp; done) | (simp [*]; done)), H', ⟨Nat.le_refl _⟩, (sK0 BK196), (sB0 HB)⟩
   case round =>
    clear H'
    (try clear c4); (try clear c4b0); (try clear z5_0 z5_1 z5_2 z5_3 z5_4 z5_5 z5_6 z5_7 q5_0 q5_1 q5_2 q5_3 q5_4 q5_5 q5_6 q5_7)
    obtain ⟨x5_2, x7_2, rfl, rfl, HA, HK2, BK196, HB⟩ := hrel
    cases gk with
    | zero => exact absurd HA.out (by simp [fuglemanref20_Readers.l1])
    | succ k2 =>
     have H := HA.out
     clear HA
     simp only [fuglemanref20_Readers.l1] at H
     by_cases c6 : 0 ≤ x6_1
     ·rw [if_pos c6] at H
      have c6b0 : decide (0 ≤ x6_1) = true := decide_eq_true c6
      clear c6
      by_cases c7 : x6_1 < (l0_7.length : Int)
      ·rw [if_pos c7] at H
       have c7b0 : decide (x6_1 < (l0_7.length : Int)) = true := decide_eq_true c7
       clear c7
       by_cases c8 : x7_2 < (((rd_T37 l0_7 x6_1).f4).length : Int)
       ·rw [if_pos c8] at H
        have c8b0 : decide (x7_2 < (((rd_T37 l0_7 x6_1).f4).length : Int)) = true := decide_eq_true c8
        clear c8
        by_cases c9 : 0 ≤ x7_2
        ·rw [if_pos c9] at H
         have c9b0 : decide (0 ≤ x7_2) = true := decide_eq_true c9
         clear c9
         by_cases c10 : ((rd_T56 ((rd_T37 l0_7 x6_1).f4) x7_2).f0) = a1
         ·rw [if_pos c10] at H
          have c10b0 : (((rd_T56 ((rd_T37 l0_7 x6_1).f4) x7_2).f0) == a1) = true := beq_iff_eq.mpr c10
          have c10b1 : (((rd_T56 ((rd_T37 l0_7 x6_1).f4) x7_2).f0) != a1) = false := bne_eq_false_iff_eq.mpr c10
          clear c10
          replace H := Option.bind_eq_some_iff.mp H
          obtain ⟨t201, A110, H⟩ := H
          replace H : (fuglemanref20_Readers.l1 k2 a1 t201 x6_1 (wrap64 (x7_2 + 1)) a0_0 a0_1 a0_2 a0_3 a0_4 a0_5 l0_6 l0_7) = some r := H
          have A11 := Aside0.mk A110
          clear A110
          have H' := Aside0.mk H
          clear H
          obtain ⟨z12_0, z12_1, z12_2, z12_3, z12_4, z12_5, z12_6, z12_7, q12_0, q12_1, q12_2, q12_3, q12_4, q12_5, q12_6, q12_7⟩ := bk8 BK196
          have p197 : 0 ≤ (x6_1 : Int) := of_decide_eq_true (by first | (with_reducible assumption) | assumption)
          have q197 : x6_1 < (l0_7.length : Int) := of_decide_eq_true (by first | (with_reducible assumption) | assumption)
          obtain ⟨ad197, A197_3, c197_3, A197_4, c197_4, A197_5, c197_5, e197, hx197_0, hx197_1, hx197_2, hx197_3, hx197_4, hx197_5, hl197_3, hi197_3, hl197_4, hi197_4, hl197_5, hi197_5⟩ := at_T37 HR0_7.out x6_1 p197 q197
          cases e197
          replace hx197_0 := (HB.out.cell (World.block_lt_of_cell? w _ hx197_0)).trans hx197_0
          replace hx197_1 := (HB.out.cell (World.block_lt_of_cell? w _ hx197_1)).trans hx197_1
          replace hx197_2 := (HB.out.cell (World.block_lt_of_cell? w _ hx197_2)).trans hx197_2
          replace hx197_3 := (HB.out.cell (World.block_lt_of_cell? w _ hx197_3)).trans hx197_3
          replace hx197_4 := (HB.out.cell (World.block_lt_of_cell? w _ hx197_4)).trans hx197_4
          replace hx197_5 := (HB.out.cell (World.block_lt_of_cell? w _ hx197_5)).trans hx197_5
          have HR197_3 := Aside0.mk hi197_3
          have HC197_3 := Aside0.mk hl197_3
          clear hi197_3 hl197_3
          have HR197_4 := Aside0.mk hi197_4
          have HC197_4 := Aside0.mk hl197_4
          clear hi197_4 hl197_4
          have HR197_5 := Aside0.mk hi197_5
          have HC197_5 := Aside0.mk hl197_5
          clear hi197_5 hl197_5
          replace p197 := eq_true p197
          replace q197 := eq_true q197
          have p198 : 0 ≤ (x6_1 : Int) := of_decide_eq_true (by first | (with_reducible assumption) | assumption)
          have q198 : x6_1 < (l0_7.length : Int) := of_decide_eq_true (by first | (with_reducible assumption) | assumption)
          obtain ⟨ad198, A198_3, c198_3, A198_4, c198_4, A198_5, c198_5, e198, hx198_0, hx198_1, hx198_2, hx198_3, hx198_4, hx198_5, hl198_3, hi198_3, hl198_4, hi198_4, hl198_5, hi198_5⟩ := at_T37 HR0_7.out x6_1 p198 q198
          obtain rfl : ad197 = ad198 := (by injection e198)
          replace hx198_0 := (HB.out.cell (World.block_lt_of_cell? w _ hx198_0)).trans hx198_0
          replace hx198_1 := (HB.out.cell (World.block_lt_of_cell? w _ hx198_1)).trans hx198_1
          replace hx198_2 := (HB.out.cell (World.block_lt_of_cell? w _ hx198_2)).trans hx198_2
          replace hx198_3 := (HB.out.cell (World.block_lt_of_cell? w _ hx198_3)).trans hx198_3
          replace hx198_4 := (HB.out.cell (World.block_lt_of_cell? w _ hx198_4)).trans hx198_4
          replace hx198_5 := (HB.out.cell (World.block_lt_of_cell? w _ hx198_5)).trans hx198_5
          have HR198_3 := Aside0.mk hi198_3
          have HC198_3 := Aside0.mk hl198_3
          clear hi198_3 hl198_3
          have HR198_4 := Aside0.mk hi198_4
          have HC198_4 := Aside0.mk hl198_4
          clear hi198_4 hl198_4
          have HR198_5 := Aside0.mk hi198_5
          have HC198_5 := Aside0.mk hl198_5
          clear hi198_5 hl198_5
          replace p198 := eq_true p198
          replace q198 := eq_true q198
          have ea_ := Option.some.inj (hx197_3.symm.trans hx198_3)
          injection ea_ with ea_ en_ ec_
          subst ea_
          subst ec_
          clear en_
          have ea_ := Option.some.inj (hx197_4.symm.trans hx198_4)
          injection ea_ with ea_ en_ ec_
          subst ea_
          subst ec_
          clear en_
          have ea_ := Option.some.inj (hx197_5.symm.trans hx198_5)
          injection ea_ with ea_ en_ ec_
          subst ea_
          subst ec_
          clear en_
          have p199 : 0 ≤ (x7_2 : Int) := of_decide_eq_true (by first | (with_reducible assumption) | assumption)
          have q199 : x7_2 < (((rd_T37 l0_7 x6_1).f4).length : Int) := of_decide_eq_true (by first | (with_reducible assumption) | assumption)
          obtain ⟨ad199, e199, hx199_0, hx199_1⟩ := at_T56 HR198_4.out x7_2 p199 q199
          cases e199
          replace hx199_0 := (HB.out.cell (World.block_lt_of_cell? w _ hx199_0)).trans hx199_0
          replace hx199_1 := (HB.out.cell (World.block_lt_of_cell? w _ hx199_1)).trans hx199_1
          replace p199 := eq_true p199
          replace q199 := eq_true q199
          have p200 : 0 ≤ (x6_1 : Int) := of_decide_eq_true (by first | (with_reducible assumption) | assumption)
          have q200 : x6_1 < (l0_7.length : Int) := of_decide_eq_true (by first | (with_reducible assumption) | assumption)
          obtain ⟨ad200, A200_3, c200_3, A200_4, c200_4, A200_5, c200_5, e200, hx200_0, hx200_1, hx200_2, hx200_3, hx200_4, hx200_5, hl200_3, hi200_3, hl200_4, hi200_4, hl200_5, hi200_5⟩ := at_T37 HR0_7.out x6_1 p200 q200
          obtain rfl : ad197 = ad200 := (by injection e200)
          replace hx200_0 := (HB.out.cell (World.block_lt_of_cell? w _ hx200_0)).trans hx200_0
          replace hx200_1 := (HB.out.cell (World.block_lt_of_cell? w _ hx200_1)).trans hx200_1
          replace hx200_2 := (HB.out.cell (World.block_lt_of_cell? w _ hx200_2)).trans hx200_2
          replace hx200_3 := (HB.out.cell (World.block_lt_of_cell? w _ hx200_3)).trans hx200_3
          replace hx200_4 := (HB.out.cell (World.block_lt_of_cell? w _ hx200_4)).trans hx200_4
          replace hx200_5 := (HB.out.cell (World.block_lt_of_cell? w _ hx200_5)).trans hx200_5
          have HR200_3 := Aside0.mk hi200_3
          have HC200_3 := Aside0.mk hl200_3
          clear hi200_3 hl200_3
          have HR200_4 := Aside0.mk hi200_4
          have HC200_4 := Aside0.mk hl200_4
          clear hi200_4 hl200_4
          have HR200_5 := Aside0.mk hi200_5
          have HC200_5 := Aside0.mk hl200_5
          clear hi200_5 hl200_5
          replace p200 := eq_true p200
          replace q200 := eq_true q200
          have ea_ := Option.some.inj (hx197_3.symm.trans hx200_3)
          injection ea_ with ea_ en_ ec_
          subst ea_
          subst ec_
          clear en_
          have ea_ := Option.some.inj (hx197_4.symm.trans hx200_4)
          injection ea_ with ea_ en_ ec_
          subst ea_
          subst ec_
          clear en_
          have ea_ := Option.some.inj (hx197_5.symm.trans hx200_5)
          injection ea_ with ea_ en_ ec_
          subst ea_
          subst ec_
          clear en_
          go_wp2_with (first | ((with_reducible refine gate_callee (f := 29) rfl ?_); refine goesK (some 45) Try.func29 #[.int .u32 x5_2, .int .i64 ((rd_T37 l0_7 x6_1).f0)] ?_; (with_reducible refine (fuglemanref05_With.calls k2 x5_2 ((rd_T37 l0_7 x6_1).f0) t201 _ A11.out).mono ?_); rintro e w' ⟨rfl, ⟨nd, rfl⟩⟩; refine ⟨_, rfl, ?_⟩))
          go_roundg k2
          case measure => have := HK1.out; have := HK2.out; omega
          case rel => exact ⟨(t201), (wrap64 (x7_2 + 1)), (by first | rfl | (simp; done) | (simp [*]; done)), (by first | rfl | (simp; done) | (simp [*]; done)), H', ⟨by have := HK1.out; have := HK2.out; omega⟩, (sK0 BK196), (sB0 HB)⟩
         ·rw [if_neg c10] at H
          have c10b0 : (((rd_T56 ((rd_T37 l0_7 x6_1).f4) x7_2).f0) == a1) = false := beq_eq_false_iff_ne.mpr c10
          have c10b1 : (((rd_T56 ((rd_T37 l0_7 x6_1).f4) x7_2).f0) != a1) = true := bne_iff_ne.mpr c10
          have H' := Aside0.mk H
          clear H
          obtain ⟨z13_0, z13_1, z13_2, z13_3, z13_4, z13_5, z13_6, z13_7, q13_0, q13_1, q13_2, q13_3, q13_4, q13_5, q13_6, q13_7⟩ := bk8 BK196
          have p197 : 0 ≤ (x6_1 : Int) := of_decide_eq_true (by first | (with_reducible assumption) | assumption)
          have q197 : x6_1 < (l0_7.length : Int) := of_decide_eq_true (by first | (with_reducible assumption) | assumption)
          obtain ⟨ad197, A197_3, c197_3, A197_4, c197_4, A197_5, c197_5, e197, hx197_0, hx197_1, hx197_2, hx197_3, hx197_4, hx197_5, hl197_3, hi197_3, hl197_4, hi197_4, hl197_5, hi197_5⟩ := at_T37 HR0_7.out x6_1 p197 q197
          cases e197
          replace hx197_0 := (HB.out.cell (World.block_lt_of_cell? w _ hx197_0)).trans hx197_0
          replace hx197_1 := (HB.out.cell (World.block_lt_of_cell? w _ hx197_1)).trans hx197_1
          replace hx197_2 := (HB.out.cell (World.block_lt_of_cell? w _ hx197_2)).trans hx197_2
          replace hx197_3 := (HB.out.cell (World.block_lt_of_cell? w _ hx197_3)).trans hx197_3
          replace hx197_4 := (HB.out.cell (World.block_lt_of_cell? w _ hx197_4)).trans hx197_4
          replace hx197_5 := (HB.out.cell (World.block_lt_of_cell? w _ hx197_5)).trans hx197_5
          have HR197_3 := Aside0.mk hi197_3
          have HC197_3 := Aside0.mk hl197_3
          clear hi197_3 hl197_3
          have HR197_4 := Aside0.mk hi197_4
          have HC197_4 := Aside0.mk hl197_4
          clear hi197_4 hl197_4
          have HR197_5 := Aside0.mk hi197_5
          have HC197_5 := Aside0.mk hl197_5
          clear hi197_5 hl197_5
          replace p197 := eq_true p197
          replace q197 := eq_true q197
          have p198 : 0 ≤ (x6_1 : Int) := of_decide_eq_true (by first | (with_reducible assumption) | assumption)
          have q198 : x6_1 < (l0_7.length : Int) := of_decide_eq_true (by first | (with_reducible assumption) | assumption)
          obtain ⟨ad198, A198_3, c198_3, A198_4, c198_4, A198_5, c198_5, e198, hx198_0, hx198_1, hx198_2, hx198_3, hx198_4, hx198_5, hl198_3, hi198_3, hl198_4, hi198_4, hl198_5, hi198_5⟩ := at_T37 HR0_7.out x6_1 p198 q198
          obtain rfl : ad197 = ad198 := (by injection e198)
          replace hx198_0 := (HB.out.cell (World.block_lt_of_cell? w _ hx198_0)).trans hx198_0
          replace hx198_1 := (HB.out.cell (World.block_lt_of_cell? w _ hx198_1)).trans hx198_1
          replace hx198_2 := (HB.out.cell (World.block_lt_of_cell? w _ hx198_2)).trans hx198_2
          replace hx198_3 := (HB.out.cell (World.block_lt_of_cell? w _ hx198_3)).trans hx198_3
          replace hx198_4 := (HB.out.cell (World.block_lt_of_cell? w _ hx198_4)).trans hx198_4
          replace hx198_5 := (HB.out.cell (World.block_lt_of_cell? w _ hx198_5)).trans hx198_5
          have HR198_3 := Aside0.mk hi198_3
          have HC198_3 := Aside0.mk hl198_3
          clear hi198_3 hl198_3
          have HR198_4 := Aside0.mk hi198_4
          have HC198_4 := Aside0.mk hl198_4
          clear hi198_4 hl198_4
          have HR198_5 := Aside0.mk hi198_5
          have HC198_5 := Aside0.mk hl198_5
          clear hi198_5 hl198_5
          replace p198 := eq_true p198
          replace q198 := eq_true q198
          have ea_ := Option.some.inj (hx197_3.symm.trans hx198_3)
          injection ea_ with ea_ en_ ec_
          subst ea_
          subst ec_
          clear en_
          have ea_ := Option.some.inj (hx197_4.symm.trans hx198_4)
          injection ea_ with ea_ en_ ec_
          subst ea_
          subst ec_
          clear en_
          have ea_ := Option.some.inj (hx197_5.symm.trans hx198_5)
          injection ea_ with ea_ en_ ec_
          subst ea_
          subst ec_
          clear en_
          have p199 : 0 ≤ (x7_2 : Int) := of_decide_eq_true (by first | (with_reducible assumption) | assumption)
          have q199 : x7_2 < (((rd_T37 l0_7 x6_1).f4).length : Int) := of_decide_eq_true (by first | (with_reducible assumption) | assumption)
          obtain ⟨ad199, e199, hx199_0, hx199_1⟩ := at_T56 HR198_4.out x7_2 p199 q199
          cases e199
          replace hx199_0 := (HB.out.cell (World.block_lt_of_cell? w _ hx199_0)).trans hx199_0
          replace hx199_1 := (HB.out.cell (World.block_lt_of_cell? w _ hx199_1)).trans hx199_1
          replace p199 := eq_true p199
          replace q199 := eq_true q199
          go_wp2
          go_roundg k2
          case measure => have := HK1.out; have := HK2.out; omega
          case rel => exact ⟨(x5_2), (wrap64 (x7_2 + 1)), (by first | rfl | (simp; done) | (simp [*]; done)), (by first | rfl | (simp; done) | (simp [*]; done)), H', ⟨by have := HK1.out; have := HK2.out; omega⟩, (sK0 BK196), (sB0 HB)⟩
        ·rw [if_neg c9] at H
         exact absurd H (by simp)
       ·rw [if_neg c8] at H
        have c8b0 : decide (x7_2 < (((rd_T37 l0_7 x6_1).f4).length : Int)) = false := decide_eq_false c8
        clear c8
        have H' := Aside0.mk H
        clear H
        obtain ⟨z14_0, z14_1, z14_2, z14_3, z14_4, z14_5, z14_6, z14_7, q14_0, q14_1, q14_2, q14_3, q14_4, q14_5, q14_6, q14_7⟩ := bk8 BK196
        have p197 : 0 ≤ (x6_1 : Int) := of_decide_eq_true (by first | (with_reducible assumption) | assumption)
        have q197 : x6_1 < (l0_7.length : Int) := of_decide_eq_true (by first | (with_reducible assumption) | assumption)
        obtain ⟨ad197, A197_3, c197_3, A197_4, c197_4, A197_5, c197_5, e197, hx197_0, hx197_1, hx197_2, hx197_3, hx197_4, hx197_5, hl197_3, hi197_3, hl197_4, hi197_4, hl197_5, hi197_5⟩ := at_T37 HR0_7.out x6_1 p197 q197
        cases e197
        replace hx197_0 := (HB.out.cell (World.block_lt_of_cell? w _ hx197_0)).trans hx197_0
        replace hx197_1 := (HB.out.cell (World.block_lt_of_cell? w _ hx197_1)).trans hx197_1
        replace hx197_2 := (HB.out.cell (World.block_lt_of_cell? w _ hx197_2)).trans hx197_2
        replace hx197_3 := (HB.out.cell (World.block_lt_of_cell? w _ hx197_3)).trans hx197_3
        replace hx197_4 := (HB.out.cell (World.block_lt_of_cell? w _ hx197_4)).trans hx197_4
        replace hx197_5 := (HB.out.cell (World.block_lt_of_cell? w _ hx197_5)).trans hx197_5
        have HR197_3 := Aside0.mk hi197_3
        have HC197_3 := Aside0.mk hl197_3
        clear hi197_3 hl197_3
        have HR197_4 := Aside0.mk hi197_4
        have HC197_4 := Aside0.mk hl197_4
        clear hi197_4 hl197_4
        have HR197_5 := Aside0.mk hi197_5
        have HC197_5 := Aside0.mk hl197_5
        clear hi197_5 hl197_5
        replace p197 := eq_true p197
        replace q197 := eq_true q197
        go_wp2
        go_roundg k2
        case measure => have := HK1.out; have := HK2.out; omega
        case rel => exact ⟨(x5_2), (wrap64 (x6_1 + 1)), (by first | rfl | (simp; done) | (simp [*]; done)), (by first | rfl | (simp; done) | (simp [*]; done)), H', ⟨by have := HK1.out; have := HK2.out; omega⟩, (sK0 BK196), (sB0 HB)⟩
      ·rw [if_neg c7] at H
       exact absurd H (by simp)
     ·rw [if_neg c6] at H
      exact absurd H (by simp)
  ·rw [if_neg c4] at H
   have c4b0 : decide (x6_1 < (l0_7.length : Int)) = false := decide_eq_false c4
   clear c4
   obtain rfl := Option.some.inj H
   obtain ⟨z15_0, z15_1, z15_2, z15_3, z15_4, z15_5, z15_6, z15_7, q15_0, q15_1, q15_2, q15_3, q15_4, q15_5, q15_6, q15_7⟩ := bk8 BK196
   go_wp2
   go_ret
   exact sEnd HB

/-! ### config_Values: function 17 -/
def config_Values.l0 : Nat → List Int → List (S56) → Int → Int → Int → Int → Int → Int → Int → Int → List (S63) → List (S37) → Option (List Int)
 | 0, _, _, _, _, _, _, _, _, _, _, _, _ => none
 | k + 1, x5, x11, x12, x13, x203000, x203001, x203002, x203003, x203004, x203005, x203006, x203007 => if x13 < x12 then (if 0 ≤ x13 then (if x13 < (x11.length : Int) then ((blocks_Find.f x203006 ((rd_T56 x11 x13).f0)).bind fun bt206 => (if x5.length < 17592186044416 then (config_Values.l0 k (x5 ++ [bt206.2.2.1]) x11 x12 (wrap64 (x13 + 1)) x203000 x203001 x203002 x203003 x203004 x203005 x203006 x203007) else (none))) else (none)) else (none)) else (some x5)
def config_Values.f (k : Nat) (a0_0 : Int) (a0_1 : Int) (a0_2 : Int) (a0_3 : Int) (a0_4 : Int) (a0_5 : Int) (l0_6 : List (S63)) (l0_7 : List (S37)) (a1_0 : Int) (a1_1 : Int) (a1_2 : Int) (l1_3 : List (S54)) (l1_4 : List (S56)) (l1_5 : List (S56)) : Option (List Int) := config_Values.l0 k ([] : List Int) l1_4 (l1_4.length : Int) 0 a0_0 a0_1 a0_2 a0_3 a0_4 a0_5 l0_6 l0_7
theorem config_Values.mono_l : ∀ k, (∀ y0 y1 y2 y3 y4 y5 y6 y7 y8 y9 y10 y11, LeO (config_Values.l0 k y0 y1 y2 y3 y4 y5 y6 y7 y8 y9 y10 y11) (config_Values.l0 (k + 1) y0 y1 y2 y3 y4 y5 y6 y7 y8 y9 y10 y11))
 | 0 => fun _ _ _ _ _ _ _ _ _ _ _ _ r h => by simp [config_Values.l0] at h
 | k + 1 => by
  have ih0 := config_Values.mono_l k
  ·intro y0 y1 y2 y3 y4 y5 y6 y7 y8 y9 y10 y11
   unfold config_Values.l0
   repeat' first
   | (with_reducible exact ih0 _ _ _ _ _ _ _ _ _ _ _ _)
   | (with_reducible exact LeO.refl _)
   | (with_reducible exact LeO.none _)
   | (with_reducible refine LeO.ite ?_ ?_)
   | (with_reducible refine LeO.bind ?_ (fun _ => ?_))
   | exact ih0 _ _ _ _ _ _ _ _ _ _ _ _
   | exact LeO.none _
   | refine LeO.ite ?_ ?_
   | refine LeO.bind ?_ (fun _ => ?_)
theorem config_Values.mono : ∀ a0 a1 a2 a3 a4 a5 a6 a7 a8 a9 a10 a11 a12 a13 k, LeO (config_Values.f k a0 a1 a2 a3 a4 a5 a6 a7 a8 a9 a10 a11 a12 a13) (config_Values.f (k + 1) a0 a1 a2 a3 a4 a5 a6 a7 a8 a9 a10 a11 a12 a13) := by
 intro a0 a1 a2 a3 a4 a5 a6 a7 a8 a9 a10 a11 a12 a13 k
 have ih0 := config_Values.mono_l k
 unfold config_Values.f
 repeat' first
   | (with_reducible exact ih0 _ _ _ _ _ _ _ _ _ _ _ _)
   | (with_reducible exact LeO.refl _)
   | (with_reducible exact LeO.none _)
   | (with_reducible refine LeO.ite ?_ ?_)
   | (with_reducible refine LeO.bind ?_ (fun _ => ?_))
   | exact ih0 _ _ _ _ _ _ _ _ _ _ _ _
   | exact LeO.none _
   | refine LeO.ite ?_ ?_
   | refine LeO.bind ?_ (fun _ => ?_)
set_option maxHeartbeats 8000000 in
set_option maxRecDepth 100000 in
theorem config_Values.calls (k : Nat) (a0_0 : Int) (a0_1 : Int) (a0_2 : Int) (a0_3 : Int) (a0_4 : Int) (a0_5 : Int) (A0_6 : Option Addr) (c0_6 : Nat) (l0_6 : List (S63)) (A0_7 : Option Addr) (c0_7 : Nat) (l0_7 : List (S37)) (a1_0 : Int) (a1_1 : Int) (a1_2 : Int) (A1_3 : Option Addr) (c1_3 : Nat) (l1_3 : List (S54)) (A1_4 : Option Addr) (c1_4 : Nat) (l1_4 : List (S56)) (A1_5 : Option Addr) (c1_5 : Nat) (l1_5 : List (S56)) (r : List Int) (w : World) (hr0_6 : Kd.C k63 w A0_6 l0_6.length l0_6) (hc0_6 : l0_6.length ≤ c0_6) (hr0_7 : Kd.C k37 w A0_7 l0_7.length l0_7) (hc0_7 : l0_7.length ≤ c0_7) (hr1_3 : Kd.C k54 w A1_3 l1_3.length l1_3) (hc1_3 : l1_3.length ≤ c1_3) (hr1_4 : Kd.C k56 w A1_4 l1_4.length l1_4) (hc1_4 : l1_4.length ≤ c1_4) (hr1_5 : Kd.C k56 w A1_5 l1_5.length l1_5) (hc1_5 : l1_5.length ≤ c1_5) (h : config_Values.f k a0_0 a0_1 a0_2 a0_3 a0_4 a0_5 l0_6 l0_7 a1_0 a1_1 a1_2 l1_3 l1_4 l1_5 = some r) :
  Calls Try.prog 17 #[.agg #[.int .i64 a0_0, .int .i64 a0_1, .int .i64 a0_2, .int .i64 a0_3, .int .i64 a0_4, .int .i64 a0_5, .slice A0_6 l0_6.length c0_6, .slice A0_7 l0_7.length c0_7], .agg #[.int .i64 a1_0, .int .i64 a1_1, .int .i64 a1_2, .slice A1_3 l1_3.length c1_3, .slice A1_4 l1_4.length c1_4, .slice A1_5 l1_5.length c1_5]] w fun e w' => ∃ v0_ : Value, e = .returned (v0_) ∧ Kd.R (Kd.int .i64) 3 w' w.heap.size (fun _ => True) v0_ r ∧ Below w.heap.size w w' := by
 have hu25 := Try.underlying25
 have hu37 := Try.underlying37
 have hu56 := Try.underlying56
 have hu63 := Try.underlying63
 have HR0_6 := Aside0.mk hr0_6
 have HC0_6 := Aside0.mk hc0_6
 clear hr0_6 hc0_6
 have HR0_7 := Aside0.mk hr0_7
 have HC0_7 := Aside0.mk hc0_7
 clear hr0_7 hc0_7
 have HR1_3 := Aside0.mk hr1_3
 have HC1_3 := Aside0.mk hc1_3
 clear hr1_3 hc1_3
 have HR1_4 := Aside0.mk hr1_4
 have HC1_4 := Aside0.mk hc1_4
 clear hr1_4 hc1_4
 have HR1_5 := Aside0.mk hr1_5
 have HC1_5 := Aside0.mk hc1_5
 clear hr1_5 hc1_5
 have HB := Aside0.mk (Below.refl w.heap.size w)
 have H : (config_Values.l0 k ([] : List Int) l1_4 (l1_4.length : Int) 0 a0_0 a0_1 a0_2 a0_3 a0_4 a0_5 l0_6 l0_7) = some r := h
 clear h
 have H' := Aside0.mk H
 clear H
 go_enter Try.func17, Try.ntmps17
 go_wp2_with (first | ((with_reducible refine gate_dst (N := 2) rfl ?_); refine boxK (N := 2) (#[.int .i64 a0_0, .int .i64 a0_1, .int .i64 a0_2, .int .i64 a0_3, .int .i64 a0_4, .int .i64 a0_5, .slice A0_6 l0_6.length c0_6, .slice A0_7 l0_7.length c0_7]) 25 ?_; intro gb202 hg w3 hbox hb; have BK202 := Aside0.mk (hbox); have GW202 := sG hg HB; have GE202 := sG hg HB; replace HB := sB HB hb; clear hb hbox hg) | ((with_reducible refine gate_dst (N := 3) rfl ?_); refine boxK (N := 3) (#[.int .i64 a1_0, .int .i64 a1_1, .int .i64 a1_2, .slice A1_3 l1_3.length c1_3, .slice A1_4 l1_4.length c1_4, .slice A1_5 l1_5.length c1_5]) 37 ?_; intro gb203 hg w4 hbox hb; have BK203 := Aside0.mk (hbox); have GW203 := sG hg HB; have GE203 := sG hg HB; replace HB := sB HB hb; have NB202_203 := sNl hg BK202; have NB203_202 := sNg hg BK202; replace BK202 := sK BK202 hb; clear hb hbox hg; have hnb5 := NB203_202.out; have hnc5 := NB202_203.out; obtain ⟨z6_0, z6_1, z6_2, z6_3, z6_4, z6_5, q6_0, q6_1, q6_2, q6_3, q6_4, q6_5⟩ := bk6 BK203))
 go_loopg [5, 13] k (fun kq v5 v13 w' => ∃ (x5_1 : List Int) (x13_1 : Int), v13 = .int .i64 x13_1 ∧ Aside0 (config_Values.l0 kq x5_1 l1_4 (l1_4.length : Int) x13_1 a0_0 a0_1 a0_2 a0_3 a0_4 a0_5 l0_6 l0_7 = some r) ∧ Aside0 (kq ≤ k) ∧ Aside0 (Kd.R (Kd.int .i64) 3 w' w.heap.size (fun _ => True) v5 x5_1) ∧ Aside0 (w'.heap[gb202]? = some (.cells #[.int .i64 a0_0, .int .i64 a0_1, .int .i64 a0_2, .int .i64 a0_3, .int .i64 a0_4, .int .i64 a0_5, (.slice A0_6 l0_6.length c0_6), (.slice A0_7 l0_7.length c0_7)] 25 (0, 0))) ∧ Aside0 (w'.heap[gb203]? = some (.cells #[.int .i64 a1_0, .int .i64 a1_1, .int .i64 a1_2, (.slice A1_3 l1_3.length c1_3), (.slice A1_4 l1_4.length c1_4), (.slice A1_5 l1_5.length c1_5)] 37 (0, 0))) ∧ Aside0 (Below w.heap.size w w'))
 case atStart => exact ⟨(([] : List Int)), (0), (by first | rfl | (simp; done) | (simp [*]; done)), H', ⟨Nat.le_refl _⟩, ⟨by first | exact Kd.R_nil _ _ _ _ _ | exact Kd.N_nil _ _ _ _ _ | exact Kd.V_nil _ _ _ _ _ | exact Kd.Q_nil _ _ _ _ _ | exact Kd.S_nil _ _ _ _ _⟩, (sK0 BK202), (sK0 BK203), (sB0 HB)⟩
 clear H'
 (try clear z6_0 z6_1 z6_2 z6_3 z6_4 z6_5 q6_0 q6_1 q6_2 q6_3 q6_4 q6_5)
 obtain ⟨x5_1, x13_1, rfl, HA, HK1, HO_5, BK202, BK203, HB⟩ := hrel
 cases gk with
 | zero => exact absurd HA.out (by simp [config_Values.l0])
 | succ k1 =>
  have H := HA.out
  clear HA
  simp only [config_Values.l0] at H
  by_cases c7 : x13_1 < (l1_4.length : Int)
  ·rw [if_pos c7] at H
   have c7b0 : decide (x13_1 < (l1_4.length : Int)) = true := decide_eq_true c7
   clear c7
   by_cases c8 : 0 ≤ x13_1
   ·rw [if_pos c8] at H
    have c8b0 : decide (0 ≤ x13_1) = true := decide_eq_true c8
    clear c8
    by_cases c9 : x13_1 < (l1_4.length : Int)
    ·rw [if_pos c9] at H
     have c9b0 : decide (x13_1 < (l1_4.length : Int)) = true := decide_eq_true c9
     clear c9
     replace H := Option.bind_eq_some_iff.mp H
     obtain ⟨⟨t206, t207, t208, t209, t210⟩, A100, H⟩ := H
     replace H : (if x5_1.length < 17592186044416 then (config_Values.l0 k1 (x5_1 ++ [t208]) l1_4 (l1_4.length : Int) (wrap64 (x13_1 + 1)) a0_0 a0_1 a0_2 a0_3 a0_4 a0_5 l0_6 l0_7) else (none)) = some r := H
     have A10 := Aside0.mk A100
     clear A100
     by_cases c11 : x5_1.length < 17592186044416
     ·rw [if_pos c11] at H
      have LMc11 := Aside0.mk c11
      clear c11
      obtain ⟨y212, hy212⟩ : ∃ y_ : List Int, y_ = (x5_1 ++ [t208]) := ⟨_, rfl⟩
      replace H : (config_Values.l0 k1 y212 l1_4 (l1_4.length : Int) (wrap64 (x13_1 + 1)) a0_0 a0_1 a0_2 a0_3 a0_4 a0_5 l0_6 l0_7) = some r := by first | (rw [hy212]; with_reducible exact H) | (have H2_ := (Option.bind_some _ _).symm.trans H; rw [hy212]; with_reducible exact H2_) | (have H2_ := (Option.bind_some _ _).symm.trans H; with_reducible exact H2_) | with_reducible exact H | (rw [hy212]; exact H) | exact H
      have Ny212 := Aside0.mk hy212
      clear hy212
      have H' := Aside0.mk H
      clear H
      have p204 : 0 ≤ (x13_1 : Int) := of_decide_eq_true (by first | (with_reducible assumption) | assumption)
      have q204 : x13_1 < (l1_4.length : Int) := of_decide_eq_true (by first | (with_reducible assumption) | assumption)
      obtain ⟨ad204, e204, hx204_0, hx204_1⟩ := at_T56 HR1_4.out x13_1 p204 q204
      cases e204
      replace hx204_0 := (HB.out.cell (World.block_lt_of_cell? w _ hx204_0)).trans hx204_0
      replace hx204_1 := (HB.out.cell (World.block_lt_of_cell? w _ hx204_1)).trans hx204_1
      replace p204 := eq_true p204
      replace q204 := eq_true q204
      go_wp2_with (first | ((with_reducible refine gate_dst (N := 7) rfl ?_); refine boxK (N := 7) (#[.int .i64 0, .int .i64 0]) 56 ?_; intro gb205 hg w12 hbox hb; replace HO_5 := sR HO_5 hb; have BK205 := Aside0.mk (hbox); have GW205 := sG hg HB; have GE205 := sG hg HB; replace HB := sB HB hb; have NB202_205 := sNl hg BK202; have NB205_202 := sNg hg BK202; replace BK202 := sK BK202 hb; have NB203_205 := sNl hg BK203; have NB205_203 := sNg hg BK203; replace BK203 := sK BK203 hb; clear hb hbox hg; have hnb13 := NB205_202.out; have hnc13 := NB202_205.out; have hnb14 := NB205_203.out; have hnc14 := NB203_205.out; obtain ⟨z15_0, z15_1, q15_0, q15_1⟩ := bk2 BK205; have hnb16 := NB202_203.out; have hnc16 := NB203_202.out; obtain ⟨z17_0, z17_1, z17_2, z17_3, z17_4, z17_5, z17_6, z17_7, q17_0, q17_1, q17_2, q17_3, q17_4, q17_5, q17_6, q17_7⟩ := bk8 BK202) | ((with_reducible refine gate_callee (f := 33) rfl ?_); refine goesK (some 22) Try.func33 #[.slice A0_6 l0_6.length c0_6, .int .i64 ((rd_T56 l1_4 x13_1).f0)] ?_; (with_reducible refine (blocks_Find.calls _ _ l0_6 ((rd_T56 l1_4 x13_1).f0) t206 t207 t208 t209 t210 _ ?side1 ?side2 A10.out).mono ?_); (case side1 => exact sCb HR0_6 HB); (case side2 => exact HC0_6.out); rintro e w18 ⟨rfl, hb⟩; refine ⟨_, rfl, ?_⟩; replace HO_5 := Aside0.mk (Kd.R_below (by (with_reducible repeat (first | apply Kd.R_alloc | apply Kd.R_drewN | apply Kd.R_drew)); exact (sfR (Kd.R_types HO_5.out BK205.out (by decide)))) hb); replace BK202 := sKp (.cells #[.int .i64 a0_0, .int .i64 a0_1, .int .i64 a0_2, .int .i64 a0_3, .int .i64 a0_4, .int .i64 a0_5, .slice A0_6 l0_6.length c0_6, .slice A0_7 l0_7.length c0_7] 25 (0, 0)) BK202 hb; replace BK203 := sKp (.cells #[.int .i64 a1_0, .int .i64 a1_1, .int .i64 a1_2, .slice A1_3 l1_3.length c1_3, .slice (some ad204) l1_4.length c1_4, .slice A1_5 l1_5.length c1_5] 37 (0, 0)) BK203 hb; replace BK205 := sKp (.cells #[.int .i64 ((rd_T56 l1_4 x13_1).f0), .int .i64 ((rd_T56 l1_4 x13_1).f1)] 56 (0, 0)) BK205 hb; replace HB := sB HB hb; (try clear hb)) | ((with_reducible refine gate_dst (N := 8) rfl ?_); refine boxK (N := 8) (#[.int .i64 0, .int .i64 0, .int .i64 0, .bool false]) 63 ?_; intro gb211 hg w19 hbox hb; replace HO_5 := sR HO_5 hb; have BK211 := Aside0.mk (hbox); have GW211 := sG hg HB; have GE211 := sG hg HB; replace HB := sB HB hb; have NB202_211 := sNl hg BK202; have NB211_202 := sNg hg BK202; replace BK202 := sK BK202 hb; have NB203_211 := sNl hg BK203; have NB211_203 := sNg hg BK203; replace BK203 := sK BK203 hb; have NB205_211 := sNl hg BK205; have NB211_205 := sNg hg BK205; replace BK205 := sK BK205 hb; clear hb hbox hg; have hnb20 := NB211_202.out; have hnc20 := NB202_211.out; have hnb21 := NB211_203.out; have hnc21 := NB203_211.out; have hnb22 := NB211_205.out; have hnc22 := NB205_211.out; obtain ⟨z23_0, z23_1, z23_2, z23_3, q23_0, q23_1, q23_2, q23_3⟩ := bk4 BK211) | ((with_reducible refine gate_builtin (b := .append) (xs := #[.tmp 25, .tmp 28]) rfl ?_); at_builtin; refine Kd.R_append (Kd.int .i64) (w0 := w) w.heap.size rfl (.tmp 25) (.tmp 28) 45 3 (.int .i64 0) 8 rfl Try.underlying45 info3 rfl (by decide) (by omega) u5 x5_1 t208 [.int .i64 t208] (fun _ => True) (fun _ => False) rfl (by first | (go_simp; done) | (go_simp; rfl)) ?aP (fun _ hk => hk.elim) ?aF ?aO ?aB ?aS ?aL ?_; (case aP => exact rfl); (case aB => exact (by repeat (first | (with_reducible first | exact HB.out | apply below_alloc | apply pw_below_drewN | apply below_drew1 | refine below_set ?_ (Aside0.out (by assumption))) | exact HB.out))); (case aF => exact (fun _ _ => trivial)); (case aO => exact (by (with_reducible repeat (first | apply Kd.R_alloc | apply Kd.R_drewN | apply Kd.R_drew)); exact Kd.R_mono (Kd.R_far (p := ⟨gb211, 3, none⟩) (Kd.R_far (p := ⟨gb211, 2, none⟩) (Kd.R_far (p := ⟨gb211, 1, none⟩) (Kd.R_far (p := ⟨gb211, 0, none⟩) (Kd.R_types HO_5.out BK211.out (by decide)) (fun _ hk => hk.2) (.int .i64 t206)) (fun _ hk => hk.2) (.int .i64 t207)) (fun _ hk => hk.2) (.int .i64 t208)) (fun _ hk => hk.2) (.bool t209)) (fun _ hk => trivial))); (case aS => exact (below_size (by repeat (first | (with_reducible first | exact HB.out | apply below_alloc | apply pw_below_drewN | apply below_drew1 | refine below_set ?_ (Aside0.out (by assumption))) | exact HB.out)))); (case aL => have := LMc11.out; omega); intro v213 w24 ho hb hg hat; rw [← Ny212.out] at ho; replace BK202 := Aside0.mk (blk_grown (g := gb202) (o := .cells #[.int .i64 a0_0, .int .i64 a0_1, .int .i64 a0_2, .int .i64 a0_3, .int .i64 a0_4, .int .i64 a0_5, .slice A0_6 l0_6.length c0_6, .slice A0_7 l0_7.length c0_7] 25 (0, 0)) (sKq BK202) hg (Kd.R_ne HO_5.out BK202.out (by decide))); replace BK203 := Aside0.mk (blk_grown (g := gb203) (o := .cells #[.int .i64 a1_0, .int .i64 a1_1, .int .i64 a1_2, .slice A1_3 l1_3.length c1_3, .slice (some ad204) l1_4.length c1_4, .slice A1_5 l1_5.length c1_5] 37 (0, 0)) (sKq BK203) hg (Kd.R_ne HO_5.out BK203.out (by decide))); replace BK205 := Aside0.mk (blk_grown (g := gb205) (o := .cells #[.int .i64 ((rd_T56 l1_4 x13_1).f0), .int .i64 ((rd_T56 l1_4 x13_1).f1)] 56 (0, 0)) (sKq BK205) hg (Kd.R_ne HO_5.out BK205.out (by decide))); replace BK211 := Aside0.mk (blk_grown (g := gb211) (o := .cells #[.int .i64 t206, .int .i64 t207, .int .i64 t208, .bool t209] 63 (0, 0)) (sKq BK211) hg (Kd.R_ne HO_5.out BK211.out (by decide))); replace HB := Aside0.mk (hb); have HO214 := Aside0.mk (ho); clear HO_5; clear ho hb hg hat))
      go_roundg k1
      case measure => have := HK1.out; omega
      case rel => exact ⟨(y212), (wrap64 (x13_1 + 1)), (by first | rfl | (simp; done) | (simp [*]; done)), H', ⟨by have := HK1.out; omega⟩, (sR0 HO214), (sK0 BK202), (sK0 BK203), (sB0 HB)⟩
     ·rw [if_neg c11] at H
      exact absurd H (by simp)
    ·rw [if_neg c9] at H
     exact absurd H (by simp)
   ·rw [if_neg c8] at H
    exact absurd H (by simp)
  ·rw [if_neg c7] at H
   have c7b0 : decide (x13_1 < (l1_4.length : Int)) = false := decide_eq_false c7
   clear c7
   obtain rfl := Option.some.inj H
   go_wp2
   go_ret
   exact ⟨_, by first | rfl | (simp [errW_none, errW_some] <;> rfl) | (simp [*, errW_none, errW_some] <;> rfl), by (with_reducible repeat (first | apply Kd.R_alloc | apply Kd.R_drewN | apply Kd.R_drew)); exact HO_5.out, by repeat (first | (with_reducible first | exact HB.out | apply below_alloc | apply pw_below_drewN | apply below_drew1 | refine below_set ?_ (Aside0.out (by assumption))) | exact HB.out)⟩

/-! ### fuglemanref16_Find: function 34 -/
def fuglemanref16_Find.l0 : Nat → List (S63) → Int → Int → Option (Int × Int × Int × Bool × Bool)
 | 0, _, _, _ => none
 | k + 1, x0, x1, x6 => if x6 < (x0.length : Int) then (if 0 ≤ x6 then (if ((rd_T63 x0 x6).f0) = x1 then (some ((rd_T63 x0 x6).f0, (rd_T63 x0 x6).f1, (rd_T63 x0 x6).f2, (rd_T63 x0 x6).f3, true)) else (fuglemanref16_Find.l0 k x0 x1 (wrap64 (x6 + 1)))) else (none)) else (some (0, 0, 0, false, false))
def fuglemanref16_Find.f (k : Nat) (l0 : List (S63)) (a1 : Int) : Option (Int × Int × Int × Bool × Bool) := fuglemanref16_Find.l0 k l0 a1 0
theorem fuglemanref16_Find.mono_l : ∀ k, (∀ y0 y1 y2, LeO (fuglemanref16_Find.l0 k y0 y1 y2) (fuglemanref16_Find.l0 (k + 1) y0 y1 y2))
 | 0 => fun _ _ _ r h => by simp [fuglemanref16_Find.l0] at h
 | k + 1 => by
  have ih0 := fuglemanref16_Find.mono_l k
  ·intro y0 y1 y2
   unfold fuglemanref16_Find.l0
   repeat' first
   | (with_reducible exact ih0 _ _ _)
   | (with_reducible exact LeO.refl _)
   | (with_reducible exact LeO.none _)
   | (with_reducible refine LeO.ite ?_ ?_)
   | (with_reducible refine LeO.bind ?_ (fun _ => ?_))
   | exact ih0 _ _ _
   | exact LeO.none _
   | refine LeO.ite ?_ ?_
   | refine LeO.bind ?_ (fun _ => ?_)
theorem fuglemanref16_Find.mono : ∀ a0 a1 k, LeO (fuglemanref16_Find.f k a0 a1) (fuglemanref16_Find.f (k + 1) a0 a1) := by
 intro a0 a1 k
 have ih0 := fuglemanref16_Find.mono_l k
 unfold fuglemanref16_Find.f
 repeat' first
   | (with_reducible exact ih0 _ _ _)
   | (with_reducible exact LeO.refl _)
   | (with_reducible exact LeO.none _)
   | (with_reducible refine LeO.ite ?_ ?_)
   | (with_reducible refine LeO.bind ?_ (fun _ => ?_))
   | exact ih0 _ _ _
   | exact LeO.none _
   | refine LeO.ite ?_ ?_
   | refine LeO.bind ?_ (fun _ => ?_)
set_option maxHeartbeats 8000000 in
set_option maxRecDepth 100000 in
theorem fuglemanref16_Find.calls (k : Nat) (A0 : Option Addr) (c0 : Nat) (l0 : List (S63)) (a1 : Int) (r1 : Int) (r2 : Int) (r3 : Int) (r4 : Bool) (r5 : Bool) (w : World) (hr0 : Kd.C k63 w A0 l0.length l0) (hc0 : l0.length ≤ c0) (h : fuglemanref16_Find.f k l0 a1 = some (r1, r2, r3, r4, r5)) :
  Calls Try.prog 34 #[.slice A0 l0.length c0, .int .i64 a1] w fun e w' => e = .returned (.tuple #[.agg #[.int .i64 r1, .int .i64 r2, .int .i64 r3, .bool r4], .bool r5]) ∧ Below w.heap.size w w' := by
 have hu63 := Try.underlying63
 have HR0 := Aside0.mk hr0
 have HC0 := Aside0.mk hc0
 clear hr0 hc0
 have HB := Aside0.mk (Below.refl w.heap.size w)
 have H : (fuglemanref16_Find.l0 k l0 a1 0) = some (r1, r2, r3, r4, r5) := h
 clear h
 have H' := Aside0.mk H
 clear H
 go_enter Try.func34, Try.ntmps34
 go_wp2_with (first | ((with_reducible refine gate_dst (N := 4) rfl ?_); refine boxK (N := 4) (#[.int .i64 0, .int .i64 0, .int .i64 0, .bool false]) 63 ?_; intro gb215 hg w3 hbox hb; have BK215 := Aside0.mk (hbox); have GW215 := sG hg HB; have GE215 := sG hg HB; replace HB := sB HB hb; clear hb hbox hg))
 go_loopg [6] k (fun kq v6 w' => ∃ (x6_1 : Int) (x216000_1 : Int) (x216001_1 : Int) (x216002_1 : Int) (x216003_1 : Bool), v6 = .int .i64 x6_1 ∧ Aside0 (fuglemanref16_Find.l0 kq l0 a1 x6_1 = some (r1, r2, r3, r4, r5)) ∧ Aside0 (kq ≤ k) ∧ Aside0 (w'.heap[gb215]? = some (.cells #[.int .i64 x216000_1, .int .i64 x216001_1, .int .i64 x216002_1, .bool x216003_1] 63 (0, 0))) ∧ Aside0 (Below w.heap.size w w'))
 case atStart => exact ⟨(0), (0), (0), (0), (false), (by first | rfl | (simp; done) | (simp [*]; done)), H', ⟨Nat.le_refl _⟩, (sK0 BK215), (sB0 HB)⟩
 clear H'
 obtain ⟨x6_1, x216000_1, x216001_1, x216002_1, x216003_1, rfl, HA, HK1, BK215, HB⟩ := hrel
 cases gk with
 | zero => exact absurd HA.out (by simp [fuglemanref16_Find.l0])
 | succ k1 =>
  have H := HA.out
  clear HA
  simp only [fuglemanref16_Find.l0] at H
  by_cases c4 : x6_1 < (l0.length : Int)
  ·rw [if_pos c4] at H
   have c4b0 : decide (x6_1 < (l0.length : Int)) = true := decide_eq_true c4
   clear c4
   by_cases c5 : 0 ≤ x6_1
   ·rw [if_pos c5] at H
    have c5b0 : decide (0 ≤ x6_1) = true := decide_eq_true c5
    clear c5
    by_cases c6 : ((rd_T63 l0 x6_1).f0) = a1
    ·rw [if_pos c6] at H
     have c6b0 : (((rd_T63 l0 x6_1).f0) == a1) = true := beq_iff_eq.mpr c6
     have c6b1 : (((rd_T63 l0 x6_1).f0) != a1) = false := bne_eq_false_iff_eq.mpr c6
     clear c6
     simp only [Option.some.injEq, Prod.mk.injEq] at H
     obtain ⟨rfl, rfl, rfl, rfl, rfl⟩ := H
     have p216 : 0 ≤ (x6_1 : Int) := of_decide_eq_true (by first | (with_reducible assumption) | assumption)
     have q216 : x6_1 < (l0.length : Int) := of_decide_eq_true (by first | (with_reducible assumption) | assumption)
     obtain ⟨ad216, e216, hx216_0, hx216_1, hx216_2, hx216_3⟩ := at_T63 HR0.out x6_1 p216 q216
     cases e216
     replace hx216_0 := (HB.out.cell (World.block_lt_of_cell? w _ hx216_0)).trans hx216_0
     replace hx216_1 := (HB.out.cell (World.block_lt_of_cell? w _ hx216_1)).trans hx216_1
     replace hx216_2 := (HB.out.cell (World.block_lt_of_cell? w _ hx216_2)).trans hx216_2
     replace hx216_3 := (HB.out.cell (World.block_lt_of_cell? w _ hx216_3)).trans hx216_3
     replace p216 := eq_true p216
     replace q216 := eq_true q216
     have p217 : 0 ≤ (x6_1 : Int) := of_decide_eq_true (by first | (with_reducible assumption) | assumption)
     have q217 : x6_1 < (l0.length : Int) := of_decide_eq_true (by first | (with_reducible assumption) | assumption)
     obtain ⟨ad217, e217, hx217_0, hx217_1, hx217_2, hx217_3⟩ := at_T63 HR0.out x6_1 p217 q217
     obtain rfl : ad216 = ad217 := (by injection e217)
     replace hx217_0 := (HB.out.cell (World.block_lt_of_cell? w _ hx217_0)).trans hx217_0
     replace hx217_1 := (HB.out.cell (World.block_lt_of_cell? w _ hx217_1)).trans hx217_1
     replace hx217_2 := (HB.out.cell (World.block_lt_of_cell? w _ hx217_2)).trans hx217_2
     replace hx217_3 := (HB.out.cell (World.block_lt_of_cell? w _ hx217_3)).trans hx217_3
     replace p217 := eq_true p217
     replace q217 := eq_true q217
     obtain ⟨z7_0, z7_1, z7_2, z7_3, q7_0, q7_1, q7_2, q7_3⟩ := bk4 BK215
     go_wp2
     refine bodyPost_ret (results_ct rfl _ _ gb215 63 #[.int .i64 ((rd_T63 l0 x6_1).f0), .int .i64 ((rd_T63 l0 x6_1).f1), .int .i64 ((rd_T63 l0 x6_1).f2), .bool ((rd_T63 l0 x6_1).f3)] (0, 0) _ rfl (sKq BK215) Try.underlying63 rfl (by kernel_rfl)) rfl ?_
     exact sEnd HB
    ·rw [if_neg c6] at H
     have c6b0 : (((rd_T63 l0 x6_1).f0) == a1) = false := beq_eq_false_iff_ne.mpr c6
     have c6b1 : (((rd_T63 l0 x6_1).f0) != a1) = true := bne_iff_ne.mpr c6
     have H' := Aside0.mk H
     clear H
     have p216 : 0 ≤ (x6_1 : Int) := of_decide_eq_true (by first | (with_reducible assumption) | assumption)
     have q216 : x6_1 < (l0.length : Int) := of_decide_eq_true (by first | (with_reducible assumption) | assumption)
     obtain ⟨ad216, e216, hx216_0, hx216_1, hx216_2, hx216_3⟩ := at_T63 HR0.out x6_1 p216 q216
     cases e216
     replace hx216_0 := (HB.out.cell (World.block_lt_of_cell? w _ hx216_0)).trans hx216_0
     replace hx216_1 := (HB.out.cell (World.block_lt_of_cell? w _ hx216_1)).trans hx216_1
     replace hx216_2 := (HB.out.cell (World.block_lt_of_cell? w _ hx216_2)).trans hx216_2
     replace hx216_3 := (HB.out.cell (World.block_lt_of_cell? w _ hx216_3)).trans hx216_3
     replace p216 := eq_true p216
     replace q216 := eq_true q216
     go_wp2
     go_roundg k1
     case measure => have := HK1.out; omega
     case rel => exact ⟨(wrap64 (x6_1 + 1)), (x216000_1), (x216001_1), (x216002_1), (x216003_1), (by first | rfl | (simp; done) | (simp [*]; done)), H', ⟨by have := HK1.out; omega⟩, (sK0 BK215), (sB0 HB)⟩
   ·rw [if_neg c5] at H
    exact absurd H (by simp)
  ·rw [if_neg c4] at H
   have c4b0 : decide (x6_1 < (l0.length : Int)) = false := decide_eq_false c4
   clear c4
   simp only [Option.some.injEq, Prod.mk.injEq] at H
   obtain ⟨rfl, rfl, rfl, rfl, rfl⟩ := H
   obtain ⟨z8_0, z8_1, z8_2, z8_3, q8_0, q8_1, q8_2, q8_3⟩ := bk4 BK215
   go_wp2
   refine bodyPost_ret (results_ct rfl _ _ gb215 63 #[.int .i64 0, .int .i64 0, .int .i64 0, .bool false] (0, 0) _ rfl (sKq BK215) Try.underlying63 rfl (by kernel_rfl)) rfl ?_
   exact sEnd HB

end Go.Proofs.Ytedmikeamgebjaa.F
