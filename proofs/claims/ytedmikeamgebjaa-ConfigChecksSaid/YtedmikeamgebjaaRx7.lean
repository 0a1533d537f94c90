-- Written by a program out of the translation; not trusted: Lean checks it.
import Derived.Test.YtedmikeamgebjaaK
import Derived.Test.YtedmikeamgebjaaK2
import Derived.Test.YtedmikeamgebjaaRx0
namespace Go.Proofs.Ytedmikeamgebjaa.R
open Go.Proofs.YtedmikeamgebjaaW.PrintK Go.RowKit Go.Proofs.YtedmikeamgebjaaW.PrintWords Go.Proofs.YtedmikeamgebjaaW.PrintLast Go.Proofs.YtedmikeamgebjaaW.PrintMore
attribute [local go_sem] max2_int min2_int max_two min_two max_three min_three max_four min_four   -- for this text's walks alone
set_option linter.unusedVariables false
set_option linter.unusedSimpArgs false

/-! ### fuglemanref16_Check: function 24 -/
mutual
def fuglemanref16_Check.l0 : Nat → List (S63) → Int → Option (Int × Int)
 | 0, _, _ => none
 | k + 1, x0, x4 => if x4 < (x0.length : Int) then (if 0 ≤ x4 then (if ((rd_T63 x0 x4).f0) < 0 then (fuglemanref16_Check.j1 k x0 x4 true ((rd_T63 x0 x4).f0) ((rd_T63 x0 x4).f1) ((rd_T63 x0 x4).f2) ((rd_T63 x0 x4).f3)) else (if ((rd_T63 x0 x4).f0) > 15 then (fuglemanref16_Check.j1 k x0 x4 true ((rd_T63 x0 x4).f0) ((rd_T63 x0 x4).f1) ((rd_T63 x0 x4).f2) ((rd_T63 x0 x4).f3)) else (if ((rd_T63 x0 x4).f1) < 0 then (fuglemanref16_Check.j1 k x0 x4 true ((rd_T63 x0 x4).f0) ((rd_T63 x0 x4).f1) ((rd_T63 x0 x4).f2) ((rd_T63 x0 x4).f3)) else (if ((rd_T63 x0 x4).f1) > 31 then (fuglemanref16_Check.j1 k x0 x4 true ((rd_T63 x0 x4).f0) ((rd_T63 x0 x4).f1) ((rd_T63 x0 x4).f2) ((rd_T63 x0 x4).f3)) else (if ((rd_T63 x0 x4).f2) < 1 then (fuglemanref16_Check.j1 k x0 x4 true ((rd_T63 x0 x4).f0) ((rd_T63 x0 x4).f1) ((rd_T63 x0 x4).f2) ((rd_T63 x0 x4).f3)) else (fuglemanref16_Check.j1 k x0 x4 (decide (((rd_T63 x0 x4).f2) > 64)) ((rd_T63 x0 x4).f0) ((rd_T63 x0 x4).f1) ((rd_T63 x0 x4).f2) ((rd_T63 x0 x4).f3))))))) else (none)) else (some (0, 0))
def fuglemanref16_Check.j1 : Nat → List (S63) → Int → Bool → Int → Int → Int → Bool → Option (Int × Int)
 | 0, _, _, _, _, _, _, _ => none
 | k + 1, x0, x4, x47, x182000, x182001, x182002, x182003 => if x47 = true then (some (3, x4)) else (fuglemanref16_Check.l1 k x0 x4 0 x182000 x182001 x182002 x182003)
def fuglemanref16_Check.l1 : Nat → List (S63) → Int → Int → Int → Int → Int → Bool → Option (Int × Int)
 | 0, _, _, _, _, _, _, _ => none
 | k + 1, x0, x4, x6, x182000, x182001, x182002, x182003 => if x6 < x4 then (if 0 ≤ x6 then (if x6 < (x0.length : Int) then (if ((rd_T63 x0 x6).f0) = x182000 then (some (14, x4)) else (fuglemanref16_Check.l1 k x0 x4 (wrap64 (x6 + 1)) x182000 x182001 x182002 x182003)) else (none)) else (none)) else (fuglemanref16_Check.l0 k x0 (wrap64 (x4 + 1)))
end
def fuglemanref16_Check.f (k : Nat) (l0 : List (S63)) : Option (Int × Int) := if (l0.length : Int) > 16 then (some (2, 16)) else (fuglemanref16_Check.l0 k l0 0)
theorem fuglemanref16_Check.mono_l : ∀ k, (∀ y0 y1, LeO (fuglemanref16_Check.l0 k y0 y1) (fuglemanref16_Check.l0 (k + 1) y0 y1)) ∧ (∀ y0 y1 y2 y3 y4 y5 y6, LeO (fuglemanref16_Check.j1 k y0 y1 y2 y3 y4 y5 y6) (fuglemanref16_Check.j1 (k + 1) y0 y1 y2 y3 y4 y5 y6)) ∧ (∀ y0 y1 y2 y3 y4 y5 y6, LeO (fuglemanref16_Check.l1 k y0 y1 y2 y3 y4 y5 y6) (fuglemanref16_Check.l1 (k + 1) y0 y1 y2 y3 y4 y5 y6))
 | 0 => ⟨fun _ _ r h => by simp [fuglemanref16_Check.l0] at h, fun _ _ _ _ _ _ _ r h => by simp [fuglemanref16_Check.j1] at h, fun _ _ _ _ _ _ _ r h => by simp [fuglemanref16_Check.l1] at h⟩
 | k + 1 => by
  obtain ⟨ih0, ih1, ih2⟩ := fuglemanref16_Check.mono_l k
  refine ⟨?_, ?_, ?_⟩
  ·intro y0 y1
   unfold fuglemanref16_Check.l0
   repeat' first
   | (with_reducible exact ih0 _ _)
   | (with_reducible exact ih1 _ _ _ _ _ _ _)
   | (with_reducible exact ih2 _ _ _ _ _ _ _)
   | (with_reducible exact LeO.refl _)
   | (with_reducible exact LeO.none _)
   | (with_reducible refine LeO.ite ?_ ?_)
   | (with_reducible refine LeO.bind ?_ (fun _ => ?_))
   | exact ih0 _ _
   | exact ih1 _ _ _ _ _ _ _
   | exact ih2 _ _ _ _ _ _ _
   | exact LeO.none _
   | refine LeO.ite ?_ ?_
   | refine LeO.bind ?_ (fun _ => ?_)
  ·intro y0 y1 y2 y3 y4 y5 y6
   unfold fuglemanref16_Check.j1
   repeat' first
   | (with_reducible exact ih0 _ _)
   | (with_reducible exact ih1 _ _ _ _ _ _ _)
   | (with_reducible exact ih2 _ _ _ _ _ _ _)
   | (with_reducible exact LeO.refl _)
   | (with_reducible exact LeO.none _)
   | (with_reducible refine LeO.ite ?_ ?_)
   | (with_reducible refine LeO.bind ?_ (fun _ => ?_))
   | exact ih0 _ _
   | exact ih1 _ _ _ _ _ _ _
   | exact ih2 _ _ _ _ _ _ _
   | exact LeO.none _
   | refine LeO.ite ?_ ?_
   | refine LeO.bind ?_ (fun _ => ?_)
  ·intro y0 y1 y2 y3 y4 y5 y6
   unfold fuglemanref16_Check.l1
   repeat' first
   | (with_reducible exact ih0 _ _)
   | (with_reducible exact ih1 _ _ _ _ _ _ _)
   | (with_reducible exact ih2 _ _ _ _ _ _ _)
   | (with_reducible exact LeO.refl _)
   | (with_reducible exact LeO.none _)
   | (with_reducible refine LeO.ite ?_ ?_)
   | (with_reducible refine LeO.bind ?_ (fun _ => ?_))
   | exact ih0 _ _
   | exact ih1 _ _ _ _ _ _ _
   | exact ih2 _ _ _ _ _ _ _
   | exact LeO.none _
   | refine LeO.ite ?_ ?_
   | refine LeO.bind ?_ (fun _ => ?_)
theorem fuglemanref16_Check.mono : ∀ a0 k, LeO (fuglemanref16_Check.f k a0) (fuglemanref16_Check.f (k + 1) a0) := by
 intro a0 k
 obtain ⟨ih0, ih1, ih2⟩ := fuglemanref16_Check.mono_l k
 unfold fuglemanref16_Check.f
 repeat' first
   | (with_reducible exact ih0 _ _)
   | (with_reducible exact ih1 _ _ _ _ _ _ _)
   | (with_reducible exact ih2 _ _ _ _ _ _ _)
   | (with_reducible exact LeO.refl _)
   | (with_reducible exact LeO.none _)
   | (with_reducible refine LeO.ite ?_ ?_)
   | (with_reducible refine LeO.bind ?_ (fun _ => ?_))
   | exact ih0 _ _
   | exact ih1 _ _ _ _ _ _ _
   | exact ih2 _ _ _ _ _ _ _
   | exact LeO.none _
   | refine LeO.ite ?_ ?_
   | refine LeO.bind ?_ (fun _ => ?_)
set_option maxHeartbeats 8000000 in
set_option maxRecDepth 100000 in
theorem fuglemanref16_Check.calls (k : Nat) (A0 : Option Addr) (c0 : Nat) (l0 : List (S63)) (r1 r2 : Int) (w : World) (hr0 : Kd.C k63 w A0 l0.length l0) (hc0 : l0.length ≤ c0) (h : fuglemanref16_Check.f k l0 = some (r1, r2)) :
  Calls Try.prog 24 #[.slice A0 l0.length c0] w fun e w' => e = .returned (.tuple #[.int .i64 r1, .int .i64 r2]) ∧ Below w.heap.size w w' := by
 have hu63 := Try.underlying63
 have HR0 := Aside0.mk hr0
 have HC0 := Aside0.mk hc0
 clear hr0 hc0
 have HB := Aside0.mk (Below.refl w.heap.size w)
 have H : (if (l0.length : Int) > 16 then (some (2, 16)) else (fuglemanref16_Check.l0 k l0 0)) = some (r1, r2) := h
 clear h
 by_cases c2 : (l0.length : Int) > 16
 ·rw [if_pos c2] at H
  have c2b0 : decide (16 < (l0.length : Int)) = true := decide_eq_true c2
  have c2b1 : decide (16 < l0.length) = true := decide_eq_true (by omega)
  clear c2
  simp only [Option.some.injEq, Prod.mk.injEq] at H
  obtain ⟨rfl, rfl⟩ := H
  go_enter Try.func24, Try.ntmps24
  go_wp2
  repeat (go_quiet (fail); try go_wp2)
  go_ret2
  exact sEnd HB
 rw [if_neg c2] at H
 have c2b0 : decide (16 < (l0.length : Int)) = false := decide_eq_false c2
 have c2b1 : decide (16 < l0.length) = false := decide_eq_false (by omega)
 clear c2
 have H' := Aside0.mk H
 clear H
 go_enter Try.func24, Try.ntmps24
 go_wp2
 repeat (go_quiet (fail); try go_wp2)
 go_loopg [4] k (fun kq v4 w' => ∃ (x4_1 : Int), v4 = .int .i64 x4_1 ∧ Aside0 (fuglemanref16_Check.l0 kq l0 x4_1 = some (r1, r2)) ∧ Aside0 (kq ≤ k) ∧ Aside0 (Below w.heap.size w w'))
 case atStart => exact ⟨(0), (by first | rfl | (simp; done) | (simp [*]; done)), H', ⟨Nat.le_refl _⟩, (sB0 HB)⟩
 clear H'
 (try clear c2); (try clear c2b0); (try clear c2b1)
 obtain ⟨x4_1, rfl, HA, HK1, HB⟩ := hrel
 cases gk with
 | zero => exact absurd HA.out (by simp [fuglemanref16_Check.l0])
 | succ k1 =>
  have H := HA.out
  clear HA
  simp only [fuglemanref16_Check.l0] at H
  by_cases c3 : x4_1 < (l0.length : Int)
  ·rw [if_pos c3] at H
   have c3b0 : decide (x4_1 < (l0.length : Int)) = true := decide_eq_true c3
   clear c3
   by_cases c4 : 0 ≤ x4_1
   ·rw [if_pos c4] at H
    have c4b0 : decide (0 ≤ x4_1) = true := decide_eq_true c4
    clear c4
    have HC5 := Aside0.mk H
    clear H
    have p180 : 0 ≤ (x4_1 : Int) := of_decide_eq_true (by first | (with_reducible assumption) | assumption)
    have q180 : x4_1 < (l0.length : Int) := of_decide_eq_true (by first | (with_reducible assumption) | assumption)
    obtain ⟨ad180, e180, hx180_0, hx180_1, hx180_2, hx180_3⟩ := at_T63 HR0.out x4_1 p180 q180
    cases e180
    replace hx180_0 := (HB.out.cell (World.block_lt_of_cell? w _ hx180_0)).trans hx180_0
    replace hx180_1 := (HB.out.cell (World.block_lt_of_cell? w _ hx180_1)).trans hx180_1
    replace hx180_2 := (HB.out.cell (World.block_lt_of_cell? w _ hx180_2)).trans hx180_2
    replace hx180_3 := (HB.out.cell (World.block_lt_of_cell? w _ hx180_3)).trans hx180_3
    replace p180 := eq_true p180
    replace q180 := eq_true q180
    go_upto_region 7 with (first | ((with_reducible refine gate_dst (N := 5) rfl ?_); refine boxK (N := 5) (#[.int .i64 0, .int .i64 0, .int .i64 0, .bool false]) 63 ?_; intro gb181 hg w6 hbox hb; have BK181 := Aside0.mk (hbox); have GW181 := sG hg HB; have GE181 := sG hg HB; replace HB := sB HB hb; clear hb hbox hg; have z7 := bk4 BK181))
    repeat (go_quiet (first | ((with_reducible refine gate_dst (N := 5) rfl ?_); refine boxK (N := 5) (#[.int .i64 0, .int .i64 0, .int .i64 0, .bool false]) 63 ?_; intro gb181 hg w6 hbox hb; have BK181 := Aside0.mk (hbox); have GW181 := sG hg HB; have GE181 := sG hg HB; replace HB := sB HB hb; clear hb hbox hg; have z7 := bk4 BK181)); go_upto_region 7 with (first | ((with_reducible refine gate_dst (N := 5) rfl ?_); refine boxK (N := 5) (#[.int .i64 0, .int .i64 0, .int .i64 0, .bool false]) 63 ?_; intro gb181 hg w6 hbox hb; have n0_ := sB HB hb; have n1_ := Aside0.mk (hbox); have n2_ := sG hg HB; have n3_ := sG hg HB; clear HB; have HB := n0_; have BK181 := n1_; have GW181 := n2_; have GE181 := n3_; clear n0_ n1_ n2_ n3_; clear hb hbox hg; have z7_0 : w6.cell? ⟨gb181, 0, none⟩ = some (.int .i64 0) := sc BK181 0; have z7_1 : w6.cell? ⟨gb181, 1, none⟩ = some (.int .i64 0) := sc BK181 1; have z7_2 : w6.cell? ⟨gb181, 2, none⟩ = some (.int .i64 0) := sc BK181 2; have z7_3 : w6.cell? ⟨gb181, 3, none⟩ = some (.bool false) := sc BK181 3; have q7_0 := blk_frozen BK181.out 0; have q7_1 := blk_frozen BK181.out 1; have q7_2 := blk_frozen BK181.out 2; have q7_3 := blk_frozen BK181.out 3)))
    (try simp only [Act.put, List.setIfInBounds_toArray, List.set_cons_zero, List.set_cons_succ])
    go_cut [47] (fun v47 wc => ∃ (kq : Nat) (x47_4 : Bool), v47 = .bool x47_4 ∧ Aside0 (fuglemanref16_Check.j1 kq l0 x4_1 x47_4 ((rd_T63 l0 x4_1).f0) ((rd_T63 l0 x4_1).f1) ((rd_T63 l0 x4_1).f2) ((rd_T63 l0 x4_1).f3) = some (r1, r2)) ∧ Aside0 (kq ≤ k1) ∧ Aside0 (wc.heap[gb181]? = some (.cells #[.int .i64 ((rd_T63 l0 x4_1).f0), .int .i64 ((rd_T63 l0 x4_1).f1), .int .i64 ((rd_T63 l0 x4_1).f2), .bool ((rd_T63 l0 x4_1).f3)] 63 (0, 0))) ∧ Aside0 (Below w.heap.size w wc))
    case first =>
     have H := HC5.out
     clear HC5
     by_cases c8 : ((rd_T63 l0 x4_1).f0) < 0
     ·rw [if_pos c8] at H
      have c8b0 : decide (((rd_T63 l0 x4_1).f0) < 0) = true := decide_eq_true c8
      clear c8
      (first | rw [c8b0] | (simp only [i64_w, i32_w]; rw [c8b0]) | skip)
      have H' := Aside0.mk H
      clear H
      have z9 := bk4 BK181
      go_wp2
      repeat (go_quiet (fail); try go_wp2)
      go_meet
      case rel => exact ⟨_, (true), (by first | rfl | (simp; done) | (simp [*]; done)), H', ⟨by have := HK1.out; first | omega | exact Nat.le_refl _⟩, (sKq0 BK181), (sB0 HB)⟩
     ·rw [if_neg c8] at H
      have c8b0 : decide (((rd_T63 l0 x4_1).f0) < 0) = false := decide_eq_false c8
      clear c8
      (first | rw [c8b0] | (simp only [i64_w, i32_w]; rw [c8b0]) | skip)
      by_cases c10 : ((rd_T63 l0 x4_1).f0) > 15
      ·rw [if_pos c10] at H
       have c10b0 : decide (15 < ((rd_T63 l0 x4_1).f0)) = true := decide_eq_true c10
       clear c10
       have H' := Aside0.mk H
       clear H
       have z11 := bk4 BK181
       go_wp2
       repeat (go_quiet (fail); try go_wp2)
       go_meet
       case rel => exact ⟨_, (true), (by first | rfl | (simp; done) | (simp [*]; done)), H', ⟨by have := HK1.out; first | omega | exact Nat.le_refl _⟩, (sKq0 BK181), (sB0 HB)⟩
      ·rw [if_neg c10] at H
       have c10b0 : decide (15 < ((rd_T63 l0 x4_1).f0)) = false := decide_eq_false c10
       clear c10
       by_cases c12 : ((rd_T63 l0 x4_1).f1) < 0
       ·rw [if_pos c12] at H
        have c12b0 : decide (((rd_T63 l0 x4_1).f1) < 0) = true := decide_eq_true c12
        clear c12
        have H' := Aside0.mk H
        clear H
        have z13 := bk4 BK181
        go_wp2
        repeat (go_quiet (fail); try go_wp2)
        go_meet
        case rel => exact ⟨_, (true), (by first | rfl | (simp; done) | (simp [*]; done)), H', ⟨by have := HK1.out; first | omega | exact Nat.le_refl _⟩, (sKq0 BK181), (sB0 HB)⟩
       ·rw [if_neg c12] at H
        have c12b0 : decide (((rd_T63 l0 x4_1).f1) < 0) = false := decide_eq_false c12
        clear c12
        by_cases c14 : ((rd_T63 l0 x4_1).f1) > 31
        ·rw [if_pos c14] at H
         have c14b0 : decide (31 < ((rd_T63 l0 x4_1).f1)) = true := decide_eq_true c14
         clear c14
         have H' := Aside0.mk H
         clear H
         have z15 := bk4 BK181
         go_wp2
         repeat (go_quiet (fail); try go_wp2)
         go_meet
         case rel => exact ⟨_, (true), (by first | rfl | (simp; done) | (simp [*]; done)), H', ⟨by have := HK1.out; first | omega | exact Nat.le_refl _⟩, (sKq0 BK181), (sB0 HB)⟩
        ·rw [if_neg c14] at H
         have c14b0 : decide (31 < ((rd_T63 l0 x4_1).f1)) = false := decide_eq_false c14
         clear c14
         by_cases c16 : ((rd_T63 l0 x4_1).f2) < 1
         ·rw [if_pos c16] at H
          have c16b0 : decide (((rd_T63 l0 x4_1).f2) < 1) = true := decide_eq_true c16
          clear c16
          have H' := Aside0.mk H
          clear H
          have z17 := bk4 BK181
          go_wp2
          repeat (go_quiet (fail); try go_wp2)
          go_meet
          case rel => exact ⟨_, (true), (by first | rfl | (simp; done) | (simp [*]; done)), H', ⟨by have := HK1.out; first | omega | exact Nat.le_refl _⟩, (sKq0 BK181), (sB0 HB)⟩
         ·rw [if_neg c16] at H
          have c16b0 : decide (((rd_T63 l0 x4_1).f2) < 1) = false := decide_eq_false c16
          clear c16
          have H' := Aside0.mk H
          clear H
          have z18 := bk4 BK181
          go_wp2
          repeat (go_quiet (fail); try go_wp2)
          go_meet
          case rel => exact ⟨_, (decide (((rd_T63 l0 x4_1).f2) > 64)), (by first | rfl | (simp; done) | (simp [*]; done)), H', ⟨by have := HK1.out; first | omega | exact Nat.le_refl _⟩, (sKq0 BK181), (sB0 HB)⟩
    case rest =>
     clear HC5
     (try clear c2); (try clear c2b0); (try clear c2b1); (try clear c3); (try clear c3b0); (try clear c4); (try clear c4b0); (try clear c8); (try clear c8b0); (try clear c10); (try clear c10b0); (try clear c12); (try clear c12b0); (try clear c14); (try clear c14b0); (try clear c16); (try clear c16b0); (try clear z7); (try clear hx180_0); (try clear hx180_1); (try clear hx180_2); (try clear hx180_3); (try clear p180); (try clear q180)
     obtain ⟨kq, x47_4, rfl, HA, HJ4, BK181, HB⟩ := hcut
     cases kq with
     | zero => exact absurd HA.out (by simp [fuglemanref16_Check.j1])
     | succ kj4 =>
      have H := HA.out
      clear HA
      simp only [fuglemanref16_Check.j1] at H
      by_cases c19 : x47_4 = true
      ·subst c19
       rw [if_pos rfl] at H
       simp only [Option.some.injEq, Prod.mk.injEq] at H
       obtain ⟨rfl, rfl⟩ := H
       go_wp2
       repeat (go_quiet (fail); try go_wp2)
       go_ret2
       exact sEnd HB
      ·replace c19 := Bool.eq_false_iff.mpr c19
       subst c19
       rw [if_neg (show ¬ (false = true) by decide)] at H
       have H' := Aside0.mk H
       clear H
       go_wp2
       repeat (go_quiet (fail); try go_wp2)
       go_loopg [6] kj4 (fun kq v6 w' => ∃ (x6_3 : Int), v6 = .int .i64 x6_3 ∧ Aside0 (fuglemanref16_Check.l1 kq l0 x4_1 x6_3 ((rd_T63 l0 x4_1).f0) ((rd_T63 l0 x4_1).f1) ((rd_T63 l0 x4_1).f2) ((rd_T63 l0 x4_1).f3) = some (r1, r2)) ∧ Aside0 (kq ≤ kj4) ∧ Aside0 (w'.heap[gb181]? = some (.cells #[.int .i64 ((rd_T63 l0 x4_1).f0), .int .i64 ((rd_T63 l0 x4_1).f1), .int .i64 ((rd_T63 l0 x4_1).f2), .bool ((rd_T63 l0 x4_1).f3)] 63 (0, 0))) ∧ Aside0 (Below w.heap.size w w'))
       case atStart => exact ⟨(0), (by first | rfl | (simp; done) | (simp [*]; done)), H', ⟨Nat.le_refl _⟩, (sK0 BK181), (sB0 HB)⟩
       case round =>
        clear H'
        (try clear c2); (try clear c2b0); (try clear c2b1); (try clear c3); (try clear c3b0); (try clear c4); (try clear c4b0); (try clear c8); (try clear c8b0); (try clear c10); (try clear c10b0); (try clear c12); (try clear c12b0); (try clear c14); (try clear c14b0); (try clear c16); (try clear c16b0); (try clear c19); (try clear z7); (try clear hx180_0); (try clear hx180_1); (try clear hx180_2); (try clear hx180_3); (try clear p180); (try clear q180)
        obtain ⟨x6_3, rfl, HA, HK3, BK181, HB⟩ := hrel
        cases gk with
        | zero => exact absurd HA.out (by simp [fuglemanref16_Check.l1])
        | succ k3 =>
         have H := HA.out
         clear HA
         simp only [fuglemanref16_Check.l1] at H
         by_cases c20 : x6_3 < x4_1
         ·rw [if_pos c20] at H
          have c20b0 : decide (x6_3 < x4_1) = true := decide_eq_true c20
          clear c20
          by_cases c21 : 0 ≤ x6_3
          ·rw [if_pos c21] at H
           have c21b0 : decide (0 ≤ x6_3) = true := decide_eq_true c21
           clear c21
           by_cases c22 : x6_3 < (l0.length : Int)
           ·rw [if_pos c22] at H
            have c22b0 : decide (x6_3 < (l0.length : Int)) = true := decide_eq_true c22
            clear c22
            by_cases c23 : ((rd_T63 l0 x6_3).f0) = ((rd_T63 l0 x4_1).f0)
            ·rw [if_pos c23] at H
             have c23b0 : (((rd_T63 l0 x6_3).f0) == ((rd_T63 l0 x4_1).f0)) = true := beq_iff_eq.mpr c23
             have c23b1 : (((rd_T63 l0 x6_3).f0) != ((rd_T63 l0 x4_1).f0)) = false := bne_eq_false_iff_eq.mpr c23
             clear c23
             simp only [Option.some.injEq, Prod.mk.injEq] at H
             obtain ⟨rfl, rfl⟩ := H
             have p182 : 0 ≤ (x6_3 : Int) := of_decide_eq_true (by first | (with_reducible assumption) | assumption)
             have q182 : x6_3 < (l0.length : Int) := of_decide_eq_true (by first | (with_reducible assumption) | assumption)
             obtain ⟨ad182, e182, hx182_0, hx182_1, hx182_2, hx182_3⟩ := at_T63 HR0.out x6_3 p182 q182
             obtain rfl : ad180 = ad182 := (by injection e182)
             replace hx182_0 := (HB.out.cell (World.block_lt_of_cell? w _ hx182_0)).trans hx182_0
             replace hx182_1 := (HB.out.cell (World.block_lt_of_cell? w _ hx182_1)).trans hx182_1
             replace hx182_2 := (HB.out.cell (World.block_lt_of_cell? w _ hx182_2)).trans hx182_2
             replace hx182_3 := (HB.out.cell (World.block_lt_of_cell? w _ hx182_3)).trans hx182_3
             replace p182 := eq_true p182
             replace q182 := eq_true q182
             have z24 := bk4 BK181
             go_wp2
             repeat (go_quiet (fail); try go_wp2)
             go_ret2
             exact sEnd HB
            ·rw [if_neg c23] at H
             have c23b0 : (((rd_T63 l0 x6_3).f0) == ((rd_T63 l0 x4_1).f0)) = false := beq_eq_false_iff_ne.mpr c23
             have c23b1 : (((rd_T63 l0 x6_3).f0) != ((rd_T63 l0 x4_1).f0)) = true := bne_iff_ne.mpr c23
             have H' := Aside0.mk H
             clear H
             have p182 : 0 ≤ (x6_3 : Int) := of_decide_eq_true (by first | (with_reducible assumption) | assumption)
             have q182 : x6_3 < (l0.length : Int) := of_decide_eq_true (by first | (with_reducible assumption) | assumption)
             obtain ⟨ad182, e182, hx182_0, hx182_1, hx182_2, hx182_3⟩ := at_T63 HR0.out x6_3 p182 q182
             obtain rfl : ad180 = ad182 := (by injection e182)
             replace hx182_0 := (HB.out.cell (World.block_lt_of_cell? w _ hx182_0)).trans hx182_0
             replace hx182_1 := (HB.out.cell (World.block_lt_of_cell? w _ hx182_1)).trans hx182_1
             replace hx182_2 := (HB.out.cell (World.block_lt_of_cell? w _ hx182_2)).trans hx182_2
             replace hx182_3 := (HB.out.cell (World.block_lt_of_cell? w _ hx182_3)).trans hx182_3
             replace p182 := eq_true p182
             replace q182 := eq_true q182
             have z25 := bk4 BK181
             go_wp2
             repeat (go_quiet (fail); try go_wp2)
             go_roundg k3
             case measure => have := HK1.out; have := HJ4.out; have := HK3.out; omega
             case rel => exact ⟨(wrap64 (x6_3 + 1)), (by first | rfl | (simp; done) | (simp [*]; done)), H', ⟨by have := HK1.out; have := HJ4.out; have := HK3.out; omega⟩, (sK0 BK181), (sB0 HB)⟩
           ·rw [if_neg c22] at H
            exact absurd H (by simp)
          ·rw [if_neg c21] at H
           exact absurd H (by simp)
         ·rw [if_neg c20] at H
          have c20b0 : decide (x6_3 < x4_1) = false := decide_eq_false c20
          clear c20
          have H' := Aside0.mk H
          clear H
          go_wp2
          repeat (go_quiet (fail); try go_wp2)
          go_roundg k3
          case measure => have := HK1.out; have := HJ4.out; have := HK3.out; omega
          case rel => exact ⟨(wrap64 (x4_1 + 1)), (by first | rfl | (simp; done) | (simp [*]; done)), H', ⟨by have := HK1.out; have := HJ4.out; have := HK3.out; omega⟩, (sB0 HB)⟩
   ·rw [if_neg c4] at H
    exact absurd H (by simp)
  ·rw [if_neg c3] at H
   have c3b0 : decide (x4_1 < (l0.length : Int)) = false := decide_eq_false c3
   clear c3
   simp only [Option.some.injEq, Prod.mk.injEq] at H
   obtain ⟨rfl, rfl⟩ := H
   go_wp2
   repeat (go_quiet (fail); try go_wp2)
   go_ret2
   exact sEnd HB

/-! ### fuglemanref16_Find: function 34 -/
def fuglemanref16_Find.l0 : Nat → List (S63) → Int → Int → Option (Int × Int × Int × Bool × Bool)
 | 0, _, _, _ => none
 | k + 1, x0, x1, x6 => if x6 < (x0.length : Int) then (if 0 ≤ x6 then (if ((rd_T63 x0 x6).f0) = x1 then (some ((rd_T63 x0 x6).f0, (rd_T63 x0 x6).f1, (rd_T63 x0 x6).f2, (rd_T63 x0 x6).f3, true)) else (fuglemanref16_Find.l0 k x0 x1 (wrap64 (x6 + 1)))) else (none)) else (some (0, 0, 0, false, false))
def fuglemanref16_Find.f (k : Nat) (l0 : List (S63)) (a1 : Int) : Option (Int × Int × Int × Bool × Bool) := fuglemanref16_Find.l0 k l0 a1 0
theorem fuglemanref16_Find.mono_l : ∀ k, (∀ y0 y1 y2, LeO (fuglemanref16_Find.l0 k y0 y1 y2) (fuglemanref16_Find.l0 (k + 1) y0 y1 y2))
 | 0 => fun _ _ _ r h => by simp [fuglemanref16_Find.l0] at h
 | k + 1 => by
  have ih0 := fuglemanref16_Find.mono_l k
  ·intro y0 y1 y2
   unfold fuglemanref16_Find.l0
   repeat' first
   | (with_reducible exact ih0 _ _ _)
   | (with_reducible exact LeO.refl _)
   | (with_reducible exact LeO.none _)
   | (with_reducible refine LeO.ite ?_ ?_)
   | (with_reducible refine LeO.bind ?_ (fun _ => ?_))
   | exact ih0 _ _ _
   | exact LeO.none _
   | refine LeO.ite ?_ ?_
   | refine LeO.bind ?_ (fun _ => ?_)
theorem fuglemanref16_Find.mono : ∀ a0 a1 k, LeO (fuglemanref16_Find.f k a0 a1) (fuglemanref16_Find.f (k + 1) a0 a1) := by
 intro a0 a1 k
 have ih0 := fuglemanref16_Find.mono_l k
 unfold fuglemanref16_Find.f
 repeat' first
   | (with_reducible exact ih0 _ _ _)
   | (with_reducible exact LeO.refl _)
   | (with_reducible exact LeO.none _)
   | (with_reducible refine LeO.ite ?_ ?_)
   | (with_reducible refine LeO.bind ?_ (fun _ => ?_))
   | exact ih0 _ _ _
   | exact LeO.none _
   | refine LeO.ite ?_ ?_
   | refine LeO.bind ?_ (fun _ => ?_)
set_option maxHeartbeats 8000000 in
set_option maxRecDepth 100000 in
theorem fuglemanref16_Find.calls (k : Nat) (A0 : Option Addr) (c0 : Nat) (l0 : List (S63)) (a1 r1 r2 r3 : Int) (r4 r5 : Bool) (w : World) (hr0 : Kd.C k63 w A0 l0.length l0) (hc0 : l0.length ≤ c0) (h : fuglemanref16_Find.f k l0 a1 = some (r1, r2, r3, r4, r5)) :
  Calls Try.prog 34 #[.slice A0 l0.length c0, .int .i64 a1] w fun e w' => e = .returned (.tuple #[.agg #[.int .i64 r1, .int .i64 r2, .int .i64 r3, .bool r4], .bool r5]) ∧ Below w.heap.size w w' := by
 have hu63 := Try.underlying63
 have HR0 := Aside0.mk hr0
 have HC0 := Aside0.mk hc0
 clear hr0 hc0
 have HB := Aside0.mk (Below.refl w.heap.size w)
 have H : (fuglemanref16_Find.l0 k l0 a1 0) = some (r1, r2, r3, r4, r5) := h
 clear h
 have H' := Aside0.mk H
 clear H
 go_enter Try.func34, Try.ntmps34
 go_wp2_with (first | ((with_reducible refine gate_dst (N := 4) rfl ?_); refine boxK (N := 4) (#[.int .i64 0, .int .i64 0, .int .i64 0, .bool false]) 63 ?_; intro gb183 hg w3 hbox hb; have BK183 := Aside0.mk (hbox); have GW183 := sG hg HB; have GE183 := sG hg HB; replace HB := sB HB hb; clear hb hbox hg))
 go_loopg [6] k (fun kq v6 w' => ∃ (x6_1 : Int) (x184000_1 : Int) (x184001_1 : Int) (x184002_1 : Int) (x184003_1 : Bool), v6 = .int .i64 x6_1 ∧ Aside0 (fuglemanref16_Find.l0 kq l0 a1 x6_1 = some (r1, r2, r3, r4, r5)) ∧ Aside0 (kq ≤ k) ∧ Aside0 (w'.heap[gb183]? = some (.cells #[.int .i64 x184000_1, .int .i64 x184001_1, .int .i64 x184002_1, .bool x184003_1] 63 (0, 0))) ∧ Aside0 (Below w.heap.size w w'))
 case atStart => exact ⟨(0), (0), (0), (0), (false), (by first | rfl | (simp; done) | (simp [*]; done)), H', ⟨Nat.le_refl _⟩, (sK0 BK183), (sB0 HB)⟩
 clear H'
 obtain ⟨x6_1, x184000_1, x184001_1, x184002_1, x184003_1, rfl, HA, HK1, BK183, HB⟩ := hrel
 cases gk with
 | zero => exact absurd HA.out (by simp [fuglemanref16_Find.l0])
 | succ k1 =>
  have H := HA.out
  clear HA
  simp only [fuglemanref16_Find.l0] at H
  by_cases c4 : x6_1 < (l0.length : Int)
  ·rw [if_pos c4] at H
   have c4b0 : decide (x6_1 < (l0.length : Int)) = true := decide_eq_true c4
   clear c4
   by_cases c5 : 0 ≤ x6_1
   ·rw [if_pos c5] at H
    have c5b0 : decide (0 ≤ x6_1) = true := decide_eq_true c5
    clear c5
    by_cases c6 : ((rd_T63 l0 x6_1).f0) = a1
    ·rw [if_pos c6] at H
     have c6b0 : (((rd_T63 l0 x6_1).f0) == a1) = true := beq_iff_eq.mpr c6
     have c6b1 : (((rd_T63 l0 x6_1).f0) != a1) = false := bne_eq_false_iff_eq.mpr c6
     clear c6
     simp only [Option.some.injEq, Prod.mk.injEq] at H
     obtain ⟨rfl, rfl, rfl, rfl, rfl⟩ := H
     have p184 : 0 ≤ (x6_1 : Int) := of_decide_eq_true (by first | (with_reducible assumption) | assumption)
     have q184 : x6_1 < (l0.length : Int) := of_decide_eq_true (by first | (with_reducible assumption) | assumption)
     obtain ⟨ad184, e184, hx184_0, hx184_1, hx184_2, hx184_3⟩ := at_T63 HR0.out x6_1 p184 q184
     cases e184
     replace hx184_0 := (HB.out.cell (World.block_lt_of_cell? w _ hx184_0)).trans hx184_0
     replace hx184_1 := (HB.out.cell (World.block_lt_of_cell? w _ hx184_1)).trans hx184_1
     replace hx184_2 := (HB.out.cell (World.block_lt_of_cell? w _ hx184_2)).trans hx184_2
     replace hx184_3 := (HB.out.cell (World.block_lt_of_cell? w _ hx184_3)).trans hx184_3
     replace p184 := eq_true p184
     replace q184 := eq_true q184
     have p185 : 0 ≤ (x6_1 : Int) := of_decide_eq_true (by first | (with_reducible assumption) | assumption)
     have q185 : x6_1 < (l0.length : Int) := of_decide_eq_true (by first | (with_reducible assumption) | assumption)
     obtain ⟨ad185, e185, hx185_0, hx185_1, hx185_2, hx185_3⟩ := at_T63 HR0.out x6_1 p185 q185
     obtain rfl : ad184 = ad185 := (by injection e185)
     replace hx185_0 := (HB.out.cell (World.block_lt_of_cell? w _ hx185_0)).trans hx185_0
     replace hx185_1 := (HB.out.cell (World.block_lt_of_cell? w _ hx185_1)).trans hx185_1
     replace hx185_2 := (HB.out.cell (World.block_lt_of_cell? w _ hx185_2)).trans hx185_2
     replace hx185_3 := (HB.out.cell (World.block_lt_of_cell? w _ hx185_3)).trans hx185_3
     replace p185 := eq_true p185
     replace q185 := eq_true q185
     have z7 := bk4 BK183
     go_wp2
     refine bodyPost_ret (results_ct rfl _ _ gb183 63 #[.int .i64 ((rd_T63 l0 x6_1).f0), .int .i64 ((rd_T63 l0 x6_1).f1), .int .i64 ((rd_T63 l0 x6_1).f2), .bool ((rd_T63 l0 x6_1).f3)] (0, 0) _ rfl (sKq BK183) Try.underlying63 rfl (by kernel_rfl)) rfl ?_
     exact sEnd HB
    ·rw [if_neg c6] at H
     have c6b0 : (((rd_T63 l0 x6_1).f0) == a1) = false := beq_eq_false_iff_ne.mpr c6
     have c6b1 : (((rd_T63 l0 x6_1).f0) != a1) = true := bne_iff_ne.mpr c6
     have H' := Aside0.mk H
     clear H
     have p184 : 0 ≤ (x6_1 : Int) := of_decide_eq_true (by first | (with_reducible assumption) | assumption)
     have q184 : x6_1 < (l0.length : Int) := of_decide_eq_true (by first | (with_reducible assumption) | assumption)
     obtain ⟨ad184, e184, hx184_0, hx184_1, hx184_2, hx184_3⟩ := at_T63 HR0.out x6_1 p184 q184
     cases e184
     replace hx184_0 := (HB.out.cell (World.block_lt_of_cell? w _ hx184_0)).trans hx184_0
     replace hx184_1 := (HB.out.cell (World.block_lt_of_cell? w _ hx184_1)).trans hx184_1
     replace hx184_2 := (HB.out.cell (World.block_lt_of_cell? w _ hx184_2)).trans hx184_2
     replace hx184_3 := (HB.out.cell (World.block_lt_of_cell? w _ hx184_3)).trans hx184_3
     replace p184 := eq_true p184
     replace q184 := eq_true q184
     go_wp2
     go_roundg k1
     case measure => have := HK1.out; omega
     case rel => exact ⟨(wrap64 (x6_1 + 1)), (x184000_1), (x184001_1), (x184002_1), (x184003_1), (by first | rfl | (simp; done) | (simp [*]; done)), H', ⟨by have := HK1.out; omega⟩, (sK0 BK183), (sB0 HB)⟩
   ·rw [if_neg c5] at H
    exact absurd H (by simp)
  ·rw [if_neg c4] at H
   have c4b0 : decide (x6_1 < (l0.length : Int)) = false := decide_eq_false c4
   clear c4
   simp only [Option.some.injEq, Prod.mk.injEq] at H
   obtain ⟨rfl, rfl, rfl, rfl, rfl⟩ := H
   have z8 := bk4 BK183
   go_wp2
   refine bodyPost_ret (results_ct rfl _ _ gb183 63 #[.int .i64 0, .int .i64 0, .int .i64 0, .bool false] (0, 0) _ rfl (sKq BK183) Try.underlying63 rfl (by kernel_rfl)) rfl ?_
   exact sEnd HB

end Go.Proofs.Ytedmikeamgebjaa.R
