-- Written by a program out of the translation; not trusted: Lean checks it.
import Derived.Test.YtedmikeamgebjaaK
import Derived.Test.YtedmikeamgebjaaFx0
import Derived.Test.YtedmikeamgebjaaFx10
namespace Go.Proofs.Ytedmikeamgebjaa.F
open Go.Proofs.YtedmikeamgebjaaW.PrintK Go.RowKit Go.Proofs.YtedmikeamgebjaaW.PrintWords Go.Proofs.YtedmikeamgebjaaW.PrintLast Go.Proofs.YtedmikeamgebjaaW.PrintMore
attribute [local go_sem] max2_int min2_int max_two min_two max_three min_three max_four min_four   -- for this text's walks alone
set_option linter.unusedVariables false
set_option linter.unusedSimpArgs false

/-! ### fuglemanref20_Values: function 18 -/
def fuglemanref20_Values.l0 : Nat → List Int → Int → Int → Int → Int → Int → Int → Int → List (S63) → List (S37) → Int → Int → Int → List (S54) → List (S56) → List (S56) → Option (List Int)
 | 0, _, _, _, _, _, _, _, _, _, _, _, _, _, _, _, _ => none
 | k + 1, x5, x6, x219000, x219001, x219002, x219003, x219004, x219005, x219006, x219007, x220000, x220001, x220002, x220003, x220004, x220005 => if x6 < (x220004.length : Int) then (if 0 ≤ x6 then ((fuglemanref16_Find.f k x219006 ((rd_T56 x220004 x6).f0)).bind fun bt221 => (if x5.length < 17592186044416 then (fuglemanref20_Values.l0 k (x5 ++ [bt221.2.2.1]) (wrap64 (x6 + 1)) x219000 x219001 x219002 x219003 x219004 x219005 x219006 x219007 x220000 x220001 x220002 x220003 x220004 x220005) else (none))) else (none)) else (some x5)
def fuglemanref20_Values.f (k : Nat) (a0_0 : Int) (a0_1 : Int) (a0_2 : Int) (a0_3 : Int) (a0_4 : Int) (a0_5 : Int) (l0_6 : List (S63)) (l0_7 : List (S37)) (a1_0 : Int) (a1_1 : Int) (a1_2 : Int) (l1_3 : List (S54)) (l1_4 : List (S56)) (l1_5 : List (S56)) : Option (List Int) := fuglemanref20_Values.l0 k ([] : List Int) 0 a0_0 a0_1 a0_2 a0_3 a0_4 a0_5 l0_6 l0_7 a1_0 a1_1 a1_2 l1_3 l1_4 l1_5
theorem fuglemanref20_Values.mono_l : ∀ k, (∀ y0 y1 y2 y3 y4 y5 y6 y7 y8 y9 y10 y11 y12 y13 y14 y15, LeO (fuglemanref20_Values.l0 k y0 y1 y2 y3 y4 y5 y6 y7 y8 y9 y10 y11 y12 y13 y14 y15) (fuglemanref20_Values.l0 (k + 1) y0 y1 y2 y3 y4 y5 y6 y7 y8 y9 y10 y11 y12 y13 y14 y15))
 | 0 => fun _ _ _ _ _ _ _ _ _ _ _ _ _ _ _ _ r h => by simp [fuglemanref20_Values.l0] at h
 | k + 1 => by
  have ih0 := fuglemanref20_Values.mono_l k
  ·intro y0 y1 y2 y3 y4 y5 y6 y7 y8 y9 y10 y11 y12 y13 y14 y15
   unfold fuglemanref20_Values.l0
   repeat' first
   | (with_reducible exact ih0 _ _ _ _ _ _ _ _ _ _ _ _ _ _ _ _)
   | (with_reducible exact fuglemanref16_Find.mono _ _ _)
   | (with_reducible exact LeO.refl _)
   | (with_reducible exact LeO.none _)
   | (with_reducible refine LeO.ite ?_ ?_)
   | (with_reducible refine LeO.bind ?_ (fun _ => ?_))
   | exact ih0 _ _ _ _ _ _ _ _ _ _ _ _ _ _ _ _
   | exact fuglemanref16_Find.mono _ _ _
   | exact LeO.none _
   | refine LeO.ite ?_ ?_
   | refine LeO.bind ?_ (fun _ => ?_)
theorem fuglemanref20_Values.mono : ∀ a0 a1 a2 a3 a4 a5 a6 a7 a8 a9 a10 a11 a12 a13 k, LeO (fuglemanref20_Values.f k a0 a1 a2 a3 a4 a5 a6 a7 a8 a9 a10 a11 a12 a13) (fuglemanref20_Values.f (k + 1) a0 a1 a2 a3 a4 a5 a6 a7 a8 a9 a10 a11 a12 a13) := by
 intro a0 a1 a2 a3 a4 a5 a6 a7 a8 a9 a10 a11 a12 a13 k
 have ih0 := fuglemanref20_Values.mono_l k
 unfold fuglemanref20_Values.f
 repeat' first
   | (with_reducible exact ih0 _ _ _ _ _ _ _ _ _ _ _ _ _ _ _ _)
   | (with_reducible exact fuglemanref16_Find.mono _ _ _)
   | (with_reducible exact LeO.refl _)
   | (with_reducible exact LeO.none _)
   | (with_reducible refine LeO.ite ?_ ?_)
   | (with_reducible refine LeO.bind ?_ (fun _ => ?_))
   | exact ih0 _ _ _ _ _ _ _ _ _ _ _ _ _ _ _ _
   | exact fuglemanref16_Find.mono _ _ _
   | exact LeO.none _
   | refine LeO.ite ?_ ?_
   | refine LeO.bind ?_ (fun _ => ?_)
def fuglemanref20_Values.T5 : Bool × List (List Nat × List Nat) := (true, [([], []), ([0], [0]), ([], []), ([2], [2]), ([], []), ([3, 4], [3, 4]), ([5], [5]), ([6], [6]), ([1, 7], [1, 7]), ([8], [8]), ([9], [9]), ([9], [9]), ([], []), ([12, 10, 8, 0, 1, 2, 3, 4, 5, 6, 7, 8, 9, 10, 12], [10, 12]), ([11, 13, 0, 1, 2, 3, 4, 5, 6, 7, 8, 9, 10, 11, 12, 13], [11])])
def fuglemanref20_Values.B5 : List Nat := [0, 1, 0, 4, 0, 28, 60, 124, 255, 511, 1023, 1023, 0, 6143, 16383]
theorem fuglemanref20_Values.tab5 : rtab .any (opsOf Try.f18 5) = fuglemanref20_Values.T5 := by kernel_rfl
theorem fuglemanref20_Values.bits5 : waitsOk fuglemanref20_Values.T5.2 fuglemanref20_Values.B5 = true := by kernel_rfl
set_option maxHeartbeats 8000000 in
set_option maxRecDepth 100000 in
theorem fuglemanref20_Values.calls (k : Nat) (a0_0 : Int) (a0_1 : Int) (a0_2 : Int) (a0_3 : Int) (a0_4 : Int) (a0_5 : Int) (A0_6 : Option Addr) (c0_6 : Nat) (l0_6 : List (S63)) (A0_7 : Option Addr) (c0_7 : Nat) (l0_7 : List (S37)) (a1_0 : Int) (a1_1 : Int) (a1_2 : Int) (A1_3 : Option Addr) (c1_3 : Nat) (l1_3 : List (S54)) (A1_4 : Option Addr) (c1_4 : Nat) (l1_4 : List (S56)) (A1_5 : Option Addr) (c1_5 : Nat) (l1_5 : List (S56)) (r : List Int) (w : World) (hr0_6 : Kd.C k63 w A0_6 l0_6.length l0_6) (hc0_6 : l0_6.length ≤ c0_6) (hr0_7 : Kd.C k37 w A0_7 l0_7.length l0_7) (hc0_7 : l0_7.length ≤ c0_7) (hr1_3 : Kd.C k54 w A1_3 l1_3.length l1_3) (hc1_3 : l1_3.length ≤ c1_3) (hr1_4 : Kd.C k56 w A1_4 l1_4.length l1_4) (hc1_4 : l1_4.length ≤ c1_4) (hr1_5 : Kd.C k56 w A1_5 l1_5.length l1_5) (hc1_5 : l1_5.length ≤ c1_5) (h : fuglemanref20_Values.f k a0_0 a0_1 a0_2 a0_3 a0_4 a0_5 l0_6 l0_7 a1_0 a1_1 a1_2 l1_3 l1_4 l1_5 = some r) :
  Calls Try.prog 18 #[.agg #[.int .i64 a0_0, .int .i64 a0_1, .int .i64 a0_2, .int .i64 a0_3, .int .i64 a0_4, .int .i64 a0_5, .slice A0_6 l0_6.length c0_6, .slice A0_7 l0_7.length c0_7], .agg #[.int .i64 a1_0, .int .i64 a1_1, .int .i64 a1_2, .slice A1_3 l1_3.length c1_3, .slice A1_4 l1_4.length c1_4, .slice A1_5 l1_5.length c1_5]] w fun e w' => ∃ v0_ : Value, e = .returned (v0_) ∧ Kd.R (Kd.int .i64) 3 w' w.heap.size (fun _ => True) v0_ r ∧ Below w.heap.size w w' := by
 have hu25 := Try.underlying25
 have hu37 := Try.underlying37
 have hu63 := Try.underlying63
 have HR0_6 := Aside0.mk hr0_6
 have HC0_6 := Aside0.mk hc0_6
 clear hr0_6 hc0_6
 have HR0_7 := Aside0.mk hr0_7
 have HC0_7 := Aside0.mk hc0_7
 clear hr0_7 hc0_7
 have HR1_3 := Aside0.mk hr1_3
 have HC1_3 := Aside0.mk hc1_3
 clear hr1_3 hc1_3
 have HR1_4 := Aside0.mk hr1_4
 have HC1_4 := Aside0.mk hc1_4
 clear hr1_4 hc1_4
 have HR1_5 := Aside0.mk hr1_5
 have HC1_5 := Aside0.mk hc1_5
 clear hr1_5 hc1_5
 have HB := Aside0.mk (Below.refl w.heap.size w)
 have H : (fuglemanref20_Values.l0 k ([] : List Int) 0 a0_0 a0_1 a0_2 a0_3 a0_4 a0_5 l0_6 l0_7 a1_0 a1_1 a1_2 l1_3 l1_4 l1_5) = some r := h
 clear h
 have H' := Aside0.mk H
 clear H
 go_enter Try.func18, Try.ntmps18
 go_wp2_with (first | ((with_reducible refine gate_dst (N := 2) rfl ?_); refine boxK (N := 2) (#[.int .i64 a0_0, .int .i64 a0_1, .int .i64 a0_2, .int .i64 a0_3, .int .i64 a0_4, .int .i64 a0_5, .slice A0_6 l0_6.length c0_6, .slice A0_7 l0_7.length c0_7]) 25 ?_; intro gb218 hg w3 hbox hb; have BK218 := Aside0.mk (hbox); have GW218 := sG hg HB; have GE218 := sG hg HB; replace HB := sB HB hb; clear hb hbox hg) | ((with_reducible refine gate_dst (N := 3) rfl ?_); refine boxK (N := 3) (#[.int .i64 a1_0, .int .i64 a1_1, .int .i64 a1_2, .slice A1_3 l1_3.length c1_3, .slice A1_4 l1_4.length c1_4, .slice A1_5 l1_5.length c1_5]) 37 ?_; intro gb219 hg w4 hbox hb; have BK219 := Aside0.mk (hbox); have GW219 := sG hg HB; have GE219 := sG hg HB; replace HB := sB HB hb; have NB218_219 := sNl hg BK218; have NB219_218 := sNg hg BK218; replace BK218 := sK BK218 hb; clear hb hbox hg))
 go_loopg [5, 6] k (fun kq v5 v6 w' => ∃ (x5_1 : List Int) (x6_1 : Int), v6 = .int .i64 x6_1 ∧ Aside0 (fuglemanref20_Values.l0 kq x5_1 x6_1 a0_0 a0_1 a0_2 a0_3 a0_4 a0_5 l0_6 l0_7 a1_0 a1_1 a1_2 l1_3 l1_4 l1_5 = some r) ∧ Aside0 (kq ≤ k) ∧ Aside0 (Kd.R (Kd.int .i64) 3 w' w.heap.size (fun _ => True) v5 x5_1) ∧ Aside0 (w'.heap[gb218]? = some (.cells #[.int .i64 a0_0, .int .i64 a0_1, .int .i64 a0_2, .int .i64 a0_3, .int .i64 a0_4, .int .i64 a0_5, (.slice A0_6 l0_6.length c0_6), (.slice A0_7 l0_7.length c0_7)] 25 (0, 0))) ∧ Aside0 (w'.heap[gb219]? = some (.cells #[.int .i64 a1_0, .int .i64 a1_1, .int .i64 a1_2, (.slice A1_3 l1_3.length c1_3), (.slice A1_4 l1_4.length c1_4), (.slice A1_5 l1_5.length c1_5)] 37 (0, 0))) ∧ Aside0 (Below w.heap.size w w'))
 case atStart => exact ⟨(([] : List Int)), (0), (by first | rfl | (simp; done) | (simp [*]; done)), H', ⟨Nat.le_refl _⟩, ⟨by first | exact Kd.R_nil _ _ _ _ _ | exact Kd.N_nil _ _ _ _ _ | exact Kd.V_nil _ _ _ _ _ | exact Kd.Q_nil _ _ _ _ _ | exact Kd.S_nil _ _ _ _ _⟩, (sK0 BK218), (sK0 BK219), (sB0 HB)⟩
 clear H'
 obtain ⟨x5_1, x6_1, rfl, HA, HK1, HO_5, BK218, BK219, HB⟩ := hrel
 cases gk with
 | zero => exact absurd HA.out (by simp [fuglemanref20_Values.l0])
 | succ k1 =>
  have H := HA.out
  clear HA
  simp only [fuglemanref20_Values.l0] at H
  by_cases c5 : x6_1 < (l1_4.length : Int)
  ·rw [if_pos c5] at H
   have c5b0 : decide (x6_1 < (l1_4.length : Int)) = true := decide_eq_true c5
   clear c5
   by_cases c6 : 0 ≤ x6_1
   ·rw [if_pos c6] at H
    have c6b0 : decide (0 ≤ x6_1) = true := decide_eq_true c6
    clear c6
    replace H := Option.bind_eq_some_iff.mp H
    obtain ⟨⟨t221, t222, t223, t224, t225⟩, A70, H⟩ := H
    replace H : (if x5_1.length < 17592186044416 then (fuglemanref20_Values.l0 k1 (x5_1 ++ [t223]) (wrap64 (x6_1 + 1)) a0_0 a0_1 a0_2 a0_3 a0_4 a0_5 l0_6 l0_7 a1_0 a1_1 a1_2 l1_3 l1_4 l1_5) else (none)) = some r := H
    have A7 := Aside0.mk A70
    clear A70
    by_cases c8 : x5_1.length < 17592186044416
    ·rw [if_pos c8] at H
     have LMc8 := Aside0.mk c8
     clear c8
     obtain ⟨y227, hy227⟩ : ∃ y_ : List Int, y_ = (x5_1 ++ [t223]) := ⟨_, rfl⟩
     replace H : (fuglemanref20_Values.l0 k1 y227 (wrap64 (x6_1 + 1)) a0_0 a0_1 a0_2 a0_3 a0_4 a0_5 l0_6 l0_7 a1_0 a1_1 a1_2 l1_3 l1_4 l1_5) = some r := by first | (rw [hy227]; with_reducible exact H) | (have H2_ := (Option.bind_some _ _).symm.trans H; rw [hy227]; with_reducible exact H2_) | (have H2_ := (Option.bind_some _ _).symm.trans H; with_reducible exact H2_) | with_reducible exact H | (rw [hy227]; exact H) | exact H
     have Ny227 := Aside0.mk hy227
     clear hy227
     have H' := Aside0.mk H
     clear H
     have hnb9 := NB219_218.out
     have hnc9 := NB218_219.out
     obtain ⟨z10_0, z10_1, z10_2, z10_3, z10_4, z10_5, q10_0, q10_1, q10_2, q10_3, q10_4, q10_5⟩ := bk6 BK219
     try go_wp2
     replace HO_5 := Aside0.mk (Kd.R_drew HO_5.out)
     replace BK218 := Aside0.mk (blk_drew BK218.out)
     replace BK219 := Aside0.mk (blk_drew BK219.out)
     replace HB := Aside0.mk (below_drew1 HB.out)
     have p220 : 0 ≤ (x6_1 : Int) := of_decide_eq_true (by first | (with_reducible assumption) | assumption)
     have q220 : x6_1 < (l1_4.length : Int) := of_decide_eq_true (by first | (with_reducible assumption) | assumption)
     obtain ⟨ad220, e220, hx220_0, hx220_1⟩ := at_T56 HR1_4.out x6_1 p220 q220
     have hw220_1 := hx220_1
     have hw220_0 := hx220_0
     cases e220
     replace hx220_0 := (HB.out.cell (World.block_lt_of_cell? w _ hx220_0)).trans hx220_0
     replace hx220_1 := (HB.out.cell (World.block_lt_of_cell? w _ hx220_1)).trans hx220_1
     replace p220 := eq_true p220
     replace q220 := eq_true q220
     refine start_ (n := 15) (S := fun w' => w'.cell? ⟨gb218, 0, none⟩ = some (.int .i64 a0_0) ∧ w'.cell? ⟨gb218, 1, none⟩ = some (.int .i64 a0_1) ∧ w'.cell? ⟨gb218, 2, none⟩ = some (.int .i64 a0_2) ∧ w'.cell? ⟨gb218, 3, none⟩ = some (.int .i64 a0_3) ∧ w'.cell? ⟨gb218, 4, none⟩ = some (.int .i64 a0_4) ∧ w'.cell? ⟨gb218, 5, none⟩ = some (.int .i64 a0_5) ∧ w'.cell? ⟨gb218, 6, none⟩ = some (.slice A0_6 l0_6.length c0_6) ∧ w'.cell? ⟨gb218, 7, none⟩ = some (.slice A0_7 l0_7.length c0_7) ∧ w'.cell? ⟨gb219, 0, none⟩ = some (.int .i64 a1_0) ∧ w'.cell? ⟨gb219, 1, none⟩ = some (.int .i64 a1_1) ∧ w'.cell? ⟨gb219, 2, none⟩ = some (.int .i64 a1_2) ∧ w'.cell? ⟨gb219, 3, none⟩ = some (.slice A1_3 l1_3.length c1_3) ∧ w'.cell? ⟨gb219, 4, none⟩ = some (.slice (some ad220) l1_4.length c1_4) ∧ w'.cell? ⟨gb219, 5, none⟩ = some (.slice A1_5 l1_5.length c1_5) ∧ w'.cell? (ad220.add ((x6_1).toNat * 2)) = some (.int .i64 ((rd_T56 l1_4 x6_1).f0)) ∧ w'.cell? ⟨(ad220.add ((x6_1).toNat * 2)).block, (ad220.add ((x6_1).toNat * 2)).off + 1, none⟩ = some (.int .i64 ((rd_T56 l1_4 x6_1).f1))) (ds := []) #[false, false, false, false, false, false, false, false, false, false, false, false, false, false, false] (by kernel_rfl) rfl rfl ⟨sc BK218 0, sc BK218 1, sc BK218 2, sc BK218 3, sc BK218 4, sc BK218 5, sc BK218 6, sc BK218 7, sc BK219 0, sc BK219 1, sc BK219 2, sc BK219 3, sc BK219 4, sc BK219 5, ((HB.out.cell (World.block_lt_of_cell? w _ hw220_0)).trans hw220_0), ((HB.out.cell (World.block_lt_of_cell? w _ hw220_1)).trans hw220_1)⟩ (fun hHeld => ?_); refine with_tabW fuglemanref20_Values.tab5 fuglemanref20_Values.bits5 (fun HT_ HW_ => ?_)
     generalize wr.drew = w11 at HO_5 BK218 BK219 HB hx220_0 hx220_1 hHeld ⊢
     refine pureK 0 (some 17) #[true, false, false, false, false, false, false, false, false, false, false, false, false, false, false] HT_ ?_
     refine pureK 2 (some 19) #[true, false, true, false, false, false, false, false, false, false, false, false, false, false, false] HT_ ?_
     refine pureK 4 (some 21) #[true, false, true, false, true, false, false, false, false, false, false, false, false, false, false] HT_ ?_
     refine takeK 1 (some 18) #[true, true, true, false, true, false, false, false, false, false, false, false, false, false, false] HT_ HW_ hHeld ?_ (hy := by (rintro w' ⟨s0, s1, s2, s3, s4, s5, s6, s7, s8, s9, s10, s11, s12, s13, s14, s15⟩; go_simp; with_reducible rfl))
     refine takeK 3 (some 20) #[true, true, true, true, true, false, false, false, false, false, false, false, false, false, false] HT_ HW_ hHeld ?_ (hy := by (rintro w' ⟨s0, s1, s2, s3, s4, s5, s6, s7, s8, s9, s10, s11, s12, s13, s14, s15⟩; go_simp; with_reducible rfl))
     refine pureK 5 (some 22) #[true, true, true, true, true, true, false, false, false, false, false, false, false, false, false] HT_ ?_
     refine pureK 6 (some 23) #[true, true, true, true, true, true, true, false, false, false, false, false, false, false, false] HT_ ?_
     refine takeK 7 (some 24) #[true, true, true, true, true, true, true, true, false, false, false, false, false, false, false] HT_ HW_ hHeld ?_ (hy := by (rintro w' ⟨s0, s1, s2, s3, s4, s5, s6, s7, s8, s9, s10, s11, s12, s13, s14, s15⟩; go_simp; with_reducible rfl))
     refine join_ (σ := Nat) 2 #[true, true, true, true, true, true, true, true, true, true, true, true, true, false, false] (fun s_ => [(25, .tuple #[.agg #[.int .i64 t221, .int .i64 t222, .int .i64 t223, .bool t224], .bool t225]), (7, .pointer (some ⟨s_, 0, none⟩)), (16, .tuple #[.agg #[.int .i64 t221, .int .i64 t222, .int .i64 t223, .bool t224], .bool t225]), (26, .agg #[.int .i64 t221, .int .i64 t222, .int .i64 t223, .bool t224]), (27, .bool t225)]) (fun s_ w' => (w'.cell? ⟨gb218, 0, none⟩ = some (.int .i64 a0_0) ∧ w'.cell? ⟨gb218, 1, none⟩ = some (.int .i64 a0_1) ∧ w'.cell? ⟨gb218, 2, none⟩ = some (.int .i64 a0_2) ∧ w'.cell? ⟨gb218, 3, none⟩ = some (.int .i64 a0_3) ∧ w'.cell? ⟨gb218, 4, none⟩ = some (.int .i64 a0_4) ∧ w'.cell? ⟨gb218, 5, none⟩ = some (.int .i64 a0_5) ∧ w'.cell? ⟨gb218, 6, none⟩ = some (.slice A0_6 l0_6.length c0_6) ∧ w'.cell? ⟨gb218, 7, none⟩ = some (.slice A0_7 l0_7.length c0_7) ∧ w'.cell? ⟨gb219, 0, none⟩ = some (.int .i64 a1_0) ∧ w'.cell? ⟨gb219, 1, none⟩ = some (.int .i64 a1_1) ∧ w'.cell? ⟨gb219, 2, none⟩ = some (.int .i64 a1_2) ∧ w'.cell? ⟨gb219, 3, none⟩ = some (.slice A1_3 l1_3.length c1_3) ∧ w'.cell? ⟨gb219, 4, none⟩ = some (.slice (some ad220) l1_4.length c1_4) ∧ w'.cell? ⟨gb219, 5, none⟩ = some (.slice A1_5 l1_5.length c1_5) ∧ w'.cell? (ad220.add ((x6_1).toNat * 2)) = some (.int .i64 ((rd_T56 l1_4 x6_1).f0)) ∧ w'.cell? ⟨(ad220.add ((x6_1).toNat * 2)).block, (ad220.add ((x6_1).toNat * 2)).off + 1, none⟩ = some (.int .i64 ((rd_T56 l1_4 x6_1).f1))) ∧ (Kd.R (Kd.int .i64) 3 w' w.heap.size (fun _ => True) u5 x5_1) ∧ (w'.heap[gb218]? = some (.cells #[.int .i64 a0_0, .int .i64 a0_1, .int .i64 a0_2, .int .i64 a0_3, .int .i64 a0_4, .int .i64 a0_5, .slice A0_6 l0_6.length c0_6, .slice A0_7 l0_7.length c0_7] 25 (0, 0))) ∧ (w'.heap[gb219]? = some (.cells #[.int .i64 a1_0, .int .i64 a1_1, .int .i64 a1_2, .slice A1_3 l1_3.length c1_3, .slice (some ad220) l1_4.length c1_4, .slice A1_5 l1_5.length c1_5] 37 (0, 0))) ∧ (w'.heap[s_]? = some (.cells #[.int .i64 0, .int .i64 0, .int .i64 0, .bool false] 63 (0, 0))) ∧ (w.heap.size ≤ s_) ∧ (w.heap.size ≤ s_) ∧ (gb218 ≠ s_) ∧ (s_ ≠ gb218) ∧ (gb219 ≠ s_) ∧ (s_ ≠ gb219) ∧ (Below w.heap.size w w')) ?_ ?_
     rotate_left
     ·intro hCont
      refine two_ (i := 8) (j := 12) (Ni := some 25) (Nj := some 7) #[true, true, true, true, true, true, true, true, true, false, false, false, false, false, false] #[true, true, true, true, true, true, true, true, false, false, false, false, true, false, false] rfl rfl rfl rfl (two_of HT_.out (by kernel_rfl)) (by decide) (by decide) (fun K hK => ?_) (fun K hK => ?_)
      ·skip
       refine goesR Try.func34 #[.slice A0_6 l0_6.length c0_6, .int .i64 ((rd_T56 l1_4 x6_1).f0)] ?_
       with_reducible refine (fuglemanref16_Find.calls k1 _ _ l0_6 ((rd_T56 l1_4 x6_1).f0) t221 t222 t223 t224 t225 _ ?side1 ?side2 A7.out).mono ?_
       (case side1 => exact sC HR0_6 HB)
       (case side2 => exact HC0_6.out)
       rintro e w12 ⟨rfl, hb⟩
       refine ⟨_, rfl, ?_⟩
       replace HO_5 := sR HO_5 hb
       replace BK218 := sK BK218 hb
       replace BK219 := sK BK219 hb
       replace HB := sB HB hb
       (try clear hb)
       refine hK.out _ _ ⟨sc BK218 0, sc BK218 1, sc BK218 2, sc BK218 3, sc BK218 4, sc BK218 5, sc BK218 6, sc BK218 7, sc BK219 0, sc BK219 1, sc BK219 2, sc BK219 3, sc BK219 4, sc BK219 5, ((HB.out.cell (World.block_lt_of_cell? w _ hw220_0)).trans hw220_0), ((HB.out.cell (World.block_lt_of_cell? w _ hw220_1)).trans hw220_1)⟩ (fun hHeld => ?_)
       clear hK K
       refine norm_ (a' := ?_) ?_ ?_
       rotate_left
       ·show Act.put _ (some 25) _ = _
        simp only [Act.put, List.setIfInBounds_toArray, List.set_cons_zero, List.set_cons_succ, i64_w, i32_w]
        rfl
       refine pureK 9 (some 16) #[true, true, true, true, true, true, true, true, true, true, false, false, false, false, false] HT_ ?_
       refine pureK 10 (some 26) #[true, true, true, true, true, true, true, true, true, true, true, false, false, false, false] HT_ ?_
       refine pureK 11 (some 27) #[true, true, true, true, true, true, true, true, true, true, true, true, false, false, false] HT_ ?_
       refine one_ (i := 12) (N := some 7) #[true, true, true, true, true, true, true, true, true, true, true, true, true, false, false] rfl rfl (one_of HT_.out (by kernel_rfl)) (by decide) (fun K hK => ?_)
       refine box_step ?hg (N := 7) ?hd (cs := #[.int .i64 0, .int .i64 0, .int .i64 0, .bool false]) (t := 63) ?hr ?_; (case hd => rfl); (case hg => rfl); (case hr => first | (go_simp; done) | (go_simp; rfl))
       intro gb226 hg w13 hbox hb
       replace HO_5 := sR HO_5 hb
       have BK226 := Aside0.mk (hbox)
       have GW226 := sG hg HB
       have GE226 := sG hg HB
       replace HB := sB HB hb
       have NB218_226 := sNl hg BK218
       have NB226_218 := sNg hg BK218
       replace BK218 := sK BK218 hb
       have NB219_226 := sNl hg BK219
       have NB226_219 := sNg hg BK219
       replace BK219 := sK BK219 hb
       clear hb hbox hg
       refine hK.out _ _ ⟨sc BK218 0, sc BK218 1, sc BK218 2, sc BK218 3, sc BK218 4, sc BK218 5, sc BK218 6, sc BK218 7, sc BK219 0, sc BK219 1, sc BK219 2, sc BK219 3, sc BK219 4, sc BK219 5, ((HB.out.cell (World.block_lt_of_cell? w _ hw220_0)).trans hw220_0), ((HB.out.cell (World.block_lt_of_cell? w _ hw220_1)).trans hw220_1)⟩ (fun hHeld => ?_)
       clear hK K
       refine norm_ (a' := ?_) ?_ ?_
       rotate_left
       ·show Act.put _ (some 7) _ = _
        simp only [Act.put, List.setIfInBounds_toArray, List.set_cons_zero, List.set_cons_succ, i64_w, i32_w]
        rfl
       exact norm_ (by simp only [putAll, Act.put, List.setIfInBounds_toArray, List.set_cons_zero, List.set_cons_succ]) (hCont (gb226) _ ⟨hHeld, (by (with_reducible repeat (first | apply Kd.R_alloc | apply Kd.R_drewN | apply Kd.R_drew)); exact HO_5.out), (by (with_reducible repeat (first | refine blk_drewN ?_ _ | refine blk_drew ?_ | refine blk_alloc ?_ _)); exact BK218.out), (by (with_reducible repeat (first | refine blk_drewN ?_ _ | refine blk_drew ?_ | refine blk_alloc ?_ _)); exact BK219.out), (by (with_reducible repeat (first | refine blk_drewN ?_ _ | refine blk_drew ?_ | refine blk_alloc ?_ _)); exact BK226.out), GW226.out, GE226.out, NB218_226.out, NB226_218.out, NB219_226.out, NB226_219.out, (by repeat (first | (with_reducible first | exact HB.out | apply below_alloc | apply pw_below_drewN | apply below_drew1 | refine below_set ?_ (Aside0.out (by assumption))) | exact HB.out))⟩)
      ·skip
       refine box_step ?hg (N := 7) ?hd (cs := #[.int .i64 0, .int .i64 0, .int .i64 0, .bool false]) (t := 63) ?hr ?_; (case hd => rfl); (case hg => rfl); (case hr => first | (go_simp; done) | (go_simp; rfl))
       intro gb226 hg w12 hbox hb
       replace HO_5 := sR HO_5 hb
       have BK226 := Aside0.mk (hbox)
       have GW226 := sG hg HB
       have GE226 := sG hg HB
       replace HB := sB HB hb
       have NB218_226 := sNl hg BK218
       have NB226_218 := sNg hg BK218
       replace BK218 := sK BK218 hb
       have NB219_226 := sNl hg BK219
       have NB226_219 := sNg hg BK219
       replace BK219 := sK BK219 hb
       clear hb hbox hg
       refine hK.out _ _ ⟨sc BK218 0, sc BK218 1, sc BK218 2, sc BK218 3, sc BK218 4, sc BK218 5, sc BK218 6, sc BK218 7, sc BK219 0, sc BK219 1, sc BK219 2, sc BK219 3, sc BK219 4, sc BK219 5, ((HB.out.cell (World.block_lt_of_cell? w _ hw220_0)).trans hw220_0), ((HB.out.cell (World.block_lt_of_cell? w _ hw220_1)).trans hw220_1)⟩ (fun hHeld => ?_)
       clear hK K
       refine norm_ (a' := ?_) ?_ ?_
       rotate_left
       ·show Act.put _ (some 7) _ = _
        simp only [Act.put, List.setIfInBounds_toArray, List.set_cons_zero, List.set_cons_succ, i64_w, i32_w]
        rfl
       refine one_ (i := 8) (N := some 25) #[true, true, true, true, true, true, true, true, true, false, false, false, true, false, false] rfl rfl (one_of HT_.out (by kernel_rfl)) (by decide) (fun K hK => ?_)
       refine goesR Try.func34 #[.slice A0_6 l0_6.length c0_6, .int .i64 ((rd_T56 l1_4 x6_1).f0)] ?_
       with_reducible refine (fuglemanref16_Find.calls k1 _ _ l0_6 ((rd_T56 l1_4 x6_1).f0) t221 t222 t223 t224 t225 _ ?side1 ?side2 A7.out).mono ?_
       (case side1 => exact sC HR0_6 HB)
       (case side2 => exact HC0_6.out)
       rintro e w13 ⟨rfl, hb⟩
       refine ⟨_, rfl, ?_⟩
       replace HO_5 := sR HO_5 hb
       replace BK218 := sK BK218 hb
       replace BK219 := sK BK219 hb
       replace BK226 := sK BK226 hb
       replace HB := sB HB hb
       (try clear hb)
       refine hK.out _ _ ⟨sc BK218 0, sc BK218 1, sc BK218 2, sc BK218 3, sc BK218 4, sc BK218 5, sc BK218 6, sc BK218 7, sc BK219 0, sc BK219 1, sc BK219 2, sc BK219 3, sc BK219 4, sc BK219 5, ((HB.out.cell (World.block_lt_of_cell? w _ hw220_0)).trans hw220_0), ((HB.out.cell (World.block_lt_of_cell? w _ hw220_1)).trans hw220_1)⟩ (fun hHeld => ?_)
       clear hK K
       refine norm_ (a' := ?_) ?_ ?_
       rotate_left
       ·show Act.put _ (some 25) _ = _
        simp only [Act.put, List.setIfInBounds_toArray, List.set_cons_zero, List.set_cons_succ, i64_w, i32_w]
        rfl
       refine pureK 9 (some 16) #[true, true, true, true, true, true, true, true, true, true, false, false, true, false, false] HT_ ?_
       refine pureK 10 (some 26) #[true, true, true, true, true, true, true, true, true, true, true, false, true, false, false] HT_ ?_
       refine pureK 11 (some 27) #[true, true, true, true, true, true, true, true, true, true, true, true, true, false, false] HT_ ?_
       exact norm_ (by simp only [putAll, Act.put, List.setIfInBounds_toArray, List.set_cons_zero, List.set_cons_succ]) (hCont (gb226) _ ⟨hHeld, (by (with_reducible repeat (first | apply Kd.R_alloc | apply Kd.R_drewN | apply Kd.R_drew)); exact HO_5.out), (by (with_reducible repeat (first | refine blk_drewN ?_ _ | refine blk_drew ?_ | refine blk_alloc ?_ _)); exact BK218.out), (by (with_reducible repeat (first | refine blk_drewN ?_ _ | refine blk_drew ?_ | refine blk_alloc ?_ _)); exact BK219.out), (by (with_reducible repeat (first | refine blk_drewN ?_ _ | refine blk_drew ?_ | refine blk_alloc ?_ _)); exact BK226.out), GW226.out, GE226.out, NB218_226.out, NB226_218.out, NB219_226.out, NB226_219.out, (by repeat (first | (with_reducible first | exact HB.out | apply below_alloc | apply pw_below_drewN | apply below_drew1 | refine below_set ?_ (Aside0.out (by assumption))) | exact HB.out))⟩)
     rintro gb226 w14 ⟨hS_, h0_, h1_, h2_, h3_, h4_, h5_, h6_, h7_, h8_, h9_, h10_⟩
     have n0_ : Aside0 (Kd.R (Kd.int .i64) 3 w14 w.heap.size (fun _ => True) u5 x5_1) := ⟨h0_⟩
     have n1_ : Aside0 (w14.heap[gb218]? = some (.cells #[.int .i64 a0_0, .int .i64 a0_1, .int .i64 a0_2, .int .i64 a0_3, .int .i64 a0_4, .int .i64 a0_5, .slice A0_6 l0_6.length c0_6, .slice A0_7 l0_7.length c0_7] 25 (0, 0))) := ⟨h1_⟩
     have n2_ : Aside0 (w14.heap[gb219]? = some (.cells #[.int .i64 a1_0, .int .i64 a1_1, .int .i64 a1_2, .slice A1_3 l1_3.length c1_3, .slice (some ad220) l1_4.length c1_4, .slice A1_5 l1_5.length c1_5] 37 (0, 0))) := ⟨h2_⟩
     have n3_ : Aside0 (w14.heap[gb226]? = some (.cells #[.int .i64 0, .int .i64 0, .int .i64 0, .bool false] 63 (0, 0))) := ⟨h3_⟩
     have n4_ : Aside0 (w.heap.size ≤ gb226) := ⟨h4_⟩
     have n5_ : Aside0 (w.heap.size ≤ gb226) := ⟨h5_⟩
     have n6_ : Aside0 (gb218 ≠ gb226) := ⟨h6_⟩
     have n7_ : Aside0 (gb226 ≠ gb218) := ⟨h7_⟩
     have n8_ : Aside0 (gb219 ≠ gb226) := ⟨h8_⟩
     have n9_ : Aside0 (gb226 ≠ gb219) := ⟨h9_⟩
     have n10_ : Aside0 (Below w.heap.size w w14) := ⟨h10_⟩
     clear HO_5
     clear BK218
     clear BK219
     clear HB
     clear h0_ h1_ h2_ h3_ h4_ h5_ h6_ h7_ h8_ h9_ h10_
     have HO_5 := n0_
     have BK218 := n1_
     have BK219 := n2_
     have BK226 := n3_
     have GW226 := n4_
     have GE226 := n5_
     have NB218_226 := n6_
     have NB226_218 := n7_
     have NB219_226 := n8_
     have NB226_219 := n9_
     have HB := n10_
     clear n0_ n1_ n2_ n3_ n4_ n5_ n6_ n7_ n8_ n9_ n10_
     have hHeld : w14.cell? ⟨gb218, 0, none⟩ = some (.int .i64 a0_0) ∧ w14.cell? ⟨gb218, 1, none⟩ = some (.int .i64 a0_1) ∧ w14.cell? ⟨gb218, 2, none⟩ = some (.int .i64 a0_2) ∧ w14.cell? ⟨gb218, 3, none⟩ = some (.int .i64 a0_3) ∧ w14.cell? ⟨gb218, 4, none⟩ = some (.int .i64 a0_4) ∧ w14.cell? ⟨gb218, 5, none⟩ = some (.int .i64 a0_5) ∧ w14.cell? ⟨gb218, 6, none⟩ = some (.slice A0_6 l0_6.length c0_6) ∧ w14.cell? ⟨gb218, 7, none⟩ = some (.slice A0_7 l0_7.length c0_7) ∧ w14.cell? ⟨gb219, 0, none⟩ = some (.int .i64 a1_0) ∧ w14.cell? ⟨gb219, 1, none⟩ = some (.int .i64 a1_1) ∧ w14.cell? ⟨gb219, 2, none⟩ = some (.int .i64 a1_2) ∧ w14.cell? ⟨gb219, 3, none⟩ = some (.slice A1_3 l1_3.length c1_3) ∧ w14.cell? ⟨gb219, 4, none⟩ = some (.slice (some ad220) l1_4.length c1_4) ∧ w14.cell? ⟨gb219, 5, none⟩ = some (.slice A1_5 l1_5.length c1_5) ∧ w14.cell? (ad220.add ((x6_1).toNat * 2)) = some (.int .i64 ((rd_T56 l1_4 x6_1).f0)) ∧ w14.cell? ⟨(ad220.add ((x6_1).toNat * 2)).block, (ad220.add ((x6_1).toNat * 2)).off + 1, none⟩ = some (.int .i64 ((rd_T56 l1_4 x6_1).f1)) := hS_
     refine norm_ (a' := ?_) ?_ ?_
     rotate_left
     ·simp only [putAll, Act.put, List.setIfInBounds_toArray, List.set_cons_zero, List.set_cons_succ]
      rfl
     refine one_ (i := 13) (N := none) #[true, true, true, true, true, true, true, true, true, true, true, true, true, true, false] rfl rfl (one_of HT_.out (by kernel_rfl)) (by decide) (fun K hK => ?_)
     have hs15 : w14.cell? ⟨gb226, 0, none⟩ = some (.int .i64 0) := sc BK226 0
     have hfs15 := blk_frozen BK226.out 0
     have hns15_0 := NB218_226.out
     have hns15_1 := NB219_226.out
     have hms15_0 := NB226_218.out
     have hms15_1 := NB226_219.out
     have hs16 : w14.cell? ⟨gb226, 1, none⟩ = some (.int .i64 0) := sc BK226 1
     have hfs16 := blk_frozen BK226.out 1
     have hns16_0 := NB218_226.out
     have hns16_1 := NB219_226.out
     have hms16_0 := NB226_218.out
     have hms16_1 := NB226_219.out
     have hs17 : w14.cell? ⟨gb226, 2, none⟩ = some (.int .i64 0) := sc BK226 2
     have hfs17 := blk_frozen BK226.out 2
     have hns17_0 := NB218_226.out
     have hns17_1 := NB219_226.out
     have hms17_0 := NB226_218.out
     have hms17_1 := NB226_219.out
     have hs18 : w14.cell? ⟨gb226, 3, none⟩ = some (.bool false) := sc BK226 3
     have hfs18 := blk_frozen BK226.out 3
     have hns18_0 := NB218_226.out
     have hns18_1 := NB219_226.out
     have hms18_0 := NB226_218.out
     have hms18_1 := NB226_219.out
     refine skip_ (w1 := ?_) (by rfl) rfl ?_ ?_
     rotate_left
     ·go_simp
      rfl
     refine hK.out _ _ ⟨((cell_far (p := ⟨gb226, _, none⟩) NB218_226.out _).trans (((cell_far (p := ⟨gb226, _, none⟩) NB218_226.out _).trans (((cell_far (p := ⟨gb226, _, none⟩) NB218_226.out _).trans (((cell_far (p := ⟨gb226, _, none⟩) NB218_226.out _).trans (hHeld.1)))))))), ((cell_far (p := ⟨gb226, _, none⟩) NB218_226.out _).trans (((cell_far (p := ⟨gb226, _, none⟩) NB218_226.out _).trans (((cell_far (p := ⟨gb226, _, none⟩) NB218_226.out _).trans (((cell_far (p := ⟨gb226, _, none⟩) NB218_226.out _).trans (hHeld.2.1)))))))), ((cell_far (p := ⟨gb226, _, none⟩) NB218_226.out _).trans (((cell_far (p := ⟨gb226, _, none⟩) NB218_226.out _).trans (((cell_far (p := ⟨gb226, _, none⟩) NB218_226.out _).trans (((cell_far (p := ⟨gb226, _, none⟩) NB218_226.out _).trans (hHeld.2.2.1)))))))), ((cell_far (p := ⟨gb226, _, none⟩) NB218_226.out _).trans (((cell_far (p := ⟨gb226, _, none⟩) NB218_226.out _).trans (((cell_far (p := ⟨gb226, _, none⟩) NB218_226.out _).trans (((cell_far (p := ⟨gb226, _, none⟩) NB218_226.out _).trans (hHeld.2.2.2.1)))))))), ((cell_far (p := ⟨gb226, _, none⟩) NB218_226.out _).trans (((cell_far (p := ⟨gb226, _, none⟩) NB218_226.out _).trans (((cell_far (p := ⟨gb226, _, none⟩) NB218_226.out _).trans (((cell_far (p := ⟨gb226, _, none⟩) NB218_226.out _).trans (hHeld.2.2.2.2.1)))))))), ((cell_far (p := ⟨gb226, _, none⟩) NB218_226.out _).trans (((cell_far (p := ⟨gb226, _, none⟩) NB218_226.out _).trans (((cell_far (p := ⟨gb226, _, none⟩) NB218_226.out _).trans (((cell_far (p := ⟨gb226, _, none⟩) NB218_226.out _).trans (hHeld.2.2.2.2.2.1)))))))), ((cell_far (p := ⟨gb226, _, none⟩) NB218_226.out _).trans (((cell_far (p := ⟨gb226, _, none⟩) NB218_226.out _).trans (((cell_far (p := ⟨gb226, _, none⟩) NB218_226.out _).trans (((cell_far (p := ⟨gb226, _, none⟩) NB218_226.out _).trans (hHeld.2.2.2.2.2.2.1)))))))), ((cell_far (p := ⟨gb226, _, none⟩) NB218_226.out _).trans (((cell_far (p := ⟨gb226, _, none⟩) NB218_226.out _).trans (((cell_far (p := ⟨gb226, _, none⟩) NB218_226.out _).trans (((cell_far (p := ⟨gb226, _, none⟩) NB218_226.out _).trans (hHeld.2.2.2.2.2.2.2.1)))))))), ((cell_far (p := ⟨gb226, _, none⟩) NB219_226.out _).trans (((cell_far (p := ⟨gb226, _, none⟩) NB219_226.out _).trans (((cell_far (p := ⟨gb226, _, none⟩) NB219_226.out _).trans (((cell_far (p := ⟨gb226, _, none⟩) NB219_226.out _).trans (hHeld.2.2.2.2.2.2.2.2.1)))))))), ((cell_far (p := ⟨gb226, _, none⟩) NB219_226.out _).trans (((cell_far (p := ⟨gb226, _, none⟩) NB219_226.out _).trans (((cell_far (p := ⟨gb226, _, none⟩) NB219_226.out _).trans (((cell_far (p := ⟨gb226, _, none⟩) NB219_226.out _).trans (hHeld.2.2.2.2.2.2.2.2.2.1)))))))), ((cell_far (p := ⟨gb226, _, none⟩) NB219_226.out _).trans (((cell_far (p := ⟨gb226, _, none⟩) NB219_226.out _).trans (((cell_far (p := ⟨gb226, _, none⟩) NB219_226.out _).trans (((cell_far (p := ⟨gb226, _, none⟩) NB219_226.out _).trans (hHeld.2.2.2.2.2.2.2.2.2.2.1)))))))), ((cell_far (p := ⟨gb226, _, none⟩) NB219_226.out _).trans (((cell_far (p := ⟨gb226, _, none⟩) NB219_226.out _).trans (((cell_far (p := ⟨gb226, _, none⟩) NB219_226.out _).trans (((cell_far (p := ⟨gb226, _, none⟩) NB219_226.out _).trans (hHeld.2.2.2.2.2.2.2.2.2.2.2.1)))))))), ((cell_far (p := ⟨gb226, _, none⟩) NB219_226.out _).trans (((cell_far (p := ⟨gb226, _, none⟩) NB219_226.out _).trans (((cell_far (p := ⟨gb226, _, none⟩) NB219_226.out _).trans (((cell_far (p := ⟨gb226, _, none⟩) NB219_226.out _).trans (hHeld.2.2.2.2.2.2.2.2.2.2.2.2.1)))))))), ((cell_far (p := ⟨gb226, _, none⟩) NB219_226.out _).trans (((cell_far (p := ⟨gb226, _, none⟩) NB219_226.out _).trans (((cell_far (p := ⟨gb226, _, none⟩) NB219_226.out _).trans (((cell_far (p := ⟨gb226, _, none⟩) NB219_226.out _).trans (hHeld.2.2.2.2.2.2.2.2.2.2.2.2.2.1)))))))), ((cell_far (p := ⟨gb226, _, none⟩) (by first | exact Nat.ne_of_lt (Nat.lt_of_lt_of_le (by have := World.block_lt_of_cell? _ _ hw220_0; first | rwa [add_block] at this | exact this) GW226.out) | (rw [add_block]; exact Nat.ne_of_lt (Nat.lt_of_lt_of_le (by have := World.block_lt_of_cell? _ _ hw220_0; first | rwa [add_block] at this | exact this) GW226.out)) | (show (Addr.add _ _).block ≠ _; rw [add_block]; exact Nat.ne_of_lt (Nat.lt_of_lt_of_le (by have := World.block_lt_of_cell? _ _ hw220_0; first | rwa [add_block] at this | exact this) GW226.out)) | (dsimp only; exact Nat.ne_of_lt (Nat.lt_of_lt_of_le (by have := World.block_lt_of_cell? _ _ hw220_0; first | rwa [add_block] at this | exact this) GW226.out))) _).trans (((cell_far (p := ⟨gb226, _, none⟩) (by first | exact Nat.ne_of_lt (Nat.lt_of_lt_of_le (by have := World.block_lt_of_cell? _ _ hw220_0; first | rwa [add_block] at this | exact this) GW226.out) | (rw [add_block]; exact Nat.ne_of_lt (Nat.lt_of_lt_of_le (by have := World.block_lt_of_cell? _ _ hw220_0; first | rwa [add_block] at this | exact this) GW226.out)) | (show (Addr.add _ _).block ≠ _; rw [add_block]; exact Nat.ne_of_lt (Nat.lt_of_lt_of_le (by have := World.block_lt_of_cell? _ _ hw220_0; first | rwa [add_block] at this | exact this) GW226.out)) | (dsimp only; exact Nat.ne_of_lt (Nat.lt_of_lt_of_le (by have := World.block_lt_of_cell? _ _ hw220_0; first | rwa [add_block] at this | exact this) GW226.out))) _).trans (((cell_far (p := ⟨gb226, _, none⟩) (by first | exact Nat.ne_of_lt (Nat.lt_of_lt_of_le (by have := World.block_lt_of_cell? _ _ hw220_0; first | rwa [add_block] at this | exact this) GW226.out) | (rw [add_block]; exact Nat.ne_of_lt (Nat.lt_of_lt_of_le (by have := World.block_lt_of_cell? _ _ hw220_0; first | rwa [add_block] at this | exact this) GW226.out)) | (show (Addr.add _ _).block ≠ _; rw [add_block]; exact Nat.ne_of_lt (Nat.lt_of_lt_of_le (by have := World.block_lt_of_cell? _ _ hw220_0; first | rwa [add_block] at this | exact this) GW226.out)) | (dsimp only; exact Nat.ne_of_lt (Nat.lt_of_lt_of_le (by have := World.block_lt_of_cell? _ _ hw220_0; first | rwa [add_block] at this | exact this) GW226.out))) _).trans (((cell_far (p := ⟨gb226, _, none⟩) (by first | exact Nat.ne_of_lt (Nat.lt_of_lt_of_le (by have := World.block_lt_of_cell? _ _ hw220_0; first | rwa [add_block] at this | exact this) GW226.out) | (rw [add_block]; exact Nat.ne_of_lt (Nat.lt_of_lt_of_le (by have := World.block_lt_of_cell? _ _ hw220_0; first | rwa [add_block] at this | exact this) GW226.out)) | (show (Addr.add _ _).block ≠ _; rw [add_block]; exact Nat.ne_of_lt (Nat.lt_of_lt_of_le (by have := World.block_lt_of_cell? _ _ hw220_0; first | rwa [add_block] at this | exact this) GW226.out)) | (dsimp only; exact Nat.ne_of_lt (Nat.lt_of_lt_of_le (by have := World.block_lt_of_cell? _ _ hw220_0; first | rwa [add_block] at this | exact this) GW226.out))) _).trans (hHeld.2.2.2.2.2.2.2.2.2.2.2.2.2.2.1)))))))), ((cell_far (p := ⟨gb226, _, none⟩) (by first | exact Nat.ne_of_lt (Nat.lt_of_lt_of_le (by have := World.block_lt_of_cell? _ _ hw220_1; first | rwa [add_block] at this | exact this) GW226.out) | (rw [add_block]; exact Nat.ne_of_lt (Nat.lt_of_lt_of_le (by have := World.block_lt_of_cell? _ _ hw220_1; first | rwa [add_block] at this | exact this) GW226.out)) | (show (Addr.add _ _).block ≠ _; rw [add_block]; exact Nat.ne_of_lt (Nat.lt_of_lt_of_le (by have := World.block_lt_of_cell? _ _ hw220_1; first | rwa [add_block] at this | exact this) GW226.out)) | (dsimp only; exact Nat.ne_of_lt (Nat.lt_of_lt_of_le (by have := World.block_lt_of_cell? _ _ hw220_1; first | rwa [add_block] at this | exact this) GW226.out))) _).trans (((cell_far (p := ⟨gb226, _, none⟩) (by first | exact Nat.ne_of_lt (Nat.lt_of_lt_of_le (by have := World.block_lt_of_cell? _ _ hw220_1; first | rwa [add_block] at this | exact this) GW226.out) | (rw [add_block]; exact Nat.ne_of_lt (Nat.lt_of_lt_of_le (by have := World.block_lt_of_cell? _ _ hw220_1; first | rwa [add_block] at this | exact this) GW226.out)) | (show (Addr.add _ _).block ≠ _; rw [add_block]; exact Nat.ne_of_lt (Nat.lt_of_lt_of_le (by have := World.block_lt_of_cell? _ _ hw220_1; first | rwa [add_block] at this | exact this) GW226.out)) | (dsimp only; exact Nat.ne_of_lt (Nat.lt_of_lt_of_le (by have := World.block_lt_of_cell? _ _ hw220_1; first | rwa [add_block] at this | exact this) GW226.out))) _).trans (((cell_far (p := ⟨gb226, _, none⟩) (by first | exact Nat.ne_of_lt (Nat.lt_of_lt_of_le (by have := World.block_lt_of_cell? _ _ hw220_1; first | rwa [add_block] at this | exact this) GW226.out) | (rw [add_block]; exact Nat.ne_of_lt (Nat.lt_of_lt_of_le (by have := World.block_lt_of_cell? _ _ hw220_1; first | rwa [add_block] at this | exact this) GW226.out)) | (show (Addr.add _ _).block ≠ _; rw [add_block]; exact Nat.ne_of_lt (Nat.lt_of_lt_of_le (by have := World.block_lt_of_cell? _ _ hw220_1; first | rwa [add_block] at this | exact this) GW226.out)) | (dsimp only; exact Nat.ne_of_lt (Nat.lt_of_lt_of_le (by have := World.block_lt_of_cell? _ _ hw220_1; first | rwa [add_block] at this | exact this) GW226.out))) _).trans (((cell_far (p := ⟨gb226, _, none⟩) (by first | exact Nat.ne_of_lt (Nat.lt_of_lt_of_le (by have := World.block_lt_of_cell? _ _ hw220_1; first | rwa [add_block] at this | exact this) GW226.out) | (rw [add_block]; exact Nat.ne_of_lt (Nat.lt_of_lt_of_le (by have := World.block_lt_of_cell? _ _ hw220_1; first | rwa [add_block] at this | exact this) GW226.out)) | (show (Addr.add _ _).block ≠ _; rw [add_block]; exact Nat.ne_of_lt (Nat.lt_of_lt_of_le (by have := World.block_lt_of_cell? _ _ hw220_1; first | rwa [add_block] at this | exact this) GW226.out)) | (dsimp only; exact Nat.ne_of_lt (Nat.lt_of_lt_of_le (by have := World.block_lt_of_cell? _ _ hw220_1; first | rwa [add_block] at this | exact this) GW226.out))) _).trans (hHeld.2.2.2.2.2.2.2.2.2.2.2.2.2.2.2))))))))⟩ (fun hHeld => ?_)
     clear hK K
     refine pureK 14 (some 8) #[true, true, true, true, true, true, true, true, true, true, true, true, true, true, true] HT_ ?_
     refine done_ (done_of HT_.out (by kernel_rfl)) ?_
     have hnb19 := NB226_218.out
     have hnc19 := NB218_226.out
     have hnb20 := NB226_219.out
     have hnc20 := NB219_226.out
     obtain ⟨z21_0, z21_1, z21_2, z21_3, q21_0, q21_1, q21_2, q21_3⟩ := bk4 BK226
     try go_wp2_with (first | ((with_reducible refine gate_builtin (b := .append) (xs := #[.tmp 28, .tmp 31]) rfl ?_); at_builtin; refine Kd.R_append (Kd.int .i64) (w0 := w) w.heap.size rfl (.tmp 28) (.tmp 31) 45 3 (.int .i64 0) 8 rfl Try.underlying45 info3 rfl (by decide) (by omega) u5 x5_1 t223 [.int .i64 t223] (fun _ => True) (fun _ => False) rfl (by first | (go_simp; done) | (go_simp; rfl)) ?aP (fun _ hk => hk.elim) ?aF ?aO ?aB ?aS ?aL ?_; (case aP => exact rfl); (case aB => exact (by repeat (first | (with_reducible first | exact HB.out | apply below_alloc | apply pw_below_drewN | apply below_drew1 | refine below_set ?_ (Aside0.out (by assumption))) | exact HB.out))); (case aF => exact (fun _ _ => trivial)); (case aO => exact (by (with_reducible repeat (first | apply Kd.R_alloc | apply Kd.R_drewN | apply Kd.R_drew)); exact Kd.R_mono (Kd.R_far (p := ⟨gb226, 3, none⟩) (Kd.R_far (p := ⟨gb226, 2, none⟩) (Kd.R_far (p := ⟨gb226, 1, none⟩) (Kd.R_far (p := ⟨gb226, 0, none⟩) (Kd.R_types HO_5.out BK226.out (by decide)) (fun _ hk => hk.2) (.int .i64 t221)) (fun _ hk => hk.2) (.int .i64 t222)) (fun _ hk => hk.2) (.int .i64 t223)) (fun _ hk => hk.2) (.bool t224)) (fun _ hk => trivial))); (case aS => exact (below_size (by repeat (first | (with_reducible first | exact HB.out | apply below_alloc | apply pw_below_drewN | apply below_drew1 | refine below_set ?_ (Aside0.out (by assumption))) | exact HB.out)))); (case aL => have := LMc8.out; omega); intro v228 w22 ho hb hg hat; rw [← Ny227.out] at ho; replace BK218 := Aside0.mk (blk_grown (g := gb218) (o := .cells #[.int .i64 a0_0, .int .i64 a0_1, .int .i64 a0_2, .int .i64 a0_3, .int .i64 a0_4, .int .i64 a0_5, .slice A0_6 l0_6.length c0_6, .slice A0_7 l0_7.length c0_7] 25 (0, 0)) (sKq BK218) hg (Kd.R_ne HO_5.out BK218.out (by decide))); replace BK219 := Aside0.mk (blk_grown (g := gb219) (o := .cells #[.int .i64 a1_0, .int .i64 a1_1, .int .i64 a1_2, .slice A1_3 l1_3.length c1_3, .slice (some ad220) l1_4.length c1_4, .slice A1_5 l1_5.length c1_5] 37 (0, 0)) (sKq BK219) hg (Kd.R_ne HO_5.out BK219.out (by decide))); replace BK226 := Aside0.mk (blk_grown (g := gb226) (o := .cells #[.int .i64 t221, .int .i64 t222, .int .i64 t223, .bool t224] 63 (0, 0)) (sKq BK226) hg (Kd.R_ne HO_5.out BK226.out (by decide))); replace HB := Aside0.mk (hb); have HO229 := Aside0.mk (ho); clear HO_5; clear ho hb hg hat))
     go_roundg k1
     case measure => have := HK1.out; omega
     case rel => exact ⟨(y227), (wrap64 (x6_1 + 1)), (by first | rfl | (simp; done) | (simp [*]; done)), H', ⟨by have := HK1.out; omega⟩, (sR0 HO229), (sK0 BK218), (sK0 BK219), (sB0 HB)⟩
    ·rw [if_neg c8] at H
     exact absurd H (by simp)
   ·rw [if_neg c6] at H
    exact absurd H (by simp)
  ·rw [if_neg c5] at H
   have c5b0 : decide (x6_1 < (l1_4.length : Int)) = false := decide_eq_false c5
   clear c5
   obtain rfl := Option.some.inj H
   have hnb23 := NB219_218.out
   have hnc23 := NB218_219.out
   obtain ⟨z24_0, z24_1, z24_2, z24_3, z24_4, z24_5, q24_0, q24_1, q24_2, q24_3, q24_4, q24_5⟩ := bk6 BK219
   go_wp2
   go_ret
   exact ⟨_, by first | rfl | (simp [errW_none, errW_some] <;> rfl) | (simp [*, errW_none, errW_some] <;> rfl), by (with_reducible repeat (first | apply Kd.R_alloc | apply Kd.R_drewN | apply Kd.R_drew)); exact HO_5.out, by repeat (first | (with_reducible first | exact HB.out | apply below_alloc | apply pw_below_drewN | apply below_drew1 | refine below_set ?_ (Aside0.out (by assumption))) | exact HB.out)⟩

end Go.Proofs.Ytedmikeamgebjaa.F
