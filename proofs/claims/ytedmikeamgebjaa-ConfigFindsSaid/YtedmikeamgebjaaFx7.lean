-- Written by a program out of the translation; not trusted: Lean checks it.
import Derived.Test.YtedmikeamgebjaaK
import Derived.Test.YtedmikeamgebjaaFx0
namespace Go.Proofs.Ytedmikeamgebjaa.F
open Go.Proofs.YtedmikeamgebjaaW.PrintK Go.RowKit Go.Proofs.YtedmikeamgebjaaW.PrintWords Go.Proofs.YtedmikeamgebjaaW.PrintLast Go.Proofs.YtedmikeamgebjaaW.PrintMore
attribute [local go_sem] max2_int min2_int max_two min_two max_three min_three max_four min_four   -- for this text's walks alone
set_option linter.unusedVariables false
set_option linter.unusedSimpArgs false

/-! ### fuglemanref20_Find: function 11 -/
def fuglemanref20_Find.l0 : Nat → Int → Int → Int → Int → Int → Int → Int → Int → List (S63) → List (S37) → Option (Int × Int × Int × (List (S54)) × (List (S56)) × (List (S56)) × Bool)
 | 0, _, _, _, _, _, _, _, _, _, _ => none
 | k + 1, x1, x6, x181000, x181001, x181002, x181003, x181004, x181005, x181006, x181007 => if x6 < (x181007.length : Int) then (if 0 ≤ x6 then (if ((rd_T37 x181007 x6).f0) = x1 then (some ((rd_T37 x181007 x6).f0, (rd_T37 x181007 x6).f1, (rd_T37 x181007 x6).f2, (rd_T37 x181007 x6).f3, (rd_T37 x181007 x6).f4, (rd_T37 x181007 x6).f5, true)) else (fuglemanref20_Find.l0 k x1 (wrap64 (x6 + 1)) x181000 x181001 x181002 x181003 x181004 x181005 x181006 x181007)) else (none)) else (some (0, 0, 0, ([] : List (S54)), ([] : List (S56)), ([] : List (S56)), false))
def fuglemanref20_Find.f (k : Nat) (a0_0 : Int) (a0_1 : Int) (a0_2 : Int) (a0_3 : Int) (a0_4 : Int) (a0_5 : Int) (l0_6 : List (S63)) (l0_7 : List (S37)) (a1 : Int) : Option (Int × Int × Int × (List (S54)) × (List (S56)) × (List (S56)) × Bool) := fuglemanref20_Find.l0 k a1 0 a0_0 a0_1 a0_2 a0_3 a0_4 a0_5 l0_6 l0_7
theorem fuglemanref20_Find.mono_l : ∀ k, (∀ y0 y1 y2 y3 y4 y5 y6 y7 y8 y9, LeO (fuglemanref20_Find.l0 k y0 y1 y2 y3 y4 y5 y6 y7 y8 y9) (fuglemanref20_Find.l0 (k + 1) y0 y1 y2 y3 y4 y5 y6 y7 y8 y9))
 | 0 => fun _ _ _ _ _ _ _ _ _ _ r h => by simp [fuglemanref20_Find.l0] at h
 | k + 1 => by
  have ih0 := fuglemanref20_Find.mono_l k
  ·intro y0 y1 y2 y3 y4 y5 y6 y7 y8 y9
   unfold fuglemanref20_Find.l0
   repeat' first
   | (with_reducible exact ih0 _ _ _ _ _ _ _ _ _ _)
   | (with_reducible exact LeO.refl _)
   | (with_reducible exact LeO.none _)
   | (with_reducible refine LeO.ite ?_ ?_)
   | (with_reducible refine LeO.bind ?_ (fun _ => ?_))
   | exact ih0 _ _ _ _ _ _ _ _ _ _
   | exact LeO.none _
   | refine LeO.ite ?_ ?_
   | refine LeO.bind ?_ (fun _ => ?_)
theorem fuglemanref20_Find.mono : ∀ a0 a1 a2 a3 a4 a5 a6 a7 a8 k, LeO (fuglemanref20_Find.f k a0 a1 a2 a3 a4 a5 a6 a7 a8) (fuglemanref20_Find.f (k + 1) a0 a1 a2 a3 a4 a5 a6 a7 a8) := by
 intro a0 a1 a2 a3 a4 a5 a6 a7 a8 k
 have ih0 := fuglemanref20_Find.mono_l k
 unfold fuglemanref20_Find.f
 repeat' first
   | (with_reducible exact ih0 _ _ _ _ _ _ _ _ _ _)
   | (with_reducible exact LeO.refl _)
   | (with_reducible exact LeO.none _)
   | (with_reducible refine LeO.ite ?_ ?_)
   | (with_reducible refine LeO.bind ?_ (fun _ => ?_))
   | exact ih0 _ _ _ _ _ _ _ _ _ _
   | exact LeO.none _
   | refine LeO.ite ?_ ?_
   | refine LeO.bind ?_ (fun _ => ?_)
set_option maxHeartbeats 8000000 in
set_option maxRecDepth 100000 in
theorem fuglemanref20_Find.calls (k : Nat) (a0_0 : Int) (a0_1 : Int) (a0_2 : Int) (a0_3 : Int) (a0_4 : Int) (a0_5 : Int) (A0_6 : Option Addr) (c0_6 : Nat) (l0_6 : List (S63)) (P0_7_ : Nat → Prop) (A0_7 : Option Addr) (c0_7 : Nat) (l0_7 : List (S37)) (a1 : Int) (r1 : Int) (r2 : Int) (r3 : Int) (r4 : List (S54)) (r5 : List (S56)) (r6 : List (S56)) (r7 : Bool) (w : World) (hr0_6 : Kd.C k63 w A0_6 l0_6.length l0_6) (hc0_6 : l0_6.length ≤ c0_6) (hs0_7 : Kd.V k37 37 w w.heap.size (fun k_ => P0_7_ k_) (.slice A0_7 l0_7.length c0_7) l0_7) (h : fuglemanref20_Find.f k a0_0 a0_1 a0_2 a0_3 a0_4 a0_5 l0_6 l0_7 a1 = some (r1, r2, r3, r4, r5, r6, r7)) :
  Calls Try.prog 11 #[.agg #[.int .i64 a0_0, .int .i64 a0_1, .int .i64 a0_2, .int .i64 a0_3, .int .i64 a0_4, .int .i64 a0_5, .slice A0_6 l0_6.length c0_6, .slice A0_7 l0_7.length c0_7], .int .i64 a1] w fun e w' => ∃ v3_ v4_ v5_ : Value, e = .returned (.tuple #[.agg #[.int .i64 r1, .int .i64 r2, .int .i64 r3, v3_, v4_, v5_], .bool r7]) ∧ Kd.V k54 54 w' w.heap.size (fun k_ => (P0_7_ k_ ∨ w.heap.size ≤ k_)) v3_ r4 ∧ Kd.V k56 56 w' w.heap.size (fun k_ => (P0_7_ k_ ∨ w.heap.size ≤ k_)) v4_ r5 ∧ Kd.V k56 56 w' w.heap.size (fun k_ => (P0_7_ k_ ∨ w.heap.size ≤ k_)) v5_ r6 ∧ Below w.heap.size w w' := by
 have hu25 := Try.underlying25
 have hu37 := Try.underlying37
 have HR0_6 := Aside0.mk hr0_6
 have HC0_6 := Aside0.mk hc0_6
 clear hr0_6 hc0_6
 have HO0_7 := Aside0.mk (show Kd.V k37 37 w w.heap.size (fun k_ => (P0_7_ k_ ∨ w.heap.size ≤ k_)) (.slice A0_7 l0_7.length c0_7) l0_7 from Kd.V_mono hs0_7 (fun k_ hk => .inl hk))
 have HB := Aside0.mk (Below.refl w.heap.size w)
 have H : (fuglemanref20_Find.l0 k a1 0 a0_0 a0_1 a0_2 a0_3 a0_4 a0_5 l0_6 l0_7) = some (r1, r2, r3, r4, r5, r6, r7) := h
 clear h
 have H' := Aside0.mk H
 clear H
 go_enter Try.func11, Try.ntmps11
 go_wp2_with (first | ((with_reducible refine gate_dst (N := 2) rfl ?_); refine boxK (N := 2) (#[.int .i64 a0_0, .int .i64 a0_1, .int .i64 a0_2, .int .i64 a0_3, .int .i64 a0_4, .int .i64 a0_5, .slice A0_6 l0_6.length c0_6, .slice A0_7 l0_7.length c0_7]) 25 ?_; intro gb180 hg w3 hbox hb; replace HO0_7 := sVe HO0_7 gb180 hg hb; have BK180 := Aside0.mk (hbox); have GW180 := sG hg HB; have GE180 := sG hg HB; replace HB := sB HB hb; clear hb hbox hg) | ((with_reducible refine gate_dst (N := 4) rfl ?_); refine boxK (N := 4) (#[.int .i64 0, .int .i64 0, .int .i64 0, .slice none 0 0, .slice none 0 0, .slice none 0 0]) 37 ?_; intro gb181 hg w4 hbox hb; replace HO0_7 := sVe HO0_7 gb181 hg hb; have BK181 := Aside0.mk (hbox); have GW181 := sG hg HB; have GE181 := sG hg HB; replace HB := sB HB hb; have NB180_181 := sNl hg BK180; have NB181_180 := sNg hg BK180; replace BK180 := sK BK180 hb; clear hb hbox hg))
 go_loopg [6] k (fun kq v6 w' => ∃ (x6_1 : Int) (x182000_1 : Int) (x182001_1 : Int) (x182002_1 : Int), v6 = .int .i64 x6_1 ∧ Aside0 (fuglemanref20_Find.l0 kq a1 x6_1 a0_0 a0_1 a0_2 a0_3 a0_4 a0_5 l0_6 l0_7 = some (r1, r2, r3, r4, r5, r6, r7)) ∧ Aside0 (kq ≤ k) ∧ Aside0 (Kd.V k37 37 w' w.heap.size (fun k_ => (P0_7_ k_ ∨ w.heap.size ≤ k_) ∧ k_ ≠ gb180 ∧ k_ ≠ gb181) (.slice A0_7 l0_7.length c0_7) l0_7) ∧ Aside0 (w'.heap[gb180]? = some (.cells #[.int .i64 a0_0, .int .i64 a0_1, .int .i64 a0_2, .int .i64 a0_3, .int .i64 a0_4, .int .i64 a0_5, (.slice A0_6 l0_6.length c0_6), (.slice A0_7 l0_7.length c0_7)] 25 (0, 0))) ∧ Aside0 (w'.heap[gb181]? = some (.cells #[.int .i64 x182000_1, .int .i64 x182001_1, .int .i64 x182002_1, (.slice none 0 0), (.slice none 0 0), (.slice none 0 0)] 37 (0, 0))) ∧ Aside0 (Below w.heap.size w w'))
 case atStart => exact ⟨(0), (0), (0), (0), (by first | rfl | (simp; done) | (simp [*]; done)), H', ⟨Nat.le_refl _⟩, ⟨by (with_reducible repeat (first | apply Kd.V_alloc | apply Kd.V_drewN | apply Kd.V_drew)); exact Kd.V_mono HO0_7.out (fun _ hk => ⟨hk.1.1, ⟨hk.1.2, hk.2⟩⟩)⟩, (sK0 BK180), (sK0 BK181), (sB0 HB)⟩
 clear H'
 obtain ⟨x6_1, x182000_1, x182001_1, x182002_1, rfl, HA, HK1, HO_181007, BK180, BK181, HB⟩ := hrel
 cases gk with
 | zero => exact absurd HA.out (by simp [fuglemanref20_Find.l0])
 | succ k1 =>
  have H := HA.out
  clear HA
  simp only [fuglemanref20_Find.l0] at H
  by_cases c5 : x6_1 < (l0_7.length : Int)
  ·rw [if_pos c5] at H
   have c5b0 : decide (x6_1 < (l0_7.length : Int)) = true := decide_eq_true c5
   clear c5
   by_cases c6 : 0 ≤ x6_1
   ·rw [if_pos c6] at H
    have c6b0 : decide (0 ≤ x6_1) = true := decide_eq_true c6
    clear c6
    by_cases c7 : ((rd_T37 l0_7 x6_1).f0) = a1
    ·rw [if_pos c7] at H
     have c7b0 : (((rd_T37 l0_7 x6_1).f0) == a1) = true := beq_iff_eq.mpr c7
     have c7b1 : (((rd_T37 l0_7 x6_1).f0) != a1) = false := bne_eq_false_iff_eq.mpr c7
     clear c7
     simp only [Option.some.injEq, Prod.mk.injEq] at H
     obtain ⟨rfl, rfl, rfl, rfl, rfl, rfl, rfl⟩ := H
     have hnb8 := NB180_181.out
     have hnc8 := NB181_180.out
     obtain ⟨z9_0, z9_1, z9_2, z9_3, z9_4, z9_5, z9_6, z9_7, q9_0, q9_1, q9_2, q9_3, q9_4, q9_5, q9_6, q9_7⟩ := bk8 BK180
     have p182 : 0 ≤ (x6_1 : Int) := of_decide_eq_true (by first | (with_reducible assumption) | assumption)
     have q182 : x6_1 < (l0_7.length : Int) := of_decide_eq_true (by first | (with_reducible assumption) | assumption)
     obtain ⟨ad182, A182_3, c182_3, A182_4, c182_4, A182_5, c182_5, e182, hx182_0, hx182_1, hx182_2, hx182_3, hx182_4, hx182_5, hl182_3, hi182_3, hl182_4, hi182_4, hl182_5, hi182_5⟩ := at_T37 (Kd.V_reads' HO_181007.out).2.2 x6_1 p182 q182
     cases e182
     obtain ⟨ce182, hce182, hMe182, hcc182⟩ := Kd.V_get HO_181007.out z37 x6_1 p182 (by first | exact q182 | exact of_decide_eq_true (by first | (with_reducible assumption) | assumption) | (have e_ := (Kd.V_reads' HO_181007.out).1; omega))
     obtain ⟨ua182_3, uc182_3, ua182_4, uc182_4, ua182_5, uc182_5, rfl, ul182_3, ge182_3, ul182_4, ge182_4, ul182_5, ge182_5⟩ := k37_openF hMe182
     have hv182_3 := hcc182 3 _ rfl
     rw [add_field _ _ 3 (by omega)] at hv182_3
     replace hv182_3 := Option.some.inj (hv182_3.symm.trans hx182_3)
     injection hv182_3 with hva_ hvn_ hvc_
     rw [hva_] at ge182_3
     rw [hvc_] at ul182_3
     have HL182_3 := Aside0.mk (show Kd.V k54 54 _ w.heap.size _ _ ((rd_T37 l0_7 x6_1).f3) from Kd.V_mk ul182_3 ge182_3)
     clear hva_ hvn_ hvc_ ge182_3 ul182_3
     have hv182_4 := hcc182 4 _ rfl
     rw [add_field _ _ 4 (by omega)] at hv182_4
     replace hv182_4 := Option.some.inj (hv182_4.symm.trans hx182_4)
     injection hv182_4 with hva_ hvn_ hvc_
     rw [hva_] at ge182_4
     rw [hvc_] at ul182_4
     have HL182_4 := Aside0.mk (show Kd.V k56 56 _ w.heap.size _ _ ((rd_T37 l0_7 x6_1).f4) from Kd.V_mk ul182_4 ge182_4)
     clear hva_ hvn_ hvc_ ge182_4 ul182_4
     have hv182_5 := hcc182 5 _ rfl
     rw [add_field _ _ 5 (by omega)] at hv182_5
     replace hv182_5 := Option.some.inj (hv182_5.symm.trans hx182_5)
     injection hv182_5 with hva_ hvn_ hvc_
     rw [hva_] at ge182_5
     rw [hvc_] at ul182_5
     have HL182_5 := Aside0.mk (show Kd.V k56 56 _ w.heap.size _ _ ((rd_T37 l0_7 x6_1).f5) from Kd.V_mk ul182_5 ge182_5)
     clear hva_ hvn_ hvc_ ge182_5 ul182_5
     clear hcc182 hce182
     have HR182_3 := Aside0.mk hi182_3
     have HC182_3 := Aside0.mk hl182_3
     clear hi182_3 hl182_3
     have HR182_4 := Aside0.mk hi182_4
     have HC182_4 := Aside0.mk hl182_4
     clear hi182_4 hl182_4
     have HR182_5 := Aside0.mk hi182_5
     have HC182_5 := Aside0.mk hl182_5
     clear hi182_5 hl182_5
     replace p182 := eq_true p182
     replace q182 := eq_true q182
     have p183 : 0 ≤ (x6_1 : Int) := of_decide_eq_true (by first | (with_reducible assumption) | assumption)
     have q183 : x6_1 < (l0_7.length : Int) := of_decide_eq_true (by first | (with_reducible assumption) | assumption)
     obtain ⟨ad183, A183_3, c183_3, A183_4, c183_4, A183_5, c183_5, e183, hx183_0, hx183_1, hx183_2, hx183_3, hx183_4, hx183_5, hl183_3, hi183_3, hl183_4, hi183_4, hl183_5, hi183_5⟩ := at_T37 (Kd.V_reads' HO_181007.out).2.2 x6_1 p183 q183
     obtain rfl : ad182 = ad183 := (by injection e183)
     obtain ⟨ce183, hce183, hMe183, hcc183⟩ := Kd.V_get HO_181007.out z37 x6_1 p183 (by first | exact q183 | exact of_decide_eq_true (by first | (with_reducible assumption) | assumption) | (have e_ := (Kd.V_reads' HO_181007.out).1; omega))
     obtain ⟨ua183_3, uc183_3, ua183_4, uc183_4, ua183_5, uc183_5, rfl, ul183_3, ge183_3, ul183_4, ge183_4, ul183_5, ge183_5⟩ := k37_openF hMe183
     have hv183_3 := hcc183 3 _ rfl
     rw [add_field _ _ 3 (by omega)] at hv183_3
     replace hv183_3 := Option.some.inj (hv183_3.symm.trans hx183_3)
     injection hv183_3 with hva_ hvn_ hvc_
     rw [hva_] at ge183_3
     rw [hvc_] at ul183_3
     have HL183_3 := Aside0.mk (show Kd.V k54 54 _ w.heap.size _ _ ((rd_T37 l0_7 x6_1).f3) from Kd.V_mk ul183_3 ge183_3)
     clear hva_ hvn_ hvc_ ge183_3 ul183_3
     have hv183_4 := hcc183 4 _ rfl
     rw [add_field _ _ 4 (by omega)] at hv183_4
     replace hv183_4 := Option.some.inj (hv183_4.symm.trans hx183_4)
     injection hv183_4 with hva_ hvn_ hvc_
     rw [hva_] at ge183_4
     rw [hvc_] at ul183_4
     have HL183_4 := Aside0.mk (show Kd.V k56 56 _ w.heap.size _ _ ((rd_T37 l0_7 x6_1).f4) from Kd.V_mk ul183_4 ge183_4)
     clear hva_ hvn_ hvc_ ge183_4 ul183_4
     have hv183_5 := hcc183 5 _ rfl
     rw [add_field _ _ 5 (by omega)] at hv183_5
     replace hv183_5 := Option.some.inj (hv183_5.symm.trans hx183_5)
     injection hv183_5 with hva_ hvn_ hvc_
     rw [hva_] at ge183_5
     rw [hvc_] at ul183_5
     have HL183_5 := Aside0.mk (show Kd.V k56 56 _ w.heap.size _ _ ((rd_T37 l0_7 x6_1).f5) from Kd.V_mk ul183_5 ge183_5)
     clear hva_ hvn_ hvc_ ge183_5 ul183_5
     clear hcc183 hce183
     have HR183_3 := Aside0.mk hi183_3
     have HC183_3 := Aside0.mk hl183_3
     clear hi183_3 hl183_3
     have HR183_4 := Aside0.mk hi183_4
     have HC183_4 := Aside0.mk hl183_4
     clear hi183_4 hl183_4
     have HR183_5 := Aside0.mk hi183_5
     have HC183_5 := Aside0.mk hl183_5
     clear hi183_5 hl183_5
     replace p183 := eq_true p183
     replace q183 := eq_true q183
     have ea_ := Option.some.inj (hx182_3.symm.trans hx183_3)
     injection ea_ with ea_ en_ ec_
     subst ea_
     subst ec_
     clear en_
     have ea_ := Option.some.inj (hx182_4.symm.trans hx183_4)
     injection ea_ with ea_ en_ ec_
     subst ea_
     subst ec_
     clear en_
     have ea_ := Option.some.inj (hx182_5.symm.trans hx183_5)
     injection ea_ with ea_ en_ ec_
     subst ea_
     subst ec_
     clear en_
     obtain ⟨z10_0, z10_1, z10_2, z10_3, z10_4, z10_5, q10_0, q10_1, q10_2, q10_3, q10_4, q10_5⟩ := bk6 BK181
     go_wp2
     refine bodyPost_ret (results_ct rfl _ _ gb181 37 #[.int .i64 ((rd_T37 l0_7 x6_1).f0), .int .i64 ((rd_T37 l0_7 x6_1).f1), .int .i64 ((rd_T37 l0_7 x6_1).f2), .slice A182_3 ((rd_T37 l0_7 x6_1).f3).length c182_3, .slice A182_4 ((rd_T37 l0_7 x6_1).f4).length c182_4, .slice A182_5 ((rd_T37 l0_7 x6_1).f5).length c182_5] (0, 0) _ rfl (sKq BK181) Try.underlying37 rfl (by kernel_rfl)) rfl ?_
     exact ⟨_, _, _, by first | rfl | (simp [errW_none, errW_some] <;> rfl) | (simp [*, errW_none, errW_some] <;> rfl), by (with_reducible repeat (first | apply Kd.V_alloc | apply Kd.V_drewN | apply Kd.V_drew)); exact Kd.V_mono (Kd.V_far (p := ⟨gb181, 5, none⟩) (Kd.V_far (p := ⟨gb181, 4, none⟩) (Kd.V_far (p := ⟨gb181, 3, none⟩) (Kd.V_far (p := ⟨gb181, 2, none⟩) (Kd.V_far (p := ⟨gb181, 1, none⟩) (Kd.V_far (p := ⟨gb181, 0, none⟩) (Kd.V_mono HL183_3.out (fun k_ hk => (⟨hk, hk.2.2⟩ : _ ∧ k_ ≠ gb181))) (fun _ hk => hk.2) (.int .i64 ((rd_T37 l0_7 x6_1).f0))) (fun _ hk => hk.2) (.int .i64 ((rd_T37 l0_7 x6_1).f1))) (fun _ hk => hk.2) (.int .i64 ((rd_T37 l0_7 x6_1).f2))) (fun _ hk => hk.2) (.slice A182_3 ((rd_T37 l0_7 x6_1).f3).length c182_3)) (fun _ hk => hk.2) (.slice A182_4 ((rd_T37 l0_7 x6_1).f4).length c182_4)) (fun _ hk => hk.2) (.slice A182_5 ((rd_T37 l0_7 x6_1).f5).length c182_5)) (fun _ hk => hk.1.1), by (with_reducible repeat (first | apply Kd.V_alloc | apply Kd.V_drewN | apply Kd.V_drew)); exact Kd.V_mono (Kd.V_far (p := ⟨gb181, 5, none⟩) (Kd.V_far (p := ⟨gb181, 4, none⟩) (Kd.V_far (p := ⟨gb181, 3, none⟩) (Kd.V_far (p := ⟨gb181, 2, none⟩) (Kd.V_far (p := ⟨gb181, 1, none⟩) (Kd.V_far (p := ⟨gb181, 0, none⟩) (Kd.V_mono HL183_4.out (fun k_ hk => (⟨hk, hk.2.2⟩ : _ ∧ k_ ≠ gb181))) (fun _ hk => hk.2) (.int .i64 ((rd_T37 l0_7 x6_1).f0))) (fun _ hk => hk.2) (.int .i64 ((rd_T37 l0_7 x6_1).f1))) (fun _ hk => hk.2) (.int .i64 ((rd_T37 l0_7 x6_1).f2))) (fun _ hk => hk.2) (.slice A182_3 ((rd_T37 l0_7 x6_1).f3).length c182_3)) (fun _ hk => hk.2) (.slice A182_4 ((rd_T37 l0_7 x6_1).f4).length c182_4)) (fun _ hk => hk.2) (.slice A182_5 ((rd_T37 l0_7 x6_1).f5).length c182_5)) (fun _ hk => hk.1.1), by (with_reducible repeat (first | apply Kd.V_alloc | apply Kd.V_drewN | apply Kd.V_drew)); exact Kd.V_mono (Kd.V_far (p := ⟨gb181, 5, none⟩) (Kd.V_far (p := ⟨gb181, 4, none⟩) (Kd.V_far (p := ⟨gb181, 3, none⟩) (Kd.V_far (p := ⟨gb181, 2, none⟩) (Kd.V_far (p := ⟨gb181, 1, none⟩) (Kd.V_far (p := ⟨gb181, 0, none⟩) (Kd.V_mono HL183_5.out (fun k_ hk => (⟨hk, hk.2.2⟩ : _ ∧ k_ ≠ gb181))) (fun _ hk => hk.2) (.int .i64 ((rd_T37 l0_7 x6_1).f0))) (fun _ hk => hk.2) (.int .i64 ((rd_T37 l0_7 x6_1).f1))) (fun _ hk => hk.2) (.int .i64 ((rd_T37 l0_7 x6_1).f2))) (fun _ hk => hk.2) (.slice A182_3 ((rd_T37 l0_7 x6_1).f3).length c182_3)) (fun _ hk => hk.2) (.slice A182_4 ((rd_T37 l0_7 x6_1).f4).length c182_4)) (fun _ hk => hk.2) (.slice A182_5 ((rd_T37 l0_7 x6_1).f5).length c182_5)) (fun _ hk => hk.1.1), by repeat (first | (with_reducible first | exact HB.out | apply below_alloc | apply pw_below_drewN | apply below_drew1 | refine below_set ?_ (Aside0.out (by assumption))) | exact HB.out)⟩
    ·rw [if_neg c7] at H
     have c7b0 : (((rd_T37 l0_7 x6_1).f0) == a1) = false := beq_eq_false_iff_ne.mpr c7
     have c7b1 : (((rd_T37 l0_7 x6_1).f0) != a1) = true := bne_iff_ne.mpr c7
     have H' := Aside0.mk H
     clear H
     have hnb11 := NB180_181.out
     have hnc11 := NB181_180.out
     obtain ⟨z12_0, z12_1, z12_2, z12_3, z12_4, z12_5, z12_6, z12_7, q12_0, q12_1, q12_2, q12_3, q12_4, q12_5, q12_6, q12_7⟩ := bk8 BK180
     have p182 : 0 ≤ (x6_1 : Int) := of_decide_eq_true (by first | (with_reducible assumption) | assumption)
     have q182 : x6_1 < (l0_7.length : Int) := of_decide_eq_true (by first | (with_reducible assumption) | assumption)
     obtain ⟨ad182, A182_3, c182_3, A182_4, c182_4, A182_5, c182_5, e182, hx182_0, hx182_1, hx182_2, hx182_3, hx182_4, hx182_5, hl182_3, hi182_3, hl182_4, hi182_4, hl182_5, hi182_5⟩ := at_T37 (Kd.V_reads' HO_181007.out).2.2 x6_1 p182 q182
     cases e182
     obtain ⟨ce182, hce182, hMe182, hcc182⟩ := Kd.V_get HO_181007.out z37 x6_1 p182 (by first | exact q182 | exact of_decide_eq_true (by first | (with_reducible assumption) | assumption) | (have e_ := (Kd.V_reads' HO_181007.out).1; omega))
     obtain ⟨ua182_3, uc182_3, ua182_4, uc182_4, ua182_5, uc182_5, rfl, ul182_3, ge182_3, ul182_4, ge182_4, ul182_5, ge182_5⟩ := k37_openF hMe182
     have hv182_3 := hcc182 3 _ rfl
     rw [add_field _ _ 3 (by omega)] at hv182_3
     replace hv182_3 := Option.some.inj (hv182_3.symm.trans hx182_3)
     injection hv182_3 with hva_ hvn_ hvc_
     rw [hva_] at ge182_3
     rw [hvc_] at ul182_3
     have HL182_3 := Aside0.mk (show Kd.V k54 54 _ w.heap.size _ _ ((rd_T37 l0_7 x6_1).f3) from Kd.V_mk ul182_3 ge182_3)
     clear hva_ hvn_ hvc_ ge182_3 ul182_3
     have hv182_4 := hcc182 4 _ rfl
     rw [add_field _ _ 4 (by omega)] at hv182_4
     replace hv182_4 := Option.some.inj (hv182_4.symm.trans hx182_4)
     injection hv182_4 with hva_ hvn_ hvc_
     rw [hva_] at ge182_4
     rw [hvc_] at ul182_4
     have HL182_4 := Aside0.mk (show Kd.V k56 56 _ w.heap.size _ _ ((rd_T37 l0_7 x6_1).f4) from Kd.V_mk ul182_4 ge182_4)
     clear hva_ hvn_ hvc_ ge182_4 ul182_4
     have hv182_5 := hcc182 5 _ rfl
     rw [add_field _ _ 5 (by omega)] at hv182_5
     replace hv182_5 := Option.some.inj (hv182_5.symm.trans hx182_5)
     injection hv182_5 with hva_ hvn_ hvc_
     rw [hva_] at ge182_5
     rw [hvc_] at ul182_5
     have HL182_5 := Aside0.mk (show Kd.V k56 56 _ w.heap.size _ _ ((rd_T37 l0_7 x6_1).f5) from Kd.V_mk ul182_5 ge182_5)
     clear hva_ hvn_ hvc_ ge182_5 ul182_5
     clear hcc182 hce182
     have HR182_3 := Aside0.mk hi182_3
     have HC182_3 := Aside0.mk hl182_3
     clear hi182_3 hl182_3
     have HR182_4 := Aside0.mk hi182_4
     have HC182_4 := Aside0.mk hl182_4
     clear hi182_4 hl182_4
     have HR182_5 := Aside0.mk hi182_5
     have HC182_5 := Aside0.mk hl182_5
     clear hi182_5 hl182_5
     replace p182 := eq_true p182
     replace q182 := eq_true q182
     go_wp2
     go_roundg k1
     case measure => have := HK1.out; omega
     case rel => exact ⟨(wrap64 (x6_1 + 1)), (x182000_1), (x182001_1), (x182002_1), (by first | rfl | (simp; done) | (simp [*]; done)), H', ⟨by have := HK1.out; omega⟩, (sV0 HO_181007), (sK0 BK180), (sK0 BK181), (sB0 HB)⟩
   ·rw [if_neg c6] at H
    exact absurd H (by simp)
  ·rw [if_neg c5] at H
   have c5b0 : decide (x6_1 < (l0_7.length : Int)) = false := decide_eq_false c5
   clear c5
   simp only [Option.some.injEq, Prod.mk.injEq] at H
   obtain ⟨rfl, rfl, rfl, rfl, rfl, rfl, rfl⟩ := H
   have hnb13 := NB180_181.out
   have hnc13 := NB181_180.out
   obtain ⟨z14_0, z14_1, z14_2, z14_3, z14_4, z14_5, z14_6, z14_7, q14_0, q14_1, q14_2, q14_3, q14_4, q14_5, q14_6, q14_7⟩ := bk8 BK180
   obtain ⟨z15_0, z15_1, z15_2, z15_3, z15_4, z15_5, q15_0, q15_1, q15_2, q15_3, q15_4, q15_5⟩ := bk6 BK181
   go_wp2
   refine bodyPost_ret (results_ct rfl _ _ gb181 37 #[.int .i64 0, .int .i64 0, .int .i64 0, .slice none 0 0, .slice none 0 0, .slice none 0 0] (0, 0) _ rfl (sKq BK181) Try.underlying37 rfl (by kernel_rfl)) rfl ?_
   exact ⟨_, _, _, by first | rfl | (simp [errW_none, errW_some] <;> rfl) | (simp [*, errW_none, errW_some] <;> rfl), Kd.V_nil _ _ _ _ _, Kd.V_nil _ _ _ _ _, Kd.V_nil _ _ _ _ _, by repeat (first | (with_reducible first | exact HB.out | apply below_alloc | apply pw_below_drewN | apply below_drew1 | refine below_set ?_ (Aside0.out (by assumption))) | exact HB.out)⟩

end Go.Proofs.Ytedmikeamgebjaa.F
