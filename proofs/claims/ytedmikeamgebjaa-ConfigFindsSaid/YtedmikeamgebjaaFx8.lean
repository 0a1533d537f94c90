-- Written by a program out of the translation; not trusted: Lean checks it.
import Derived.Test.YtedmikeamgebjaaK
import Derived.Test.YtedmikeamgebjaaFx0
import Derived.Test.YtedmikeamgebjaaFx1
import Derived.Test.YtedmikeamgebjaaFx2
namespace Go.Proofs.Ytedmikeamgebjaa.F
open Go.Proofs.YtedmikeamgebjaaW.PrintK Go.RowKit Go.Proofs.YtedmikeamgebjaaW.PrintWords Go.Proofs.YtedmikeamgebjaaW.PrintLast Go.Proofs.YtedmikeamgebjaaW.PrintMore
attribute [local go_sem] max2_int min2_int max_two min_two max_three min_three max_four min_four   -- for this text's walks alone
set_option linter.unusedVariables false
set_option linter.unusedSimpArgs false

attribute [local go_sem high] eqA54 eqA56
/-! ### fuglemanlaw20_same: function 12 -/
mutual
def fuglemanlaw20_same.j0 : Nat → Bool → Int → Int → Int → List (S54) → List (S56) → List (S56) → Int → Int → Int → List (S54) → List (S56) → List (S56) → Option (Bool)
 | 0, _, _, _, _, _, _, _, _, _, _, _, _, _ => none
 | k + 1, x53, x185000, x185001, x185002, x185003, x185004, x185005, x186000, x186001, x186002, x186003, x186004, x186005 => if x53 = true then (some false) else (fuglemanlaw20_same.l0 k (x185003.length : Int) 0 x185000 x185001 x185002 x185003 x185004 x185005 x186000 x186001 x186002 x186003 x186004 x186005)
def fuglemanlaw20_same.l0 : Nat → Int → Int → Int → Int → Int → List (S54) → List (S56) → List (S56) → Int → Int → Int → List (S54) → List (S56) → List (S56) → Option (Bool)
 | 0, _, _, _, _, _, _, _, _, _, _, _, _, _, _ => none
 | k + 1, x56, x57, x185000, x185001, x185002, x185003, x185004, x185005, x186000, x186001, x186002, x186003, x186004, x186005 => if x57 < x56 then (if 0 ≤ x57 then (if x57 < (x185003.length : Int) then (if x57 < (x186003.length : Int) then (if (!(((rd_T54 x185003 x57).f0) == ((rd_T54 x186003 x57).f0)) || (!(((rd_T54 x185003 x57).f1) == ((rd_T54 x186003 x57).f1)) || (!(((rd_T54 x185003 x57).f2) == ((rd_T54 x186003 x57).f2)) || (!(((rd_T54 x185003 x57).f3) == ((rd_T54 x186003 x57).f3)) || (!(((rd_T54 x185003 x57).f4) == ((rd_T54 x186003 x57).f4))))))) = true then (some false) else (fuglemanlaw20_same.l0 k x56 (wrap64 (x57 + 1)) x185000 x185001 x185002 x185003 x185004 x185005 x186000 x186001 x186002 x186003 x186004 x186005)) else (none)) else (none)) else (none)) else (fuglemanlaw20_same.l1 k (x185004.length : Int) 0 x185000 x185001 x185002 x185003 x185004 x185005 x186000 x186001 x186002 x186003 x186004 x186005)
def fuglemanlaw20_same.l1 : Nat → Int → Int → Int → Int → Int → List (S54) → List (S56) → List (S56) → Int → Int → Int → List (S54) → List (S56) → List (S56) → Option (Bool)
 | 0, _, _, _, _, _, _, _, _, _, _, _, _, _, _ => none
 | k + 1, x74, x75, x185000, x185001, x185002, x185003, x185004, x185005, x186000, x186001, x186002, x186003, x186004, x186005 => if x75 < x74 then (if 0 ≤ x75 then (if x75 < (x185004.length : Int) then (if x75 < (x186004.length : Int) then (if (!(((rd_T56 x185004 x75).f0) == ((rd_T56 x186004 x75).f0)) || (!(((rd_T56 x185004 x75).f1) == ((rd_T56 x186004 x75).f1)))) = true then (some false) else (fuglemanlaw20_same.l1 k x74 (wrap64 (x75 + 1)) x185000 x185001 x185002 x185003 x185004 x185005 x186000 x186001 x186002 x186003 x186004 x186005)) else (none)) else (none)) else (none)) else (fuglemanlaw20_same.l2 k (x185005.length : Int) 0 x185000 x185001 x185002 x185003 x185004 x185005 x186000 x186001 x186002 x186003 x186004 x186005)
def fuglemanlaw20_same.l2 : Nat → Int → Int → Int → Int → Int → List (S54) → List (S56) → List (S56) → Int → Int → Int → List (S54) → List (S56) → List (S56) → Option (Bool)
 | 0, _, _, _, _, _, _, _, _, _, _, _, _, _, _ => none
 | k + 1, x92, x93, x185000, x185001, x185002, x185003, x185004, x185005, x186000, x186001, x186002, x186003, x186004, x186005 => if x93 < x92 then (if 0 ≤ x93 then (if x93 < (x185005.length : Int) then (if x93 < (x186005.length : Int) then (if (!(((rd_T56 x185005 x93).f0) == ((rd_T56 x186005 x93).f0)) || (!(((rd_T56 x185005 x93).f1) == ((rd_T56 x186005 x93).f1)))) = true then (some false) else (fuglemanlaw20_same.l2 k x92 (wrap64 (x93 + 1)) x185000 x185001 x185002 x185003 x185004 x185005 x186000 x186001 x186002 x186003 x186004 x186005)) else (none)) else (none)) else (none)) else (some true)
end
def fuglemanlaw20_same.f (k : Nat) (a0_0 : Int) (a0_1 : Int) (a0_2 : Int) (l0_3 : List (S54)) (l0_4 : List (S56)) (l0_5 : List (S56)) (a1_0 : Int) (a1_1 : Int) (a1_2 : Int) (l1_3 : List (S54)) (l1_4 : List (S56)) (l1_5 : List (S56)) : Option (Bool) := if a0_0 = a1_0 then (if a0_1 = a1_1 then (if a0_2 = a1_2 then (if (l0_3.length : Int) = (l1_3.length : Int) then (if (l0_4.length : Int) = (l1_4.length : Int) then (fuglemanlaw20_same.j0 k ((l0_5.length : Int) != (l1_5.length : Int)) a0_0 a0_1 a0_2 l0_3 l0_4 l0_5 a1_0 a1_1 a1_2 l1_3 l1_4 l1_5) else (fuglemanlaw20_same.j0 k true a0_0 a0_1 a0_2 l0_3 l0_4 l0_5 a1_0 a1_1 a1_2 l1_3 l1_4 l1_5)) else (fuglemanlaw20_same.j0 k true a0_0 a0_1 a0_2 l0_3 l0_4 l0_5 a1_0 a1_1 a1_2 l1_3 l1_4 l1_5)) else (fuglemanlaw20_same.j0 k true a0_0 a0_1 a0_2 l0_3 l0_4 l0_5 a1_0 a1_1 a1_2 l1_3 l1_4 l1_5)) else (fuglemanlaw20_same.j0 k true a0_0 a0_1 a0_2 l0_3 l0_4 l0_5 a1_0 a1_1 a1_2 l1_3 l1_4 l1_5)) else (fuglemanlaw20_same.j0 k true a0_0 a0_1 a0_2 l0_3 l0_4 l0_5 a1_0 a1_1 a1_2 l1_3 l1_4 l1_5)
theorem fuglemanlaw20_same.mono_l : ∀ k, (∀ y0 y1 y2 y3 y4 y5 y6 y7 y8 y9 y10 y11 y12, LeO (fuglemanlaw20_same.j0 k y0 y1 y2 y3 y4 y5 y6 y7 y8 y9 y10 y11 y12) (fuglemanlaw20_same.j0 (k + 1) y0 y1 y2 y3 y4 y5 y6 y7 y8 y9 y10 y11 y12)) ∧ (∀ y0 y1 y2 y3 y4 y5 y6 y7 y8 y9 y10 y11 y12 y13, LeO (fuglemanlaw20_same.l0 k y0 y1 y2 y3 y4 y5 y6 y7 y8 y9 y10 y11 y12 y13) (fuglemanlaw20_same.l0 (k + 1) y0 y1 y2 y3 y4 y5 y6 y7 y8 y9 y10 y11 y12 y13)) ∧ (∀ y0 y1 y2 y3 y4 y5 y6 y7 y8 y9 y10 y11 y12 y13, LeO (fuglemanlaw20_same.l1 k y0 y1 y2 y3 y4 y5 y6 y7 y8 y9 y10 y11 y12 y13) (fuglemanlaw20_same.l1 (k + 1) y0 y1 y2 y3 y4 y5 y6 y7 y8 y9 y10 y11 y12 y13)) ∧ (∀ y0 y1 y2 y3 y4 y5 y6 y7 y8 y9 y10 y11 y12 y13, LeO (fuglemanlaw20_same.l2 k y0 y1 y2 y3 y4 y5 y6 y7 y8 y9 y10 y11 y12 y13) (fuglemanlaw20_same.l2 (k + 1) y0 y1 y2 y3 y4 y5 y6 y7 y8 y9 y10 y11 y12 y13))
 | 0 => ⟨fun _ _ _ _ _ _ _ _ _ _ _ _ _ r h => by simp [fuglemanlaw20_same.j0] at h, fun _ _ _ _ _ _ _ _ _ _ _ _ _ _ r h => by simp [fuglemanlaw20_same.l0] at h, fun _ _ _ _ _ _ _ _ _ _ _ _ _ _ r h => by simp [fuglemanlaw20_same.l1] at h, fun _ _ _ _ _ _ _ _ _ _ _ _ _ _ r h => by simp [fuglemanlaw20_same.l2] at h⟩
 | k + 1 => by
  obtain ⟨ih0, ih1, ih2, ih3⟩ := fuglemanlaw20_same.mono_l k
  refine ⟨?_, ?_, ?_, ?_⟩
  ·intro y0 y1 y2 y3 y4 y5 y6 y7 y8 y9 y10 y11 y12
   unfold fuglemanlaw20_same.j0
   repeat' first
   | (with_reducible exact ih0 _ _ _ _ _ _ _ _ _ _ _ _ _)
   | (with_reducible exact ih1 _ _ _ _ _ _ _ _ _ _ _ _ _ _)
   | (with_reducible exact ih2 _ _ _ _ _ _ _ _ _ _ _ _ _ _)
   | (with_reducible exact ih3 _ _ _ _ _ _ _ _ _ _ _ _ _ _)
   | (with_reducible exact LeO.refl _)
   | (with_reducible exact LeO.none _)
   | (with_reducible refine LeO.ite ?_ ?_)
   | (with_reducible refine LeO.bind ?_ (fun _ => ?_))
   | exact ih0 _ _ _ _ _ _ _ _ _ _ _ _ _
   | exact ih1 _ _ _ _ _ _ _ _ _ _ _ _ _ _
   | exact ih2 _ _ _ _ _ _ _ _ _ _ _ _ _ _
   | exact ih3 _ _ _ _ _ _ _ _ _ _ _ _ _ _
   | exact LeO.none _
   | refine LeO.ite ?_ ?_
   | refine LeO.bind ?_ (fun _ => ?_)
  ·intro y0 y1 y2 y3 y4 y5 y6 y7 y8 y9 y10 y11 y12 y13
   unfold fuglemanlaw20_same.l0
   repeat' first
   | (with_reducible exact ih0 _ _ _ _ _ _ _ _ _ _ _ _ _)
   | (with_reducible exact ih1 _ _ _ _ _ _ _ _ _ _ _ _ _ _)
   | (with_reducible exact ih2 _ _ _ _ _ _ _ _ _ _ _ _ _ _)
   | (with_reducible exact ih3 _ _ _ _ _ _ _ _ _ _ _ _ _ _)
   | (with_reducible exact LeO.refl _)
   | (with_reducible exact LeO.none _)
   | (with_reducible refine LeO.ite ?_ ?_)
   | (with_reducible refine LeO.bind ?_ (fun _ => ?_))
   | exact ih0 _ _ _ _ _ _ _ _ _ _ _ _ _
   | exact ih1 _ _ _ _ _ _ _ _ _ _ _ _ _ _
   | exact ih2 _ _ _ _ _ _ _ _ _ _ _ _ _ _
   | exact ih3 _ _ _ _ _ _ _ _ _ _ _ _ _ _
   | exact LeO.none _
   | refine LeO.ite ?_ ?_
   | refine LeO.bind ?_ (fun _ => ?_)
  ·intro y0 y1 y2 y3 y4 y5 y6 y7 y8 y9 y10 y11 y12 y13
   unfold fuglemanlaw20_same.l1
   repeat' first
   | (with_reducible exact ih0 _ _ _ _ _ _ _ _ _ _ _ _ _)
   | (with_reducible exact ih1 _ _ _ _ _ _ _ _ _ _ _ _ _ _)
   | (with_reducible exact ih2 _ _ _ _ _ _ _ _ _ _ _ _ _ _)
   | (with_reducible exact ih3 _ _ _ _ _ _ _ _ _ _ _ _ _ _)
   | (with_reducible exact LeO.refl _)
   | (with_reducible exact LeO.none _)
   | (with_reducible refine LeO.ite ?_ ?_)
   | (with_reducible refine LeO.bind ?_ (fun _ => ?_))
   | exact ih0 _ _ _ _ _ _ _ _ _ _ _ _ _
   | exact ih1 _ _ _ _ _ _ _ _ _ _ _ _ _ _
   | exact ih2 _ _ _ _ _ _ _ _ _ _ _ _ _ _
   | exact ih3 _ _ _ _ _ _ _ _ _ _ _ _ _ _
   | exact LeO.none _
   | refine LeO.ite ?_ ?_
   | refine LeO.bind ?_ (fun _ => ?_)
  ·intro y0 y1 y2 y3 y4 y5 y6 y7 y8 y9 y10 y11 y12 y13
   unfold fuglemanlaw20_same.l2
   repeat' first
   | (with_reducible exact ih0 _ _ _ _ _ _ _ _ _ _ _ _ _)
   | (with_reducible exact ih1 _ _ _ _ _ _ _ _ _ _ _ _ _ _)
   | (with_reducible exact ih2 _ _ _ _ _ _ _ _ _ _ _ _ _ _)
   | (with_reducible exact ih3 _ _ _ _ _ _ _ _ _ _ _ _ _ _)
   | (with_reducible exact LeO.refl _)
   | (with_reducible exact LeO.none _)
   | (with_reducible refine LeO.ite ?_ ?_)
   | (with_reducible refine LeO.bind ?_ (fun _ => ?_))
   | exact ih0 _ _ _ _ _ _ _ _ _ _ _ _ _
   | exact ih1 _ _ _ _ _ _ _ _ _ _ _ _ _ _
   | exact ih2 _ _ _ _ _ _ _ _ _ _ _ _ _ _
   | exact ih3 _ _ _ _ _ _ _ _ _ _ _ _ _ _
   | exact LeO.none _
   | refine LeO.ite ?_ ?_
   | refine LeO.bind ?_ (fun _ => ?_)
theorem fuglemanlaw20_same.mono : ∀ a0 a1 a2 a3 a4 a5 a6 a7 a8 a9 a10 a11 k, LeO (fuglemanlaw20_same.f k a0 a1 a2 a3 a4 a5 a6 a7 a8 a9 a10 a11) (fuglemanlaw20_same.f (k + 1) a0 a1 a2 a3 a4 a5 a6 a7 a8 a9 a10 a11) := by
 intro a0 a1 a2 a3 a4 a5 a6 a7 a8 a9 a10 a11 k
 obtain ⟨ih0, ih1, ih2, ih3⟩ := fuglemanlaw20_same.mono_l k
 unfold fuglemanlaw20_same.f
 repeat' first
   | (with_reducible exact ih0 _ _ _ _ _ _ _ _ _ _ _ _ _)
   | (with_reducible exact ih1 _ _ _ _ _ _ _ _ _ _ _ _ _ _)
   | (with_reducible exact ih2 _ _ _ _ _ _ _ _ _ _ _ _ _ _)
   | (with_reducible exact ih3 _ _ _ _ _ _ _ _ _ _ _ _ _ _)
   | (with_reducible exact LeO.refl _)
   | (with_reducible exact LeO.none _)
   | (with_reducible refine LeO.ite ?_ ?_)
   | (with_reducible refine LeO.bind ?_ (fun _ => ?_))
   | exact ih0 _ _ _ _ _ _ _ _ _ _ _ _ _
   | exact ih1 _ _ _ _ _ _ _ _ _ _ _ _ _ _
   | exact ih2 _ _ _ _ _ _ _ _ _ _ _ _ _ _
   | exact ih3 _ _ _ _ _ _ _ _ _ _ _ _ _ _
   | exact LeO.none _
   | refine LeO.ite ?_ ?_
   | refine LeO.bind ?_ (fun _ => ?_)
set_option maxHeartbeats 8000000 in
set_option maxRecDepth 100000 in
theorem fuglemanlaw20_same.calls (k : Nat) (a0_0 : Int) (a0_1 : Int) (a0_2 : Int) (A0_3 : Option Addr) (c0_3 : Nat) (l0_3 : List (S54)) (A0_4 : Option Addr) (c0_4 : Nat) (l0_4 : List (S56)) (A0_5 : Option Addr) (c0_5 : Nat) (l0_5 : List (S56)) (a1_0 : Int) (a1_1 : Int) (a1_2 : Int) (A1_3 : Option Addr) (c1_3 : Nat) (l1_3 : List (S54)) (A1_4 : Option Addr) (c1_4 : Nat) (l1_4 : List (S56)) (A1_5 : Option Addr) (c1_5 : Nat) (l1_5 : List (S56)) (r : Bool) (w : World) (hr0_3 : Kd.C k54 w A0_3 l0_3.length l0_3) (hc0_3 : l0_3.length ≤ c0_3) (hr0_4 : Kd.C k56 w A0_4 l0_4.length l0_4) (hc0_4 : l0_4.length ≤ c0_4) (hr0_5 : Kd.C k56 w A0_5 l0_5.length l0_5) (hc0_5 : l0_5.length ≤ c0_5) (hr1_3 : Kd.C k54 w A1_3 l1_3.length l1_3) (hc1_3 : l1_3.length ≤ c1_3) (hr1_4 : Kd.C k56 w A1_4 l1_4.length l1_4) (hc1_4 : l1_4.length ≤ c1_4) (hr1_5 : Kd.C k56 w A1_5 l1_5.length l1_5) (hc1_5 : l1_5.length ≤ c1_5) (h : fuglemanlaw20_same.f k a0_0 a0_1 a0_2 l0_3 l0_4 l0_5 a1_0 a1_1 a1_2 l1_3 l1_4 l1_5 = some r) :
  Calls Try.prog 12 #[.agg #[.int .i64 a0_0, .int .i64 a0_1, .int .i64 a0_2, .slice A0_3 l0_3.length c0_3, .slice A0_4 l0_4.length c0_4, .slice A0_5 l0_5.length c0_5], .agg #[.int .i64 a1_0, .int .i64 a1_1, .int .i64 a1_2, .slice A1_3 l1_3.length c1_3, .slice A1_4 l1_4.length c1_4, .slice A1_5 l1_5.length c1_5]] w fun e w' => e = .returned (.bool r) ∧ Below w.heap.size w w' := by
 have hu37 := Try.underlying37
 have hu54 := Try.underlying54
 have hu56 := Try.underlying56
 have HR0_3 := Aside0.mk hr0_3
 have HC0_3 := Aside0.mk hc0_3
 clear hr0_3 hc0_3
 have HR0_4 := Aside0.mk hr0_4
 have HC0_4 := Aside0.mk hc0_4
 clear hr0_4 hc0_4
 have HR0_5 := Aside0.mk hr0_5
 have HC0_5 := Aside0.mk hc0_5
 clear hr0_5 hc0_5
 have HR1_3 := Aside0.mk hr1_3
 have HC1_3 := Aside0.mk hc1_3
 clear hr1_3 hc1_3
 have HR1_4 := Aside0.mk hr1_4
 have HC1_4 := Aside0.mk hc1_4
 clear hr1_4 hc1_4
 have HR1_5 := Aside0.mk hr1_5
 have HC1_5 := Aside0.mk hc1_5
 clear hr1_5 hc1_5
 have HB := Aside0.mk (Below.refl w.heap.size w)
 have H : (if a0_0 = a1_0 then (if a0_1 = a1_1 then (if a0_2 = a1_2 then (if (l0_3.length : Int) = (l1_3.length : Int) then (if (l0_4.length : Int) = (l1_4.length : Int) then (fuglemanlaw20_same.j0 k ((l0_5.length : Int) != (l1_5.length : Int)) a0_0 a0_1 a0_2 l0_3 l0_4 l0_5 a1_0 a1_1 a1_2 l1_3 l1_4 l1_5) else (fuglemanlaw20_same.j0 k true a0_0 a0_1 a0_2 l0_3 l0_4 l0_5 a1_0 a1_1 a1_2 l1_3 l1_4 l1_5)) else (fuglemanlaw20_same.j0 k true a0_0 a0_1 a0_2 l0_3 l0_4 l0_5 a1_0 a1_1 a1_2 l1_3 l1_4 l1_5)) else (fuglemanlaw20_same.j0 k true a0_0 a0_1 a0_2 l0_3 l0_4 l0_5 a1_0 a1_1 a1_2 l1_3 l1_4 l1_5)) else (fuglemanlaw20_same.j0 k true a0_0 a0_1 a0_2 l0_3 l0_4 l0_5 a1_0 a1_1 a1_2 l1_3 l1_4 l1_5)) else (fuglemanlaw20_same.j0 k true a0_0 a0_1 a0_2 l0_3 l0_4 l0_5 a1_0 a1_1 a1_2 l1_3 l1_4 l1_5)) = some r := h
 clear h
 have HC3 := Aside0.mk H
 clear H
 go_enter Try.func12, Try.ntmps12
 go_upto_region 1 with (first | ((with_reducible refine gate_dst (N := 2) rfl ?_); (try (refine gate_guard (by rfl) ?_; dsimp only)); refine boxK (N := 2) (#[.int .i64 a0_0, .int .i64 a0_1, .int .i64 a0_2, .slice A0_3 l0_3.length c0_3, .slice A0_4 l0_4.length c0_4, .slice A0_5 l0_5.length c0_5]) 37 ?_; intro gb184 hg w4 hbox hb; have BK184 := Aside0.mk (hbox); have GW184 := sG hg HB; have GE184 := sG hg HB; replace HB := sB HB hb; clear hb hbox hg) | ((with_reducible refine gate_dst (N := 3) rfl ?_); (try (refine gate_guard (by rfl) ?_; dsimp only)); refine boxK (N := 3) (#[.int .i64 a1_0, .int .i64 a1_1, .int .i64 a1_2, .slice A1_3 l1_3.length c1_3, .slice A1_4 l1_4.length c1_4, .slice A1_5 l1_5.length c1_5]) 37 ?_; intro gb185 hg w5 hbox hb; have BK185 := Aside0.mk (hbox); have GW185 := sG hg HB; have GE185 := sG hg HB; replace HB := sB HB hb; have NB184_185 := sNl hg BK184; have NB185_184 := sNg hg BK184; replace BK184 := sK BK184 hb; clear hb hbox hg))
 repeat (go_quiet (first | ((with_reducible refine gate_dst (N := 2) rfl ?_); (try (refine gate_guard (by rfl) ?_; dsimp only)); refine boxK (N := 2) (#[.int .i64 a0_0, .int .i64 a0_1, .int .i64 a0_2, .slice A0_3 l0_3.length c0_3, .slice A0_4 l0_4.length c0_4, .slice A0_5 l0_5.length c0_5]) 37 ?_; intro gb184 hg w4 hbox hb; have n0_ := sB HB hb; have n1_ := Aside0.mk (hbox); have n2_ := sG hg HB; have n3_ := sG hg HB; clear HB; have HB := n0_; have BK184 := n1_; have GW184 := n2_; have GE184 := n3_; clear n0_ n1_ n2_ n3_; clear hb hbox hg) | ((with_reducible refine gate_dst (N := 3) rfl ?_); (try (refine gate_guard (by rfl) ?_; dsimp only)); refine boxK (N := 3) (#[.int .i64 a1_0, .int .i64 a1_1, .int .i64 a1_2, .slice A1_3 l1_3.length c1_3, .slice A1_4 l1_4.length c1_4, .slice A1_5 l1_5.length c1_5]) 37 ?_; intro gb185 hg w5 hbox hb; have n0_ := sK BK184 hb; have n1_ := sB HB hb; have n2_ := Aside0.mk (hbox); have n3_ := sG hg HB; have n4_ := sG hg HB; have n5_ := sNl hg BK184; have n6_ := sNg hg BK184; clear BK184; clear HB; have BK184 := n0_; have HB := n1_; have BK185 := n2_; have GW185 := n3_; have GE185 := n4_; have NB184_185 := n5_; have NB185_184 := n6_; clear n0_ n1_ n2_ n3_ n4_ n5_ n6_; clear hb hbox hg)); go_upto_region 1 with (first | ((with_reducible refine gate_dst (N := 2) rfl ?_); (try (refine gate_guard (by rfl) ?_; dsimp only)); refine boxK (N := 2) (#[.int .i64 a0_0, .int .i64 a0_1, .int .i64 a0_2, .slice A0_3 l0_3.length c0_3, .slice A0_4 l0_4.length c0_4, .slice A0_5 l0_5.length c0_5]) 37 ?_; intro gb184 hg w4 hbox hb; have n0_ := sB HB hb; have n1_ := Aside0.mk (hbox); have n2_ := sG hg HB; have n3_ := sG hg HB; clear HB; have HB := n0_; have BK184 := n1_; have GW184 := n2_; have GE184 := n3_; clear n0_ n1_ n2_ n3_; clear hb hbox hg) | ((with_reducible refine gate_dst (N := 3) rfl ?_); (try (refine gate_guard (by rfl) ?_; dsimp only)); refine boxK (N := 3) (#[.int .i64 a1_0, .int .i64 a1_1, .int .i64 a1_2, .slice A1_3 l1_3.length c1_3, .slice A1_4 l1_4.length c1_4, .slice A1_5 l1_5.length c1_5]) 37 ?_; intro gb185 hg w5 hbox hb; have n0_ := sK BK184 hb; have n1_ := sB HB hb; have n2_ := Aside0.mk (hbox); have n3_ := sG hg HB; have n4_ := sG hg HB; have n5_ := sNl hg BK184; have n6_ := sNg hg BK184; clear BK184; clear HB; have BK184 := n0_; have HB := n1_; have BK185 := n2_; have GW185 := n3_; have GE185 := n4_; have NB184_185 := n5_; have NB185_184 := n6_; clear n0_ n1_ n2_ n3_ n4_ n5_ n6_; clear hb hbox hg)))
 (try simp only [Act.put, List.setIfInBounds_toArray, List.set_cons_zero, List.set_cons_succ])
 go_cut [53] (fun v53 wc => ∃ (kq : Nat) (x53_2 : Bool), v53 = .bool x53_2 ∧ Aside0 (fuglemanlaw20_same.j0 kq x53_2 a0_0 a0_1 a0_2 l0_3 l0_4 l0_5 a1_0 a1_1 a1_2 l1_3 l1_4 l1_5 = some r) ∧ Aside0 (kq ≤ k) ∧ Aside0 (wc.heap[gb184]? = some (.cells #[.int .i64 a0_0, .int .i64 a0_1, .int .i64 a0_2, (.slice A0_3 l0_3.length c0_3), (.slice A0_4 l0_4.length c0_4), (.slice A0_5 l0_5.length c0_5)] 37 (0, 0))) ∧ Aside0 (wc.heap[gb185]? = some (.cells #[.int .i64 a1_0, .int .i64 a1_1, .int .i64 a1_2, (.slice A1_3 l1_3.length c1_3), (.slice A1_4 l1_4.length c1_4), (.slice A1_5 l1_5.length c1_5)] 37 (0, 0))) ∧ Aside0 (Below w.heap.size w wc))
 case first =>
  have H := HC3.out
  clear HC3
  by_cases c6 : a0_0 = a1_0
  case neg =>
   rw [if_neg c6] at H
   have c6b0 : (a0_0 == a1_0) = false := beq_eq_false_iff_ne.mpr c6
   have c6b1 : (a0_0 != a1_0) = true := bne_iff_ne.mpr c6
   (first | rw [c6b0] | (simp only [i64_w, i32_w]; rw [c6b0]) | skip)
   have H' := Aside0.mk H
   clear H
   have hnb26 := NB184_185.out
   have hnc26 := NB185_184.out
   obtain ⟨z27_0, z27_1, z27_2, z27_3, z27_4, z27_5, q27_0, q27_1, q27_2, q27_3, q27_4, q27_5⟩ := bk6 BK184
   obtain ⟨z28_0, z28_1, z28_2, z28_3, z28_4, z28_5, q28_0, q28_1, q28_2, q28_3, q28_4, q28_5⟩ := bk6 BK185
   go_wp2
   repeat (go_quiet (fail); try go_wp2)
   go_meet
   case rel => exact ⟨_, (true), (by first | rfl | (simp; done) | (simp [*]; done)), H', ⟨by first | omega | exact Nat.le_refl _⟩, (sK0 BK184), (sK0 BK185), (sB0 HB)⟩
  rw [if_pos c6] at H
  have c6b0 : (a0_0 == a1_0) = true := beq_iff_eq.mpr c6
  have c6b1 : (a0_0 != a1_0) = false := bne_eq_false_iff_eq.mpr c6
  clear c6
  (first | rw [c6b0] | (simp only [i64_w, i32_w]; rw [c6b0]) | skip)
  by_cases c7 : a0_1 = a1_1
  case neg =>
   rw [if_neg c7] at H
   have c7b0 : (a0_1 == a1_1) = false := beq_eq_false_iff_ne.mpr c7
   have c7b1 : (a0_1 != a1_1) = true := bne_iff_ne.mpr c7
   have H' := Aside0.mk H
   clear H
   have hnb23 := NB184_185.out
   have hnc23 := NB185_184.out
   obtain ⟨z24_0, z24_1, z24_2, z24_3, z24_4, z24_5, q24_0, q24_1, q24_2, q24_3, q24_4, q24_5⟩ := bk6 BK184
   obtain ⟨z25_0, z25_1, z25_2, z25_3, z25_4, z25_5, q25_0, q25_1, q25_2, q25_3, q25_4, q25_5⟩ := bk6 BK185
   go_wp2
   repeat (go_quiet (fail); try go_wp2)
   go_meet
   case rel => exact ⟨_, (true), (by first | rfl | (simp; done) | (simp [*]; done)), H', ⟨by first | omega | exact Nat.le_refl _⟩, (sK0 BK184), (sK0 BK185), (sB0 HB)⟩
  rw [if_pos c7] at H
  have c7b0 : (a0_1 == a1_1) = true := beq_iff_eq.mpr c7
  have c7b1 : (a0_1 != a1_1) = false := bne_eq_false_iff_eq.mpr c7
  clear c7
  by_cases c8 : a0_2 = a1_2
  case neg =>
   rw [if_neg c8] at H
   have c8b0 : (a0_2 == a1_2) = false := beq_eq_false_iff_ne.mpr c8
   have c8b1 : (a0_2 != a1_2) = true := bne_iff_ne.mpr c8
   have H' := Aside0.mk H
   clear H
   have hnb20 := NB184_185.out
   have hnc20 := NB185_184.out
   obtain ⟨z21_0, z21_1, z21_2, z21_3, z21_4, z21_5, q21_0, q21_1, q21_2, q21_3, q21_4, q21_5⟩ := bk6 BK184
   obtain ⟨z22_0, z22_1, z22_2, z22_3, z22_4, z22_5, q22_0, q22_1, q22_2, q22_3, q22_4, q22_5⟩ := bk6 BK185
   go_wp2
   repeat (go_quiet (fail); try go_wp2)
   go_meet
   case rel => exact ⟨_, (true), (by first | rfl | (simp; done) | (simp [*]; done)), H', ⟨by first | omega | exact Nat.le_refl _⟩, (sK0 BK184), (sK0 BK185), (sB0 HB)⟩
  rw [if_pos c8] at H
  have c8b0 : (a0_2 == a1_2) = true := beq_iff_eq.mpr c8
  have c8b1 : (a0_2 != a1_2) = false := bne_eq_false_iff_eq.mpr c8
  clear c8
  by_cases c9 : (l0_3.length : Int) = (l1_3.length : Int)
  case neg =>
   rw [if_neg c9] at H
   have c9b0 : ((l0_3.length : Int) == (l1_3.length : Int)) = false := beq_eq_false_iff_ne.mpr c9
   have c9b1 : ((l0_3.length : Int) != (l1_3.length : Int)) = true := bne_iff_ne.mpr c9
   have c9b2 : (l0_3.length == l1_3.length) = false := by first | simpa using c9 | (simp at c9 ⊢; omega)
   have H' := Aside0.mk H
   clear H
   have hnb17 := NB184_185.out
   have hnc17 := NB185_184.out
   obtain ⟨z18_0, z18_1, z18_2, z18_3, z18_4, z18_5, q18_0, q18_1, q18_2, q18_3, q18_4, q18_5⟩ := bk6 BK184
   obtain ⟨z19_0, z19_1, z19_2, z19_3, z19_4, z19_5, q19_0, q19_1, q19_2, q19_3, q19_4, q19_5⟩ := bk6 BK185
   go_wp2
   repeat (go_quiet (fail); try go_wp2)
   go_meet
   case rel => exact ⟨_, (true), (by first | rfl | (simp; done) | (simp [*]; done)), H', ⟨by first | omega | exact Nat.le_refl _⟩, (sK0 BK184), (sK0 BK185), (sB0 HB)⟩
  rw [if_pos c9] at H
  have c9b0 : ((l0_3.length : Int) == (l1_3.length : Int)) = true := beq_iff_eq.mpr c9
  have c9b1 : ((l0_3.length : Int) != (l1_3.length : Int)) = false := bne_eq_false_iff_eq.mpr c9
  have c9b2 : (l0_3.length == l1_3.length) = true := by first | simpa using c9 | (simp at c9 ⊢; omega)
  clear c9
  by_cases c10 : (l0_4.length : Int) = (l1_4.length : Int)
  case neg =>
   rw [if_neg c10] at H
   have c10b0 : ((l0_4.length : Int) == (l1_4.length : Int)) = false := beq_eq_false_iff_ne.mpr c10
   have c10b1 : ((l0_4.length : Int) != (l1_4.length : Int)) = true := bne_iff_ne.mpr c10
   have c10b2 : (l0_4.length == l1_4.length) = false := by first | simpa using c10 | (simp at c10 ⊢; omega)
   have H' := Aside0.mk H
   clear H
   have hnb14 := NB184_185.out
   have hnc14 := NB185_184.out
   obtain ⟨z15_0, z15_1, z15_2, z15_3, z15_4, z15_5, q15_0, q15_1, q15_2, q15_3, q15_4, q15_5⟩ := bk6 BK184
   obtain ⟨z16_0, z16_1, z16_2, z16_3, z16_4, z16_5, q16_0, q16_1, q16_2, q16_3, q16_4, q16_5⟩ := bk6 BK185
   go_wp2
   repeat (go_quiet (fail); try go_wp2)
   go_meet
   case rel => exact ⟨_, (true), (by first | rfl | (simp; done) | (simp [*]; done)), H', ⟨by first | omega | exact Nat.le_refl _⟩, (sK0 BK184), (sK0 BK185), (sB0 HB)⟩
  rw [if_pos c10] at H
  have c10b0 : ((l0_4.length : Int) == (l1_4.length : Int)) = true := beq_iff_eq.mpr c10
  have c10b1 : ((l0_4.length : Int) != (l1_4.length : Int)) = false := bne_eq_false_iff_eq.mpr c10
  have c10b2 : (l0_4.length == l1_4.length) = true := by first | simpa using c10 | (simp at c10 ⊢; omega)
  clear c10
  have H' := Aside0.mk H
  clear H
  have hnb11 := NB184_185.out
  have hnc11 := NB185_184.out
  obtain ⟨z12_0, z12_1, z12_2, z12_3, z12_4, z12_5, q12_0, q12_1, q12_2, q12_3, q12_4, q12_5⟩ := bk6 BK184
  obtain ⟨z13_0, z13_1, z13_2, z13_3, z13_4, z13_5, q13_0, q13_1, q13_2, q13_3, q13_4, q13_5⟩ := bk6 BK185
  go_wp2
  repeat (go_quiet (fail); try go_wp2)
  go_meet
  case rel => exact ⟨_, (((l0_5.length : Int) != (l1_5.length : Int))), (by first | rfl | (simp; done) | (simp [*]; done)), H', ⟨by first | omega | exact Nat.le_refl _⟩, (sK0 BK184), (sK0 BK185), (sB0 HB)⟩
 clear HC3
 (try clear c6); (try clear c6b0); (try clear c6b1); (try clear c7); (try clear c7b0); (try clear c7b1); (try clear c8); (try clear c8b0); (try clear c8b1); (try clear c9); (try clear c9b0); (try clear c9b1); (try clear c9b2); (try clear c10); (try clear c10b0); (try clear c10b1); (try clear c10b2); (try clear z12_0 z12_1 z12_2 z12_3 z12_4 z12_5 q12_0 q12_1 q12_2 q12_3 q12_4 q12_5); (try clear z13_0 z13_1 z13_2 z13_3 z13_4 z13_5 q13_0 q13_1 q13_2 q13_3 q13_4 q13_5); (try clear z15_0 z15_1 z15_2 z15_3 z15_4 z15_5 q15_0 q15_1 q15_2 q15_3 q15_4 q15_5); (try clear z16_0 z16_1 z16_2 z16_3 z16_4 z16_5 q16_0 q16_1 q16_2 q16_3 q16_4 q16_5); (try clear z18_0 z18_1 z18_2 z18_3 z18_4 z18_5 q18_0 q18_1 q18_2 q18_3 q18_4 q18_5); (try clear z19_0 z19_1 z19_2 z19_3 z19_4 z19_5 q19_0 q19_1 q19_2 q19_3 q19_4 q19_5); (try clear z21_0 z21_1 z21_2 z21_3 z21_4 z21_5 q21_0 q21_1 q21_2 q21_3 q21_4 q21_5); (try clear z22_0 z22_1 z22_2 z22_3 z22_4 z22_5 q22_0 q22_1 q22_2 q22_3 q22_4 q22_5); (try clear z24_0 z24_1 z24_2 z24_3 z24_4 z24_5 q24_0 q24_1 q24_2 q24_3 q24_4 q24_5); (try clear z25_0 z25_1 z25_2 z25_3 z25_4 z25_5 q25_0 q25_1 q25_2 q25_3 q25_4 q25_5); (try clear z27_0 z27_1 z27_2 z27_3 z27_4 z27_5 q27_0 q27_1 q27_2 q27_3 q27_4 q27_5); (try clear z28_0 z28_1 z28_2 z28_3 z28_4 z28_5 q28_0 q28_1 q28_2 q28_3 q28_4 q28_5)
 obtain ⟨kq, x53_2, rfl, HA, HJ2, BK184, BK185, HB⟩ := hcut
 cases kq with
 | zero => exact absurd HA.out (by simp [fuglemanlaw20_same.j0])
 | succ kj2 =>
  have H := HA.out
  clear HA
  simp only [fuglemanlaw20_same.j0] at H
  by_cases c29 : x53_2 = true
  ·subst c29
   have H1 : (some false) = some r := by rw [if_pos rfl] at H; exact H
   clear H
   have H := H1
   clear H1
   obtain rfl := Option.some.inj H
   go_wp2
   repeat (go_quiet (fail); try go_wp2)
   go_ret
   exact sEnd HB
  ·replace c29 := Bool.eq_false_iff.mpr c29
   subst c29
   have H1 : (fuglemanlaw20_same.l0 kj2 (l0_3.length : Int) 0 a0_0 a0_1 a0_2 l0_3 l0_4 l0_5 a1_0 a1_1 a1_2 l1_3 l1_4 l1_5) = some r := by rw [if_neg (show ¬ (false = true) by decide)] at H; exact H
   clear H
   have H := H1
   clear H1
   have H' := Aside0.mk H
   clear H
   have hnb30 := NB184_185.out
   have hnc30 := NB185_184.out
   obtain ⟨z31_0, z31_1, z31_2, z31_3, z31_4, z31_5, q31_0, q31_1, q31_2, q31_3, q31_4, q31_5⟩ := bk6 BK184
   go_wp2
   repeat (go_quiet (fail); try go_wp2)
   go_loopg [57] kj2 (fun kq v57 w' => ∃ (x57_2 : Int), v57 = .int .i64 x57_2 ∧ Aside0 (fuglemanlaw20_same.l0 kq (l0_3.length : Int) x57_2 a0_0 a0_1 a0_2 l0_3 l0_4 l0_5 a1_0 a1_1 a1_2 l1_3 l1_4 l1_5 = some r) ∧ Aside0 (kq ≤ kj2) ∧ Aside0 (w'.heap[gb184]? = some (.cells #[.int .i64 a0_0, .int .i64 a0_1, .int .i64 a0_2, (.slice A0_3 l0_3.length c0_3), (.slice A0_4 l0_4.length c0_4), (.slice A0_5 l0_5.length c0_5)] 37 (0, 0))) ∧ Aside0 (w'.heap[gb185]? = some (.cells #[.int .i64 a1_0, .int .i64 a1_1, .int .i64 a1_2, (.slice A1_3 l1_3.length c1_3), (.slice A1_4 l1_4.length c1_4), (.slice A1_5 l1_5.length c1_5)] 37 (0, 0))) ∧ Aside0 (Below w.heap.size w w'))
   case atStart => exact ⟨(0), (by first | rfl | (simp; done) | (simp [*]; done)), H', ⟨Nat.le_refl _⟩, (sK0 BK184), (sK0 BK185), (sB0 HB)⟩
   case round =>
    clear H'
    (try clear c6); (try clear c6b0); (try clear c6b1); (try clear c7); (try clear c7b0); (try clear c7b1); (try clear c8); (try clear c8b0); (try clear c8b1); (try clear c9); (try clear c9b0); (try clear c9b1); (try clear c9b2); (try clear c10); (try clear c10b0); (try clear c10b1); (try clear c10b2); (try clear c29); (try clear z12_0 z12_1 z12_2 z12_3 z12_4 z12_5 q12_0 q12_1 q12_2 q12_3 q12_4 q12_5); (try clear z13_0 z13_1 z13_2 z13_3 z13_4 z13_5 q13_0 q13_1 q13_2 q13_3 q13_4 q13_5); (try clear z15_0 z15_1 z15_2 z15_3 z15_4 z15_5 q15_0 q15_1 q15_2 q15_3 q15_4 q15_5); (try clear z16_0 z16_1 z16_2 z16_3 z16_4 z16_5 q16_0 q16_1 q16_2 q16_3 q16_4 q16_5); (try clear z18_0 z18_1 z18_2 z18_3 z18_4 z18_5 q18_0 q18_1 q18_2 q18_3 q18_4 q18_5); (try clear z19_0 z19_1 z19_2 z19_3 z19_4 z19_5 q19_0 q19_1 q19_2 q19_3 q19_4 q19_5); (try clear z21_0 z21_1 z21_2 z21_3 z21_4 z21_5 q21_0 q21_1 q21_2 q21_3 q21_4 q21_5); (try clear z22_0 z22_1 z22_2 z22_3 z22_4 z22_5 q22_0 q22_1 q22_2 q22_3 q22_4 q22_5); (try clear z24_0 z24_1 z24_2 z24_3 z24_4 z24_5 q24_0 q24_1 q24_2 q24_3 q24_4 q24_5); (try clear z25_0 z25_1 z25_2 z25_3 z25_4 z25_5 q25_0 q25_1 q25_2 q25_3 q25_4 q25_5); (try clear z27_0 z27_1 z27_2 z27_3 z27_4 z27_5 q27_0 q27_1 q27_2 q27_3 q27_4 q27_5); (try clear z28_0 z28_1 z28_2 z28_3 z28_4 z28_5 q28_0 q28_1 q28_2 q28_3 q28_4 q28_5); (try clear z31_0 z31_1 z31_2 z31_3 z31_4 z31_5 q31_0 q31_1 q31_2 q31_3 q31_4 q31_5)
    obtain ⟨x57_2, rfl, HA, HK2, BK184, BK185, HB⟩ := hrel
    cases gk with
    | zero => exact absurd HA.out (by simp [fuglemanlaw20_same.l0])
    | succ k2 =>
     have H := HA.out
     clear HA
     simp only [fuglemanlaw20_same.l0] at H
     by_cases c32 : x57_2 < (l0_3.length : Int)
     ·rw [if_pos c32] at H
      have c32b0 : decide (x57_2 < (l0_3.length : Int)) = true := decide_eq_true c32
      clear c32
      by_cases c33 : 0 ≤ x57_2
      ·rw [if_pos c33] at H
       have c33b0 : decide (0 ≤ x57_2) = true := decide_eq_true c33
       clear c33
       by_cases c34 : x57_2 < (l0_3.length : Int)
       ·rw [if_pos c34] at H
        have c34b0 : decide (x57_2 < (l0_3.length : Int)) = true := decide_eq_true c34
        clear c34
        by_cases c35 : x57_2 < (l1_3.length : Int)
        ·rw [if_pos c35] at H
         have c35b0 : decide (x57_2 < (l1_3.length : Int)) = true := decide_eq_true c35
         clear c35
         by_cases c36 : (!(((rd_T54 l0_3 x57_2).f0) == ((rd_T54 l1_3 x57_2).f0)) || (!(((rd_T54 l0_3 x57_2).f1) == ((rd_T54 l1_3 x57_2).f1)) || (!(((rd_T54 l0_3 x57_2).f2) == ((rd_T54 l1_3 x57_2).f2)) || (!(((rd_T54 l0_3 x57_2).f3) == ((rd_T54 l1_3 x57_2).f3)) || (!(((rd_T54 l0_3 x57_2).f4) == ((rd_T54 l1_3 x57_2).f4))))))) = true
         ·rw [if_pos c36] at H
          have c36b0 : (!(((rd_T54 l0_3 x57_2).f0) == ((rd_T54 l1_3 x57_2).f0)) || (!(((rd_T54 l0_3 x57_2).f1) == ((rd_T54 l1_3 x57_2).f1)) || (!(((rd_T54 l0_3 x57_2).f2) == ((rd_T54 l1_3 x57_2).f2)) || (!(((rd_T54 l0_3 x57_2).f3) == ((rd_T54 l1_3 x57_2).f3)) || (!(((rd_T54 l0_3 x57_2).f4) == ((rd_T54 l1_3 x57_2).f4))))))) = true := c36
          clear c36
          obtain rfl := Option.some.inj H
          have hnb37 := NB184_185.out
          have hnc37 := NB185_184.out
          obtain ⟨z38_0, z38_1, z38_2, z38_3, z38_4, z38_5, q38_0, q38_1, q38_2, q38_3, q38_4, q38_5⟩ := bk6 BK184
          have p186 : 0 ≤ (x57_2 : Int) := of_decide_eq_true (by first | (with_reducible assumption) | assumption)
          have q186 : x57_2 < (l0_3.length : Int) := of_decide_eq_true (by first | (with_reducible assumption) | assumption)
          obtain ⟨ad186, e186, hx186_0, hx186_1, hx186_2, hx186_3, hx186_4⟩ := at_T54 HR0_3.out x57_2 p186 q186
          cases e186
          replace hx186_0 := (HB.out.cell (World.block_lt_of_cell? w _ hx186_0)).trans hx186_0
          replace hx186_1 := (HB.out.cell (World.block_lt_of_cell? w _ hx186_1)).trans hx186_1
          replace hx186_2 := (HB.out.cell (World.block_lt_of_cell? w _ hx186_2)).trans hx186_2
          replace hx186_3 := (HB.out.cell (World.block_lt_of_cell? w _ hx186_3)).trans hx186_3
          replace hx186_4 := (HB.out.cell (World.block_lt_of_cell? w _ hx186_4)).trans hx186_4
          replace p186 := eq_true p186
          replace q186 := eq_true q186
          obtain ⟨z39_0, z39_1, z39_2, z39_3, z39_4, z39_5, q39_0, q39_1, q39_2, q39_3, q39_4, q39_5⟩ := bk6 BK185
          have p187 : 0 ≤ (x57_2 : Int) := of_decide_eq_true (by first | (with_reducible assumption) | assumption)
          have q187 : x57_2 < (l1_3.length : Int) := of_decide_eq_true (by first | (with_reducible assumption) | assumption)
          obtain ⟨ad187, e187, hx187_0, hx187_1, hx187_2, hx187_3, hx187_4⟩ := at_T54 HR1_3.out x57_2 p187 q187
          cases e187
          replace hx187_0 := (HB.out.cell (World.block_lt_of_cell? w _ hx187_0)).trans hx187_0
          replace hx187_1 := (HB.out.cell (World.block_lt_of_cell? w _ hx187_1)).trans hx187_1
          replace hx187_2 := (HB.out.cell (World.block_lt_of_cell? w _ hx187_2)).trans hx187_2
          replace hx187_3 := (HB.out.cell (World.block_lt_of_cell? w _ hx187_3)).trans hx187_3
          replace hx187_4 := (HB.out.cell (World.block_lt_of_cell? w _ hx187_4)).trans hx187_4
          replace p187 := eq_true p187
          replace q187 := eq_true q187
          go_wp2
          repeat (go_quiet (fail); try go_wp2)
          go_ret
          exact sEnd HB
         ·rw [if_neg c36] at H
          have c36b0 : (!(((rd_T54 l0_3 x57_2).f0) == ((rd_T54 l1_3 x57_2).f0)) || (!(((rd_T54 l0_3 x57_2).f1) == ((rd_T54 l1_3 x57_2).f1)) || (!(((rd_T54 l0_3 x57_2).f2) == ((rd_T54 l1_3 x57_2).f2)) || (!(((rd_T54 l0_3 x57_2).f3) == ((rd_T54 l1_3 x57_2).f3)) || (!(((rd_T54 l0_3 x57_2).f4) == ((rd_T54 l1_3 x57_2).f4))))))) = false := by simpa using c36
          clear c36
          have H' := Aside0.mk H
          clear H
          have hnb40 := NB184_185.out
          have hnc40 := NB185_184.out
          obtain ⟨z41_0, z41_1, z41_2, z41_3, z41_4, z41_5, q41_0, q41_1, q41_2, q41_3, q41_4, q41_5⟩ := bk6 BK184
          have p186 : 0 ≤ (x57_2 : Int) := of_decide_eq_true (by first | (with_reducible assumption) | assumption)
          have q186 : x57_2 < (l0_3.length : Int) := of_decide_eq_true (by first | (with_reducible assumption) | assumption)
          obtain ⟨ad186, e186, hx186_0, hx186_1, hx186_2, hx186_3, hx186_4⟩ := at_T54 HR0_3.out x57_2 p186 q186
          cases e186
          replace hx186_0 := (HB.out.cell (World.block_lt_of_cell? w _ hx186_0)).trans hx186_0
          replace hx186_1 := (HB.out.cell (World.block_lt_of_cell? w _ hx186_1)).trans hx186_1
          replace hx186_2 := (HB.out.cell (World.block_lt_of_cell? w _ hx186_2)).trans hx186_2
          replace hx186_3 := (HB.out.cell (World.block_lt_of_cell? w _ hx186_3)).trans hx186_3
          replace hx186_4 := (HB.out.cell (World.block_lt_of_cell? w _ hx186_4)).trans hx186_4
          replace p186 := eq_true p186
          replace q186 := eq_true q186
          obtain ⟨z42_0, z42_1, z42_2, z42_3, z42_4, z42_5, q42_0, q42_1, q42_2, q42_3, q42_4, q42_5⟩ := bk6 BK185
          have p187 : 0 ≤ (x57_2 : Int) := of_decide_eq_true (by first | (with_reducible assumption) | assumption)
          have q187 : x57_2 < (l1_3.length : Int) := of_decide_eq_true (by first | (with_reducible assumption) | assumption)
          obtain ⟨ad187, e187, hx187_0, hx187_1, hx187_2, hx187_3, hx187_4⟩ := at_T54 HR1_3.out x57_2 p187 q187
          cases e187
          replace hx187_0 := (HB.out.cell (World.block_lt_of_cell? w _ hx187_0)).trans hx187_0
          replace hx187_1 := (HB.out.cell (World.block_lt_of_cell? w _ hx187_1)).trans hx187_1
          replace hx187_2 := (HB.out.cell (World.block_lt_of_cell? w _ hx187_2)).trans hx187_2
          replace hx187_3 := (HB.out.cell (World.block_lt_of_cell? w _ hx187_3)).trans hx187_3
          replace hx187_4 := (HB.out.cell (World.block_lt_of_cell? w _ hx187_4)).trans hx187_4
          replace p187 := eq_true p187
          replace q187 := eq_true q187
          go_wp2
          repeat (go_quiet (fail); try go_wp2)
          go_roundg k2
          case measure => have := HJ2.out; have := HK2.out; omega
          case rel => exact ⟨(wrap64 (x57_2 + 1)), (by first | rfl | (simp; done) | (simp [*]; done)), H', ⟨by have := HJ2.out; have := HK2.out; omega⟩, (sK0 BK184), (sK0 BK185), (sB0 HB)⟩
        ·rw [if_neg c35] at H
         exact absurd H (by simp)
       ·rw [if_neg c34] at H
        exact absurd H (by simp)
      ·rw [if_neg c33] at H
       exact absurd H (by simp)
     ·rw [if_neg c32] at H
      have c32b0 : decide (x57_2 < (l0_3.length : Int)) = false := decide_eq_false c32
      clear c32
      have H' := Aside0.mk H
      clear H
      have hnb43 := NB184_185.out
      have hnc43 := NB185_184.out
      obtain ⟨z44_0, z44_1, z44_2, z44_3, z44_4, z44_5, q44_0, q44_1, q44_2, q44_3, q44_4, q44_5⟩ := bk6 BK184
      go_wp2
      repeat (go_quiet (fail); try go_wp2)
      go_loopg [75] k2 (fun kq v75 w' => ∃ (x75_3 : Int), v75 = .int .i64 x75_3 ∧ Aside0 (fuglemanlaw20_same.l1 kq (l0_4.length : Int) x75_3 a0_0 a0_1 a0_2 l0_3 l0_4 l0_5 a1_0 a1_1 a1_2 l1_3 l1_4 l1_5 = some r) ∧ Aside0 (kq ≤ k2) ∧ Aside0 (w'.heap[gb184]? = some (.cells #[.int .i64 a0_0, .int .i64 a0_1, .int .i64 a0_2, (.slice A0_3 l0_3.length c0_3), (.slice A0_4 l0_4.length c0_4), (.slice A0_5 l0_5.length c0_5)] 37 (0, 0))) ∧ Aside0 (w'.heap[gb185]? = some (.cells #[.int .i64 a1_0, .int .i64 a1_1, .int .i64 a1_2, (.slice A1_3 l1_3.length c1_3), (.slice A1_4 l1_4.length c1_4), (.slice A1_5 l1_5.length c1_5)] 37 (0, 0))) ∧ Aside0 (Below w.heap.size w w'))
      case atStart => exact ⟨(0), (by first | rfl | (simp; done) | (simp [*]; done)), H', ⟨Nat.le_refl _⟩, (sK0 BK184), (sK0 BK185), (sB0 HB)⟩
      case round =>
       clear H'
       (try clear c6); (try clear c6b0); (try clear c6b1); (try clear c7); (try clear c7b0); (try clear c7b1); (try clear c8); (try clear c8b0); (try clear c8b1); (try clear c9); (try clear c9b0); (try clear c9b1); (try clear c9b2); (try clear c10); (try clear c10b0); (try clear c10b1); (try clear c10b2); (try clear c29); (try clear c32); (try clear c32b0); (try clear c33); (try clear c33b0); (try clear c34); (try clear c34b0); (try clear c35); (try clear c35b0); (try clear c36); (try clear c36b0); (try clear z12_0 z12_1 z12_2 z12_3 z12_4 z12_5 q12_0 q12_1 q12_2 q12_3 q12_4 q12_5); (try clear z13_0 z13_1 z13_2 z13_3 z13_4 z13_5 q13_0 q13_1 q13_2 q13_3 q13_4 q13_5); (try clear z15_0 z15_1 z15_2 z15_3 z15_4 z15_5 q15_0 q15_1 q15_2 q15_3 q15_4 q15_5); (try clear z16_0 z16_1 z16_2 z16_3 z16_4 z16_5 q16_0 q16_1 q16_2 q16_3 q16_4 q16_5); (try clear z18_0 z18_1 z18_2 z18_3 z18_4 z18_5 q18_0 q18_1 q18_2 q18_3 q18_4 q18_5); (try clear z19_0 z19_1 z19_2 z19_3 z19_4 z19_5 q19_0 q19_1 q19_2 q19_3 q19_4 q19_5); (try clear z21_0 z21_1 z21_2 z21_3 z21_4 z21_5 q21_0 q21_1 q21_2 q21_3 q21_4 q21_5); (try clear z22_0 z22_1 z22_2 z22_3 z22_4 z22_5 q22_0 q22_1 q22_2 q22_3 q22_4 q22_5); (try clear z24_0 z24_1 z24_2 z24_3 z24_4 z24_5 q24_0 q24_1 q24_2 q24_3 q24_4 q24_5); (try clear z25_0 z25_1 z25_2 z25_3 z25_4 z25_5 q25_0 q25_1 q25_2 q25_3 q25_4 q25_5); (try clear z27_0 z27_1 z27_2 z27_3 z27_4 z27_5 q27_0 q27_1 q27_2 q27_3 q27_4 q27_5); (try clear z28_0 z28_1 z28_2 z28_3 z28_4 z28_5 q28_0 q28_1 q28_2 q28_3 q28_4 q28_5); (try clear z31_0 z31_1 z31_2 z31_3 z31_4 z31_5 q31_0 q31_1 q31_2 q31_3 q31_4 q31_5); (try clear z38_0 z38_1 z38_2 z38_3 z38_4 z38_5 q38_0 q38_1 q38_2 q38_3 q38_4 q38_5); (try clear z39_0 z39_1 z39_2 z39_3 z39_4 z39_5 q39_0 q39_1 q39_2 q39_3 q39_4 q39_5); (try clear z41_0 z41_1 z41_2 z41_3 z41_4 z41_5 q41_0 q41_1 q41_2 q41_3 q41_4 q41_5); (try clear z42_0 z42_1 z42_2 z42_3 z42_4 z42_5 q42_0 q42_1 q42_2 q42_3 q42_4 q42_5); (try clear z44_0 z44_1 z44_2 z44_3 z44_4 z44_5 q44_0 q44_1 q44_2 q44_3 q44_4 q44_5); (try clear hx186_0); (try clear hx186_1); (try clear hx186_2); (try clear hx186_3); (try clear hx186_4); (try clear hx187_0); (try clear hx187_1); (try clear hx187_2); (try clear hx187_3); (try clear hx187_4); (try clear p186); (try clear p187); (try clear q186); (try clear q187)
       obtain ⟨x75_3, rfl, HA, HK3, BK184, BK185, HB⟩ := hrel
       cases gk with
       | zero => exact absurd HA.out (by simp [fuglemanlaw20_same.l1])
       | succ k3 =>
        have H := HA.out
        clear HA
        simp only [fuglemanlaw20_same.l1] at H
        by_cases c45 : x75_3 < (l0_4.length : Int)
        ·rw [if_pos c45] at H
         have c45b0 : decide (x75_3 < (l0_4.length : Int)) = true := decide_eq_true c45
         clear c45
         by_cases c46 : 0 ≤ x75_3
         ·rw [if_pos c46] at H
          have c46b0 : decide (0 ≤ x75_3) = true := decide_eq_true c46
          clear c46
          by_cases c47 : x75_3 < (l0_4.length : Int)
          ·rw [if_pos c47] at H
           have c47b0 : decide (x75_3 < (l0_4.length : Int)) = true := decide_eq_true c47
           clear c47
           by_cases c48 : x75_3 < (l1_4.length : Int)
           ·rw [if_pos c48] at H
            have c48b0 : decide (x75_3 < (l1_4.length : Int)) = true := decide_eq_true c48
            clear c48
            by_cases c49 : (!(((rd_T56 l0_4 x75_3).f0) == ((rd_T56 l1_4 x75_3).f0)) || (!(((rd_T56 l0_4 x75_3).f1) == ((rd_T56 l1_4 x75_3).f1)))) = true
            ·rw [if_pos c49] at H
             have c49b0 : (!(((rd_T56 l0_4 x75_3).f0) == ((rd_T56 l1_4 x75_3).f0)) || (!(((rd_T56 l0_4 x75_3).f1) == ((rd_T56 l1_4 x75_3).f1)))) = true := c49
             clear c49
             obtain rfl := Option.some.inj H
             have hnb50 := NB184_185.out
             have hnc50 := NB185_184.out
             obtain ⟨z51_0, z51_1, z51_2, z51_3, z51_4, z51_5, q51_0, q51_1, q51_2, q51_3, q51_4, q51_5⟩ := bk6 BK184
             have p188 : 0 ≤ (x75_3 : Int) := of_decide_eq_true (by first | (with_reducible assumption) | assumption)
             have q188 : x75_3 < (l0_4.length : Int) := of_decide_eq_true (by first | (with_reducible assumption) | assumption)
             obtain ⟨ad188, e188, hx188_0, hx188_1⟩ := at_T56 HR0_4.out x75_3 p188 q188
             cases e188
             replace hx188_0 := (HB.out.cell (World.block_lt_of_cell? w _ hx188_0)).trans hx188_0
             replace hx188_1 := (HB.out.cell (World.block_lt_of_cell? w _ hx188_1)).trans hx188_1
             replace p188 := eq_true p188
             replace q188 := eq_true q188
             obtain ⟨z52_0, z52_1, z52_2, z52_3, z52_4, z52_5, q52_0, q52_1, q52_2, q52_3, q52_4, q52_5⟩ := bk6 BK185
             have p189 : 0 ≤ (x75_3 : Int) := of_decide_eq_true (by first | (with_reducible assumption) | assumption)
             have q189 : x75_3 < (l1_4.length : Int) := of_decide_eq_true (by first | (with_reducible assumption) | assumption)
             obtain ⟨ad189, e189, hx189_0, hx189_1⟩ := at_T56 HR1_4.out x75_3 p189 q189
             cases e189
             replace hx189_0 := (HB.out.cell (World.block_lt_of_cell? w _ hx189_0)).trans hx189_0
             replace hx189_1 := (HB.out.cell (World.block_lt_of_cell? w _ hx189_1)).trans hx189_1
             replace p189 := eq_true p189
             replace q189 := eq_true q189
             go_wp2
             repeat (go_quiet (fail); try go_wp2)
             go_ret
             exact sEnd HB
            ·rw [if_neg c49] at H
             have c49b0 : (!(((rd_T56 l0_4 x75_3).f0) == ((rd_T56 l1_4 x75_3).f0)) || (!(((rd_T56 l0_4 x75_3).f1) == ((rd_T56 l1_4 x75_3).f1)))) = false := by simpa using c49
             clear c49
             have H' := Aside0.mk H
             clear H
             have hnb53 := NB184_185.out
             have hnc53 := NB185_184.out
             obtain ⟨z54_0, z54_1, z54_2, z54_3, z54_4, z54_5, q54_0, q54_1, q54_2, q54_3, q54_4, q54_5⟩ := bk6 BK184
             have p188 : 0 ≤ (x75_3 : Int) := of_decide_eq_true (by first | (with_reducible assumption) | assumption)
             have q188 : x75_3 < (l0_4.length : Int) := of_decide_eq_true (by first | (with_reducible assumption) | assumption)
             obtain ⟨ad188, e188, hx188_0, hx188_1⟩ := at_T56 HR0_4.out x75_3 p188 q188
             cases e188
             replace hx188_0 := (HB.out.cell (World.block_lt_of_cell? w _ hx188_0)).trans hx188_0
             replace hx188_1 := (HB.out.cell (World.block_lt_of_cell? w _ hx188_1)).trans hx188_1
             replace p188 := eq_true p188
             replace q188 := eq_true q188
             obtain ⟨z55_0, z55_1, z55_2, z55_3, z55_4, z55_5, q55_0, q55_1, q55_2, q55_3, q55_4, q55_5⟩ := bk6 BK185
             have p189 : 0 ≤ (x75_3 : Int) := of_decide_eq_true (by first | (with_reducible assumption) | assumption)
             have q189 : x75_3 < (l1_4.length : Int) := of_decide_eq_true (by first | (with_reducible assumption) | assumption)
             obtain ⟨ad189, e189, hx189_0, hx189_1⟩ := at_T56 HR1_4.out x75_3 p189 q189
             cases e189
             replace hx189_0 := (HB.out.cell (World.block_lt_of_cell? w _ hx189_0)).trans hx189_0
             replace hx189_1 := (HB.out.cell (World.block_lt_of_cell? w _ hx189_1)).trans hx189_1
             replace p189 := eq_true p189
             replace q189 := eq_true q189
             go_wp2
             repeat (go_quiet (fail); try go_wp2)
             go_roundg k3
             case measure => have := HJ2.out; have := HK2.out; have := HK3.out; omega
             case rel => exact ⟨(wrap64 (x75_3 + 1)), (by first | rfl | (simp; done) | (simp [*]; done)), H', ⟨by have := HJ2.out; have := HK2.out; have := HK3.out; omega⟩, (sK0 BK184), (sK0 BK185), (sB0 HB)⟩
           ·rw [if_neg c48] at H
            exact absurd H (by simp)
          ·rw [if_neg c47] at H
           exact absurd H (by simp)
         ·rw [if_neg c46] at H
          exact absurd H (by simp)
        ·rw [if_neg c45] at H
         have c45b0 : decide (x75_3 < (l0_4.length : Int)) = false := decide_eq_false c45
         clear c45
         have H' := Aside0.mk H
         clear H
         have hnb56 := NB184_185.out
         have hnc56 := NB185_184.out
         obtain ⟨z57_0, z57_1, z57_2, z57_3, z57_4, z57_5, q57_0, q57_1, q57_2, q57_3, q57_4, q57_5⟩ := bk6 BK184
         go_wp2
         repeat (go_quiet (fail); try go_wp2)
         go_loopg [93] k3 (fun kq v93 w' => ∃ (x93_4 : Int), v93 = .int .i64 x93_4 ∧ Aside0 (fuglemanlaw20_same.l2 kq (l0_5.length : Int) x93_4 a0_0 a0_1 a0_2 l0_3 l0_4 l0_5 a1_0 a1_1 a1_2 l1_3 l1_4 l1_5 = some r) ∧ Aside0 (kq ≤ k3) ∧ Aside0 (w'.heap[gb184]? = some (.cells #[.int .i64 a0_0, .int .i64 a0_1, .int .i64 a0_2, (.slice A0_3 l0_3.length c0_3), (.slice A0_4 l0_4.length c0_4), (.slice A0_5 l0_5.length c0_5)] 37 (0, 0))) ∧ Aside0 (w'.heap[gb185]? = some (.cells #[.int .i64 a1_0, .int .i64 a1_1, .int .i64 a1_2, (.slice A1_3 l1_3.length c1_3), (.slice A1_4 l1_4.length c1_4), (.slice A1_5 l1_5.length c1_5)] 37 (0, 0))) ∧ Aside0 (Below w.heap.size w w'))
         case atStart => exact ⟨(0), (by first | rfl | (simp; done) | (simp [*]; done)), H', ⟨Nat.le_refl _⟩, (sK0 BK184), (sK0 BK185), (sB0 HB)⟩
         case round =>
          clear H'
          (try clear c6); (try clear c6b0); (try clear c6b1); (try clear c7); (try clear c7b0); (try clear c7b1); (try clear c8); (try clear c8b0); (try clear c8b1); (try clear c9); (try clear c9b0); (try clear c9b1); (try clear c9b2); (try clear c10); (try clear c10b0); (try clear c10b1); (try clear c10b2); (try clear c29); (try clear c32); (try clear c32b0); (try clear c33); (try clear c33b0); (try clear c34); (try clear c34b0); (try clear c35); (try clear c35b0); (try clear c36); (try clear c36b0); (try clear c45); (try clear c45b0); (try clear c46); (try clear c46b0); (try clear c47); (try clear c47b0); (try clear c48); (try clear c48b0); (try clear c49); (try clear c49b0); (try clear z12_0 z12_1 z12_2 z12_3 z12_4 z12_5 q12_0 q12_1 q12_2 q12_3 q12_4 q12_5); (try clear z13_0 z13_1 z13_2 z13_3 z13_4 z13_5 q13_0 q13_1 q13_2 q13_3 q13_4 q13_5); (try clear z15_0 z15_1 z15_2 z15_3 z15_4 z15_5 q15_0 q15_1 q15_2 q15_3 q15_4 q15_5); (try clear z16_0 z16_1 z16_2 z16_3 z16_4 z16_5 q16_0 q16_1 q16_2 q16_3 q16_4 q16_5); (try clear z18_0 z18_1 z18_2 z18_3 z18_4 z18_5 q18_0 q18_1 q18_2 q18_3 q18_4 q18_5); (try clear z19_0 z19_1 z19_2 z19_3 z19_4 z19_5 q19_0 q19_1 q19_2 q19_3 q19_4 q19_5); (try clear z21_0 z21_1 z21_2 z21_3 z21_4 z21_5 q21_0 q21_1 q21_2 q21_3 q21_4 q21_5); (try clear z22_0 z22_1 z22_2 z22_3 z22_4 z22_5 q22_0 q22_1 q22_2 q22_3 q22_4 q22_5); (try clear z24_0 z24_1 z24_2 z24_3 z24_4 z24_5 q24_0 q24_1 q24_2 q24_3 q24_4 q24_5); (try clear z25_0 z25_1 z25_2 z25_3 z25_4 z25_5 q25_0 q25_1 q25_2 q25_3 q25_4 q25_5); (try clear z27_0 z27_1 z27_2 z27_3 z27_4 z27_5 q27_0 q27_1 q27_2 q27_3 q27_4 q27_5); (try clear z28_0 z28_1 z28_2 z28_3 z28_4 z28_5 q28_0 q28_1 q28_2 q28_3 q28_4 q28_5); (try clear z31_0 z31_1 z31_2 z31_3 z31_4 z31_5 q31_0 q31_1 q31_2 q31_3 q31_4 q31_5); (try clear z38_0 z38_1 z38_2 z38_3 z38_4 z38_5 q38_0 q38_1 q38_2 q38_3 q38_4 q38_5); (try clear z39_0 z39_1 z39_2 z39_3 z39_4 z39_5 q39_0 q39_1 q39_2 q39_3 q39_4 q39_5); (try clear z41_0 z41_1 z41_2 z41_3 z41_4 z41_5 q41_0 q41_1 q41_2 q41_3 q41_4 q41_5); (try clear z42_0 z42_1 z42_2 z42_3 z42_4 z42_5 q42_0 q42_1 q42_2 q42_3 q42_4 q42_5); (try clear z44_0 z44_1 z44_2 z44_3 z44_4 z44_5 q44_0 q44_1 q44_2 q44_3 q44_4 q44_5); (try clear z51_0 z51_1 z51_2 z51_3 z51_4 z51_5 q51_0 q51_1 q51_2 q51_3 q51_4 q51_5); (try clear z52_0 z52_1 z52_2 z52_3 z52_4 z52_5 q52_0 q52_1 q52_2 q52_3 q52_4 q52_5); (try clear z54_0 z54_1 z54_2 z54_3 z54_4 z54_5 q54_0 q54_1 q54_2 q54_3 q54_4 q54_5); (try clear z55_0 z55_1 z55_2 z55_3 z55_4 z55_5 q55_0 q55_1 q55_2 q55_3 q55_4 q55_5); (try clear z57_0 z57_1 z57_2 z57_3 z57_4 z57_5 q57_0 q57_1 q57_2 q57_3 q57_4 q57_5); (try clear hx186_0); (try clear hx186_1); (try clear hx186_2); (try clear hx186_3); (try clear hx186_4); (try clear hx187_0); (try clear hx187_1); (try clear hx187_2); (try clear hx187_3); (try clear hx187_4); (try clear hx188_0); (try clear hx188_1); (try clear hx189_0); (try clear hx189_1); (try clear p186); (try clear p187); (try clear p188); (try clear p189); (try clear q186); (try clear q187); (try clear q188); (try clear q189)
          obtain ⟨x93_4, rfl, HA, HK4, BK184, BK185, HB⟩ := hrel
          cases gk with
          | zero => exact absurd HA.out (by simp [fuglemanlaw20_same.l2])
          | succ k4 =>
           have H := HA.out
           clear HA
           simp only [fuglemanlaw20_same.l2] at H
           by_cases c58 : x93_4 < (l0_5.length : Int)
           ·rw [if_pos c58] at H
            have c58b0 : decide (x93_4 < (l0_5.length : Int)) = true := decide_eq_true c58
            clear c58
            by_cases c59 : 0 ≤ x93_4
            ·rw [if_pos c59] at H
             have c59b0 : decide (0 ≤ x93_4) = true := decide_eq_true c59
             clear c59
             by_cases c60 : x93_4 < (l0_5.length : Int)
             ·rw [if_pos c60] at H
              have c60b0 : decide (x93_4 < (l0_5.length : Int)) = true := decide_eq_true c60
              clear c60
              by_cases c61 : x93_4 < (l1_5.length : Int)
              ·rw [if_pos c61] at H
               have c61b0 : decide (x93_4 < (l1_5.length : Int)) = true := decide_eq_true c61
               clear c61
               by_cases c62 : (!(((rd_T56 l0_5 x93_4).f0) == ((rd_T56 l1_5 x93_4).f0)) || (!(((rd_T56 l0_5 x93_4).f1) == ((rd_T56 l1_5 x93_4).f1)))) = true
               ·rw [if_pos c62] at H
                have c62b0 : (!(((rd_T56 l0_5 x93_4).f0) == ((rd_T56 l1_5 x93_4).f0)) || (!(((rd_T56 l0_5 x93_4).f1) == ((rd_T56 l1_5 x93_4).f1)))) = true := c62
                clear c62
                obtain rfl := Option.some.inj H
                have hnb63 := NB184_185.out
                have hnc63 := NB185_184.out
                obtain ⟨z64_0, z64_1, z64_2, z64_3, z64_4, z64_5, q64_0, q64_1, q64_2, q64_3, q64_4, q64_5⟩ := bk6 BK184
                have p190 : 0 ≤ (x93_4 : Int) := of_decide_eq_true (by first | (with_reducible assumption) | assumption)
                have q190 : x93_4 < (l0_5.length : Int) := of_decide_eq_true (by first | (with_reducible assumption) | assumption)
                obtain ⟨ad190, e190, hx190_0, hx190_1⟩ := at_T56 HR0_5.out x93_4 p190 q190
                cases e190
                replace hx190_0 := (HB.out.cell (World.block_lt_of_cell? w _ hx190_0)).trans hx190_0
                replace hx190_1 := (HB.out.cell (World.block_lt_of_cell? w _ hx190_1)).trans hx190_1
                replace p190 := eq_true p190
                replace q190 := eq_true q190
                obtain ⟨z65_0, z65_1, z65_2, z65_3, z65_4, z65_5, q65_0, q65_1, q65_2, q65_3, q65_4, q65_5⟩ := bk6 BK185
                have p191 : 0 ≤ (x93_4 : Int) := of_decide_eq_true (by first | (with_reducible assumption) | assumption)
                have q191 : x93_4 < (l1_5.length : Int) := of_decide_eq_true (by first | (with_reducible assumption) | assumption)
                obtain ⟨ad191, e191, hx191_0, hx191_1⟩ := at_T56 HR1_5.out x93_4 p191 q191
                cases e191
                replace hx191_0 := (HB.out.cell (World.block_lt_of_cell? w _ hx191_0)).trans hx191_0
                replace hx191_1 := (HB.out.cell (World.block_lt_of_cell? w _ hx191_1)).trans hx191_1
                replace p191 := eq_true p191
                replace q191 := eq_true q191
                go_wp2
                repeat (go_quiet (fail); try go_wp2)
                go_ret
                exact sEnd HB
               ·rw [if_neg c62] at H
                have c62b0 : (!(((rd_T56 l0_5 x93_4).f0) == ((rd_T56 l1_5 x93_4).f0)) || (!(((rd_T56 l0_5 x93_4).f1) == ((rd_T56 l1_5 x93_4).f1)))) = false := by simpa using c62
                clear c62
                have H' := Aside0.mk H
                clear H
                have hnb66 := NB184_185.out
                have hnc66 := NB185_184.out
                obtain ⟨z67_0, z67_1, z67_2, z67_3, z67_4, z67_5, q67_0, q67_1, q67_2, q67_3, q67_4, q67_5⟩ := bk6 BK184
                have p190 : 0 ≤ (x93_4 : Int) := of_decide_eq_true (by first | (with_reducible assumption) | assumption)
                have q190 : x93_4 < (l0_5.length : Int) := of_decide_eq_true (by first | (with_reducible assumption) | assumption)
                obtain ⟨ad190, e190, hx190_0, hx190_1⟩ := at_T56 HR0_5.out x93_4 p190 q190
                cases e190
                replace hx190_0 := (HB.out.cell (World.block_lt_of_cell? w _ hx190_0)).trans hx190_0
                replace hx190_1 := (HB.out.cell (World.block_lt_of_cell? w _ hx190_1)).trans hx190_1
                replace p190 := eq_true p190
                replace q190 := eq_true q190
                obtain ⟨z68_0, z68_1, z68_2, z68_3, z68_4, z68_5, q68_0, q68_1, q68_2, q68_3, q68_4, q68_5⟩ := bk6 BK185
                have p191 : 0 ≤ (x93_4 : Int) := of_decide_eq_true (by first | (with_reducible assumption) | assumption)
                have q191 : x93_4 < (l1_5.length : Int) := of_decide_eq_true (by first | (with_reducible assumption) | assumption)
                obtain ⟨ad191, e191, hx191_0, hx191_1⟩ := at_T56 HR1_5.out x93_4 p191 q191
                cases e191
                replace hx191_0 := (HB.out.cell (World.block_lt_of_cell? w _ hx191_0)).trans hx191_0
                replace hx191_1 := (HB.out.cell (World.block_lt_of_cell? w _ hx191_1)).trans hx191_1
                replace p191 := eq_true p191
                replace q191 := eq_true q191
                go_wp2
                repeat (go_quiet (fail); try go_wp2)
                go_roundg k4
                case measure => have := HJ2.out; have := HK2.out; have := HK3.out; have := HK4.out; omega
                case rel => exact ⟨(wrap64 (x93_4 + 1)), (by first | rfl | (simp; done) | (simp [*]; done)), H', ⟨by have := HJ2.out; have := HK2.out; have := HK3.out; have := HK4.out; omega⟩, (sK0 BK184), (sK0 BK185), (sB0 HB)⟩
              ·rw [if_neg c61] at H
               exact absurd H (by simp)
             ·rw [if_neg c60] at H
              exact absurd H (by simp)
            ·rw [if_neg c59] at H
             exact absurd H (by simp)
           ·rw [if_neg c58] at H
            have c58b0 : decide (x93_4 < (l0_5.length : Int)) = false := decide_eq_false c58
            clear c58
            obtain rfl := Option.some.inj H
            go_wp2
            repeat (go_quiet (fail); try go_wp2)
            go_ret
            exact sEnd HB

end Go.Proofs.Ytedmikeamgebjaa.F
