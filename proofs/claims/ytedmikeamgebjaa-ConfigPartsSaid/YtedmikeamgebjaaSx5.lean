-- Written by a program out of the translation; not trusted: Lean checks it.
import Derived.Test.YtedmikeamgebjaaK
import Derived.Test.YtedmikeamgebjaaSx0
import Derived.Test.YtedmikeamgebjaaSx3
import Derived.Test.YtedmikeamgebjaaSx4
namespace Go.Proofs.Ytedmikeamgebjaa.S
open Go.Proofs.YtedmikeamgebjaaW.PrintK Go.RowKit Go.Proofs.YtedmikeamgebjaaW.PrintWords Go.Proofs.YtedmikeamgebjaaW.PrintLast Go.Proofs.YtedmikeamgebjaaW.PrintMore
attribute [local go_sem] max2_int min2_int max_two min_two max_three min_three max_four min_four   -- for this text's walks alone
set_option linter.unusedVariables false
set_option linter.unusedSimpArgs false

/-! ### fuglemanlaw20_ConfigParts: function 4 -/
def fuglemanlaw20_ConfigParts.j0 : Nat → Int → Bool → Int → Int → Int → Int → Int → Int → List (S63) → List (S37) → Int → Int → Int → Int → Int → Int → List (S63) → List (S37) → Option (Bool)
 | 0, _, _, _, _, _, _, _, _, _, _, _, _, _, _, _, _, _, _ => none
 | k + 1, x1, x61, x181000, x181001, x181002, x181003, x181004, x181005, x181006, x181007, x186000, x186001, x186002, x186003, x186004, x186005, x186006, x186007 => if x61 = true then (some false) else (if (x181007.length : Int) < 2 then (some true) else (if (x181007.length : Int) = 0 then (none) else ((some (([] : List (S37)) : List (S37))).bind fun y188 => (if 0 ≤ (Int.tmod (wrap64 (x1)) (x181007.length : Int)) then (if (Int.tmod (wrap64 (x1)) (x181007.length : Int)) ≤ (x181007.length : Int) then ((some (x181007.take ((Int.tmod (wrap64 (x1)) (x181007.length : Int)) : Int).toNat : List (S37))).bind fun y191 => (if y188.length + y191.length < 1466015503701 then ((some (y188 ++ y191 : List (S37))).bind fun y196 => (if 0 ≤ (wrap64 ((Int.tmod (wrap64 (x1)) (x181007.length : Int)) + 1)) then (if (wrap64 ((Int.tmod (wrap64 (x1)) (x181007.length : Int)) + 1)) ≤ (x181007.length : Int) then ((some (x181007.drop ((wrap64 ((Int.tmod (wrap64 (x1)) (x181007.length : Int)) + 1)) : Int).toNat : List (S37))).bind fun y199 => (if y196.length + y199.length < 1466015503701 then ((config_Check.f k x186000 x186001 x186002 x186003 x186004 x186005 x186006 (y196 ++ y199)).bind fun bt207 => (if bt207.1 = 0 then (some (bt207.2 == 0)) else (some false))) else (none))) else (none)) else (none))) else (none))) else (none)) else (none)))))
def fuglemanlaw20_ConfigParts.f (k : Nat) (a0_0 : Int) (a0_1 : Int) (a0_2 : Int) (a0_3 : Int) (a0_4 : Int) (a0_5 : Int) (l0_6 : List (S63)) (l0_7 : List (S37)) (a1 : Int) (a2 : Int) : Option (Bool) := (fuglemanlaw20_awake.f k).bind fun t181 => (if t181 = true then ((fuglemanlaw20_Small.f k a0_0 a0_1 a0_2 a0_3 a0_4 a0_5 l0_6 l0_7).bind fun t182 => (if t182 = true then ((config_Check.f k a0_0 a0_1 a0_2 a0_3 a0_4 a0_5 l0_6 l0_7).bind fun bt183 => (if bt183.1 = 0 then ((config_Check.f k (wrap64 (4 + (Int.tmod (wrap64 (a2)) 47))) (wrap64 (1 + (wrap64 (a2)))) (wrap64 (1 + (Int.tmod (wrap64 (a2)) 50))) (Int.tmod (wrap64 (a2)) 4) (wrap64 (1 + (wrap64 (a2)))) 31 l0_6 l0_7).bind fun bt186 => (if bt186.1 = 0 then (fuglemanlaw20_ConfigParts.j0 k a1 (bt186.2 != 0) a0_0 a0_1 a0_2 a0_3 a0_4 a0_5 l0_6 l0_7 (wrap64 (4 + (Int.tmod (wrap64 (a2)) 47))) (wrap64 (1 + (wrap64 (a2)))) (wrap64 (1 + (Int.tmod (wrap64 (a2)) 50))) (Int.tmod (wrap64 (a2)) 4) (wrap64 (1 + (wrap64 (a2)))) 31 l0_6 l0_7) else (fuglemanlaw20_ConfigParts.j0 k a1 true a0_0 a0_1 a0_2 a0_3 a0_4 a0_5 l0_6 l0_7 (wrap64 (4 + (Int.tmod (wrap64 (a2)) 47))) (wrap64 (1 + (wrap64 (a2)))) (wrap64 (1 + (Int.tmod (wrap64 (a2)) 50))) (Int.tmod (wrap64 (a2)) 4) (wrap64 (1 + (wrap64 (a2)))) 31 l0_6 l0_7))) else (some true))) else (some true))) else (some false))
theorem fuglemanlaw20_ConfigParts.mono_l : ∀ k, (∀ y0 y1 y2 y3 y4 y5 y6 y7 y8 y9 y10 y11 y12 y13 y14 y15 y16 y17, LeO (fuglemanlaw20_ConfigParts.j0 k y0 y1 y2 y3 y4 y5 y6 y7 y8 y9 y10 y11 y12 y13 y14 y15 y16 y17) (fuglemanlaw20_ConfigParts.j0 (k + 1) y0 y1 y2 y3 y4 y5 y6 y7 y8 y9 y10 y11 y12 y13 y14 y15 y16 y17))
 | 0 => fun _ _ _ _ _ _ _ _ _ _ _ _ _ _ _ _ _ _ r h => by simp [fuglemanlaw20_ConfigParts.j0] at h
 | k + 1 => by
  have ih0 := fuglemanlaw20_ConfigParts.mono_l k
  ·intro y0 y1 y2 y3 y4 y5 y6 y7 y8 y9 y10 y11 y12 y13 y14 y15 y16 y17
   unfold fuglemanlaw20_ConfigParts.j0
   repeat' first
   | (with_reducible exact ih0 _ _ _ _ _ _ _ _ _ _ _ _ _ _ _ _ _ _)
   | (with_reducible exact config_Check.mono _ _ _ _ _ _ _ _ _)
   | (with_reducible exact fuglemanlaw20_Small.mono _ _ _ _ _ _ _ _ _)
   | (with_reducible exact fuglemanlaw20_awake.mono _)
   | (with_reducible exact LeO.refl _)
   | (with_reducible exact LeO.none _)
   | (with_reducible refine LeO.ite ?_ ?_)
   | (with_reducible refine LeO.bind ?_ (fun _ => ?_))
   | exact ih0 _ _ _ _ _ _ _ _ _ _ _ _ _ _ _ _ _ _
   | exact config_Check.mono _ _ _ _ _ _ _ _ _
   | exact fuglemanlaw20_Small.mono _ _ _ _ _ _ _ _ _
   | exact fuglemanlaw20_awake.mono _
   | exact LeO.none _
   | refine LeO.ite ?_ ?_
   | refine LeO.bind ?_ (fun _ => ?_)
theorem fuglemanlaw20_ConfigParts.mono : ∀ a0 a1 a2 a3 a4 a5 a6 a7 a8 a9 k, LeO (fuglemanlaw20_ConfigParts.f k a0 a1 a2 a3 a4 a5 a6 a7 a8 a9) (fuglemanlaw20_ConfigParts.f (k + 1) a0 a1 a2 a3 a4 a5 a6 a7 a8 a9) := by
 intro a0 a1 a2 a3 a4 a5 a6 a7 a8 a9 k
 have ih0 := fuglemanlaw20_ConfigParts.mono_l k
 unfold fuglemanlaw20_ConfigParts.f
 repeat' first
   | (with_reducible exact ih0 _ _ _ _ _ _ _ _ _ _ _ _ _ _ _ _ _ _)
   | (with_reducible exact config_Check.mono _ _ _ _ _ _ _ _ _)
   | (with_reducible exact fuglemanlaw20_Small.mono _ _ _ _ _ _ _ _ _)
   | (with_reducible exact fuglemanlaw20_awake.mono _)
   | (with_reducible exact LeO.refl _)
   | (with_reducible exact LeO.none _)
   | (with_reducible refine LeO.ite ?_ ?_)
   | (with_reducible refine LeO.bind ?_ (fun _ => ?_))
   | exact ih0 _ _ _ _ _ _ _ _ _ _ _ _ _ _ _ _ _ _
   | exact config_Check.mono _ _ _ _ _ _ _ _ _
   | exact fuglemanlaw20_Small.mono _ _ _ _ _ _ _ _ _
   | exact fuglemanlaw20_awake.mono _
   | exact LeO.none _
   | refine LeO.ite ?_ ?_
   | refine LeO.bind ?_ (fun _ => ?_)
def fuglemanlaw20_ConfigParts.T16 : Bool × List (List Nat × List Nat) := (true, [([], []), ([], []), ([1], [1]), ([], []), ([2, 3], [2, 3]), ([0, 4], [0, 4]), ([], []), ([6], [6]), ([], []), ([8], [8]), ([7, 9], [7, 9]), ([5, 10, 5], [5, 10]), ([0, 1, 2, 3, 4, 5, 6, 7, 8, 9, 10, 11], []), ([12, 11, 11, 0, 1, 2, 3, 4, 5, 6, 7, 8, 9, 10, 11], [11, 12])])
def fuglemanlaw20_ConfigParts.B16 : List Nat := [0, 0, 2, 0, 14, 31, 0, 64, 0, 256, 960, 2047, 4095, 8191]
theorem fuglemanlaw20_ConfigParts.tab16 : rtab .any (opsOf Try.f4 16) = fuglemanlaw20_ConfigParts.T16 := by kernel_rfl
theorem fuglemanlaw20_ConfigParts.bits16 : waitsOk fuglemanlaw20_ConfigParts.T16.2 fuglemanlaw20_ConfigParts.B16 = true := by kernel_rfl
set_option maxHeartbeats 8000000 in
set_option maxRecDepth 100000 in
theorem fuglemanlaw20_ConfigParts.calls (k : Nat) (a0_0 : Int) (a0_1 : Int) (a0_2 : Int) (a0_3 : Int) (a0_4 : Int) (a0_5 : Int) (A0_6 : Option Addr) (c0_6 : Nat) (l0_6 : List (S63)) (P0_7_ : Nat → Prop) (A0_7 : Option Addr) (c0_7 : Nat) (l0_7 : List (S37)) (a1 : Int) (a2 : Int) (r : Bool) (w : World) (hr0_6 : Kd.C k63 w A0_6 l0_6.length l0_6) (hc0_6 : l0_6.length ≤ c0_6) (hs0_7 : Kd.V k37 37 w w.heap.size (fun k_ => P0_7_ k_) (.slice A0_7 l0_7.length c0_7) l0_7) (h : fuglemanlaw20_ConfigParts.f k a0_0 a0_1 a0_2 a0_3 a0_4 a0_5 l0_6 l0_7 a1 a2 = some r) :
  Calls Try.prog 4 #[.agg #[.int .i64 a0_0, .int .i64 a0_1, .int .i64 a0_2, .int .i64 a0_3, .int .i64 a0_4, .int .i64 a0_5, .slice A0_6 l0_6.length c0_6, .slice A0_7 l0_7.length c0_7], .int .u8 a1, .int .u8 a2] w fun e w' => e = .returned (.bool r) ∧ Below w.heap.size w w' := by
 have hu25 := Try.underlying25
 have HR0_6 := Aside0.mk hr0_6
 have HC0_6 := Aside0.mk hc0_6
 clear hr0_6 hc0_6
 have HO0_7 := Aside0.mk (show Kd.V k37 37 w w.heap.size (fun k_ => (P0_7_ k_ ∨ w.heap.size ≤ k_)) (.slice A0_7 l0_7.length c0_7) l0_7 from Kd.V_mono hs0_7 (fun k_ hk => .inl hk))
 have HB := Aside0.mk (Below.refl w.heap.size w)
 have H : ((fuglemanlaw20_awake.f k).bind fun t181 => (if t181 = true then ((fuglemanlaw20_Small.f k a0_0 a0_1 a0_2 a0_3 a0_4 a0_5 l0_6 l0_7).bind fun t182 => (if t182 = true then ((config_Check.f k a0_0 a0_1 a0_2 a0_3 a0_4 a0_5 l0_6 l0_7).bind fun bt183 => (if bt183.1 = 0 then ((config_Check.f k (wrap64 (4 + (Int.tmod (wrap64 (a2)) 47))) (wrap64 (1 + (wrap64 (a2)))) (wrap64 (1 + (Int.tmod (wrap64 (a2)) 50))) (Int.tmod (wrap64 (a2)) 4) (wrap64 (1 + (wrap64 (a2)))) 31 l0_6 l0_7).bind fun bt186 => (if bt186.1 = 0 then (fuglemanlaw20_ConfigParts.j0 k a1 (bt186.2 != 0) a0_0 a0_1 a0_2 a0_3 a0_4 a0_5 l0_6 l0_7 (wrap64 (4 + (Int.tmod (wrap64 (a2)) 47))) (wrap64 (1 + (wrap64 (a2)))) (wrap64 (1 + (Int.tmod (wrap64 (a2)) 50))) (Int.tmod (wrap64 (a2)) 4) (wrap64 (1 + (wrap64 (a2)))) 31 l0_6 l0_7) else (fuglemanlaw20_ConfigParts.j0 k a1 true a0_0 a0_1 a0_2 a0_3 a0_4 a0_5 l0_6 l0_7 (wrap64 (4 + (Int.tmod (wrap64 (a2)) 47))) (wrap64 (1 + (wrap64 (a2)))) (wrap64 (1 + (Int.tmod (wrap64 (a2)) 50))) (Int.tmod (wrap64 (a2)) 4) (wrap64 (1 + (wrap64 (a2)))) 31 l0_6 l0_7))) else (some true))) else (some true))) else (some false))) = some r := h
 clear h
 replace H := Option.bind_eq_some_iff.mp H
 obtain ⟨t181, A40, H⟩ := H
 replace H : (if t181 = true then ((fuglemanlaw20_Small.f k a0_0 a0_1 a0_2 a0_3 a0_4 a0_5 l0_6 l0_7).bind fun t182 => (if t182 = true then ((config_Check.f k a0_0 a0_1 a0_2 a0_3 a0_4 a0_5 l0_6 l0_7).bind fun bt183 => (if bt183.1 = 0 then ((config_Check.f k (wrap64 (4 + (Int.tmod (wrap64 (a2)) 47))) (wrap64 (1 + (wrap64 (a2)))) (wrap64 (1 + (Int.tmod (wrap64 (a2)) 50))) (Int.tmod (wrap64 (a2)) 4) (wrap64 (1 + (wrap64 (a2)))) 31 l0_6 l0_7).bind fun bt186 => (if bt186.1 = 0 then (fuglemanlaw20_ConfigParts.j0 k a1 (bt186.2 != 0) a0_0 a0_1 a0_2 a0_3 a0_4 a0_5 l0_6 l0_7 (wrap64 (4 + (Int.tmod (wrap64 (a2)) 47))) (wrap64 (1 + (wrap64 (a2)))) (wrap64 (1 + (Int.tmod (wrap64 (a2)) 50))) (Int.tmod (wrap64 (a2)) 4) (wrap64 (1 + (wrap64 (a2)))) 31 l0_6 l0_7) else (fuglemanlaw20_ConfigParts.j0 k a1 true a0_0 a0_1 a0_2 a0_3 a0_4 a0_5 l0_6 l0_7 (wrap64 (4 + (Int.tmod (wrap64 (a2)) 47))) (wrap64 (1 + (wrap64 (a2)))) (wrap64 (1 + (Int.tmod (wrap64 (a2)) 50))) (Int.tmod (wrap64 (a2)) 4) (wrap64 (1 + (wrap64 (a2)))) 31 l0_6 l0_7))) else (some true))) else (some true))) else (some false)) = some r := H
 have A4 := Aside0.mk A40
 clear A40
 by_cases c5 : t181 = true
 ·subst c5
  have H1 : ((fuglemanlaw20_Small.f k a0_0 a0_1 a0_2 a0_3 a0_4 a0_5 l0_6 l0_7).bind fun t182 => (if t182 = true then ((config_Check.f k a0_0 a0_1 a0_2 a0_3 a0_4 a0_5 l0_6 l0_7).bind fun bt183 => (if bt183.1 = 0 then ((config_Check.f k (wrap64 (4 + (Int.tmod (wrap64 (a2)) 47))) (wrap64 (1 + (wrap64 (a2)))) (wrap64 (1 + (Int.tmod (wrap64 (a2)) 50))) (Int.tmod (wrap64 (a2)) 4) (wrap64 (1 + (wrap64 (a2)))) 31 l0_6 l0_7).bind fun bt186 => (if bt186.1 = 0 then (fuglemanlaw20_ConfigParts.j0 k a1 (bt186.2 != 0) a0_0 a0_1 a0_2 a0_3 a0_4 a0_5 l0_6 l0_7 (wrap64 (4 + (Int.tmod (wrap64 (a2)) 47))) (wrap64 (1 + (wrap64 (a2)))) (wrap64 (1 + (Int.tmod (wrap64 (a2)) 50))) (Int.tmod (wrap64 (a2)) 4) (wrap64 (1 + (wrap64 (a2)))) 31 l0_6 l0_7) else (fuglemanlaw20_ConfigParts.j0 k a1 true a0_0 a0_1 a0_2 a0_3 a0_4 a0_5 l0_6 l0_7 (wrap64 (4 + (Int.tmod (wrap64 (a2)) 47))) (wrap64 (1 + (wrap64 (a2)))) (wrap64 (1 + (Int.tmod (wrap64 (a2)) 50))) (Int.tmod (wrap64 (a2)) 4) (wrap64 (1 + (wrap64 (a2)))) 31 l0_6 l0_7))) else (some true))) else (some true))) = some r := by rw [if_pos rfl] at H; exact H
  clear H
  have H := H1
  clear H1
  replace H := Option.bind_eq_some_iff.mp H
  obtain ⟨t182, A60, H⟩ := H
  replace H : (if t182 = true then ((config_Check.f k a0_0 a0_1 a0_2 a0_3 a0_4 a0_5 l0_6 l0_7).bind fun bt183 => (if bt183.1 = 0 then ((config_Check.f k (wrap64 (4 + (Int.tmod (wrap64 (a2)) 47))) (wrap64 (1 + (wrap64 (a2)))) (wrap64 (1 + (Int.tmod (wrap64 (a2)) 50))) (Int.tmod (wrap64 (a2)) 4) (wrap64 (1 + (wrap64 (a2)))) 31 l0_6 l0_7).bind fun bt186 => (if bt186.1 = 0 then (fuglemanlaw20_ConfigParts.j0 k a1 (bt186.2 != 0) a0_0 a0_1 a0_2 a0_3 a0_4 a0_5 l0_6 l0_7 (wrap64 (4 + (Int.tmod (wrap64 (a2)) 47))) (wrap64 (1 + (wrap64 (a2)))) (wrap64 (1 + (Int.tmod (wrap64 (a2)) 50))) (Int.tmod (wrap64 (a2)) 4) (wrap64 (1 + (wrap64 (a2)))) 31 l0_6 l0_7) else (fuglemanlaw20_ConfigParts.j0 k a1 true a0_0 a0_1 a0_2 a0_3 a0_4 a0_5 l0_6 l0_7 (wrap64 (4 + (Int.tmod (wrap64 (a2)) 47))) (wrap64 (1 + (wrap64 (a2)))) (wrap64 (1 + (Int.tmod (wrap64 (a2)) 50))) (Int.tmod (wrap64 (a2)) 4) (wrap64 (1 + (wrap64 (a2)))) 31 l0_6 l0_7))) else (some true))) else (some true)) = some r := H
  have A6 := Aside0.mk A60
  clear A60
  by_cases c7 : t182 = true
  ·subst c7
   have H1 : ((config_Check.f k a0_0 a0_1 a0_2 a0_3 a0_4 a0_5 l0_6 l0_7).bind fun bt183 => (if bt183.1 = 0 then ((config_Check.f k (wrap64 (4 + (Int.tmod (wrap64 (a2)) 47))) (wrap64 (1 + (wrap64 (a2)))) (wrap64 (1 + (Int.tmod (wrap64 (a2)) 50))) (Int.tmod (wrap64 (a2)) 4) (wrap64 (1 + (wrap64 (a2)))) 31 l0_6 l0_7).bind fun bt186 => (if bt186.1 = 0 then (fuglemanlaw20_ConfigParts.j0 k a1 (bt186.2 != 0) a0_0 a0_1 a0_2 a0_3 a0_4 a0_5 l0_6 l0_7 (wrap64 (4 + (Int.tmod (wrap64 (a2)) 47))) (wrap64 (1 + (wrap64 (a2)))) (wrap64 (1 + (Int.tmod (wrap64 (a2)) 50))) (Int.tmod (wrap64 (a2)) 4) (wrap64 (1 + (wrap64 (a2)))) 31 l0_6 l0_7) else (fuglemanlaw20_ConfigParts.j0 k a1 true a0_0 a0_1 a0_2 a0_3 a0_4 a0_5 l0_6 l0_7 (wrap64 (4 + (Int.tmod (wrap64 (a2)) 47))) (wrap64 (1 + (wrap64 (a2)))) (wrap64 (1 + (Int.tmod (wrap64 (a2)) 50))) (Int.tmod (wrap64 (a2)) 4) (wrap64 (1 + (wrap64 (a2)))) 31 l0_6 l0_7))) else (some true))) = some r := by rw [if_pos rfl] at H; exact H
   clear H
   have H := H1
   clear H1
   replace H := Option.bind_eq_some_iff.mp H
   obtain ⟨⟨t183, t184⟩, A80, H⟩ := H
   replace H : (if t183 = 0 then ((config_Check.f k (wrap64 (4 + (Int.tmod (wrap64 (a2)) 47))) (wrap64 (1 + (wrap64 (a2)))) (wrap64 (1 + (Int.tmod (wrap64 (a2)) 50))) (Int.tmod (wrap64 (a2)) 4) (wrap64 (1 + (wrap64 (a2)))) 31 l0_6 l0_7).bind fun bt186 => (if bt186.1 = 0 then (fuglemanlaw20_ConfigParts.j0 k a1 (bt186.2 != 0) a0_0 a0_1 a0_2 a0_3 a0_4 a0_5 l0_6 l0_7 (wrap64 (4 + (Int.tmod (wrap64 (a2)) 47))) (wrap64 (1 + (wrap64 (a2)))) (wrap64 (1 + (Int.tmod (wrap64 (a2)) 50))) (Int.tmod (wrap64 (a2)) 4) (wrap64 (1 + (wrap64 (a2)))) 31 l0_6 l0_7) else (fuglemanlaw20_ConfigParts.j0 k a1 true a0_0 a0_1 a0_2 a0_3 a0_4 a0_5 l0_6 l0_7 (wrap64 (4 + (Int.tmod (wrap64 (a2)) 47))) (wrap64 (1 + (wrap64 (a2)))) (wrap64 (1 + (Int.tmod (wrap64 (a2)) 50))) (Int.tmod (wrap64 (a2)) 4) (wrap64 (1 + (wrap64 (a2)))) 31 l0_6 l0_7))) else (some true)) = some r := H
   have A8 := Aside0.mk A80
   clear A80
   by_cases c9 : t183 = 0
   ·rw [if_pos c9] at H
    have c9b0 : (t183 == 0) = true := beq_iff_eq.mpr c9
    have c9b1 : (t183 != 0) = false := bne_eq_false_iff_eq.mpr c9
    clear c9
    replace H := Option.bind_eq_some_iff.mp H
    obtain ⟨⟨t186, t187⟩, A100, H⟩ := H
    replace H : (if t186 = 0 then (fuglemanlaw20_ConfigParts.j0 k a1 (t187 != 0) a0_0 a0_1 a0_2 a0_3 a0_4 a0_5 l0_6 l0_7 (wrap64 (4 + (Int.tmod (wrap64 (a2)) 47))) (wrap64 (1 + (wrap64 (a2)))) (wrap64 (1 + (Int.tmod (wrap64 (a2)) 50))) (Int.tmod (wrap64 (a2)) 4) (wrap64 (1 + (wrap64 (a2)))) 31 l0_6 l0_7) else (fuglemanlaw20_ConfigParts.j0 k a1 true a0_0 a0_1 a0_2 a0_3 a0_4 a0_5 l0_6 l0_7 (wrap64 (4 + (Int.tmod (wrap64 (a2)) 47))) (wrap64 (1 + (wrap64 (a2)))) (wrap64 (1 + (Int.tmod (wrap64 (a2)) 50))) (Int.tmod (wrap64 (a2)) 4) (wrap64 (1 + (wrap64 (a2)))) 31 l0_6 l0_7)) = some r := H
    have A10 := Aside0.mk A100
    clear A100
    have HC11 := Aside0.mk H
    clear H
    go_enter Try.func4, Try.ntmps4
    go_upto_region 10 with (first | ((with_reducible refine gate_dst (N := 3) rfl ?_); refine boxK (N := 3) (#[.int .i64 a0_0, .int .i64 a0_1, .int .i64 a0_2, .int .i64 a0_3, .int .i64 a0_4, .int .i64 a0_5, .slice A0_6 l0_6.length c0_6, .slice A0_7 l0_7.length c0_7]) 25 ?_; intro gb180 hg w12 hbox hb; replace HO0_7 := sVe HO0_7 gb180 hg hb; have BK180 := Aside0.mk (hbox); have GW180 := sG hg HB; have GE180 := sG hg HB; replace HB := sB HB hb; clear hb hbox hg) | ((with_reducible refine gate_callee (f := 6) rfl ?_); refine goesK (some 15) Try.func6 #[] ?_; (with_reducible refine (fuglemanlaw20_awake.calls k  true _ A4.out).mono ?_); rintro e w13 ⟨rfl, hb⟩; refine ⟨_, rfl, ?_⟩; replace HO0_7 := sV HO0_7 hb; replace BK180 := sK BK180 hb; replace HB := sB HB hb; (try clear hb); obtain ⟨z14_0, z14_1, z14_2, z14_3, z14_4, z14_5, z14_6, z14_7, q14_0, q14_1, q14_2, q14_3, q14_4, q14_5, q14_6, q14_7⟩ := bk8 BK180) | ((with_reducible refine gate_callee (f := 7) rfl ?_); refine goesK (some 18) Try.func7 #[.agg #[.int .i64 a0_0, .int .i64 a0_1, .int .i64 a0_2, .int .i64 a0_3, .int .i64 a0_4, .int .i64 a0_5, .slice A0_6 l0_6.length c0_6, .slice A0_7 l0_7.length c0_7]] ?_; (with_reducible refine (fuglemanlaw20_Small.calls k a0_0 a0_1 a0_2 a0_3 a0_4 a0_5 _ _ l0_6 _ _ l0_7 true _ ?side1 ?side2 ?side3 ?side4 A6.out).mono ?_); (case side1 => exact sC HR0_6 HB); (case side2 => exact HC0_6.out); (case side3 => repeat (first | exact (Kd.V_reads' HO0_7.out).2.2 | (with_reducible refine Kd.C_alloc ?_ _) | (with_reducible refine Kd.C_drewN ?_ _) | (with_reducible refine Kd.C_drew ?_))); (case side4 => exact (Kd.V_reads' HO0_7.out).2.1); rintro e w15 ⟨rfl, hb⟩; refine ⟨_, rfl, ?_⟩; replace HO0_7 := sV HO0_7 hb; replace BK180 := sK BK180 hb; replace HB := sB HB hb; (try clear hb); obtain ⟨z16_0, z16_1, z16_2, z16_3, z16_4, z16_5, z16_6, z16_7, q16_0, q16_1, q16_2, q16_3, q16_4, q16_5, q16_6, q16_7⟩ := bk8 BK180) | ((with_reducible refine gate_callee (f := 8) rfl ?_); refine goesK (some 22) Try.func8 #[.agg #[.int .i64 a0_0, .int .i64 a0_1, .int .i64 a0_2, .int .i64 a0_3, .int .i64 a0_4, .int .i64 a0_5, .slice A0_6 l0_6.length c0_6, .slice A0_7 l0_7.length c0_7]] ?_; (with_reducible refine (config_Check.calls k a0_0 a0_1 a0_2 a0_3 a0_4 a0_5 _ _ l0_6 _ _ l0_7 t183 t184 _ ?side1 ?side2 ?side3 ?side4 A8.out).mono ?_); (case side1 => exact sC HR0_6 HB); (case side2 => exact HC0_6.out); (case side3 => repeat (first | exact (Kd.V_reads' HO0_7.out).2.2 | (with_reducible refine Kd.C_alloc ?_ _) | (with_reducible refine Kd.C_drewN ?_ _) | (with_reducible refine Kd.C_drew ?_))); (case side4 => exact (Kd.V_reads' HO0_7.out).2.1); rintro e w17 ⟨rfl, hb⟩; refine ⟨_, rfl, ?_⟩; replace HO0_7 := sV HO0_7 hb; replace BK180 := sK BK180 hb; replace HB := sB HB hb; (try clear hb); obtain ⟨z18_0, z18_1, z18_2, z18_3, z18_4, z18_5, z18_6, z18_7, q18_0, q18_1, q18_2, q18_3, q18_4, q18_5, q18_6, q18_7⟩ := bk8 BK180) | ((with_reducible refine gate_dst (N := 9) rfl ?_); refine boxK (N := 9) (#[.int .i64 0, .int .i64 0, .int .i64 0, .int .i64 0, .int .i64 0, .int .i64 0, .slice none 0 0, .slice none 0 0]) 25 ?_; intro gb185 hg w19 hbox hb; replace HO0_7 := sVe HO0_7 gb185 hg hb; have BK185 := Aside0.mk (hbox); have GW185 := sG hg HB; have GE185 := sG hg HB; replace HB := sB HB hb; have NB180_185 := sNl hg BK180; have NB185_180 := sNg hg BK180; replace BK180 := sK BK180 hb; clear hb hbox hg; have hnb20 := NB185_180.out; have hnc20 := NB180_185.out; obtain ⟨z21_0, z21_1, z21_2, z21_3, z21_4, z21_5, z21_6, z21_7, q21_0, q21_1, q21_2, q21_3, q21_4, q21_5, q21_6, q21_7⟩ := bk8 BK185))
    obtain ⟨W, hW⟩ : ∃ W : World, Aside0 (W = ((((((((((((((w19.setCell ⟨gb185, 0, none⟩ (.int .i64 a0_0)).setCell ⟨gb185, 1, none⟩ (.int .i64 a0_1)).setCell ⟨gb185, 2, none⟩ (.int .i64 a0_2)).setCell ⟨gb185, 3, none⟩ (.int .i64 a0_3)).setCell ⟨gb185, 4, none⟩ (.int .i64 a0_4)).setCell ⟨gb185, 5, none⟩ (.int .i64 a0_5)).setCell ⟨gb185, 6, none⟩ (.slice A0_6 l0_6.length c0_6)).setCell ⟨gb185, 7, none⟩ (.slice A0_7 l0_7.length c0_7)).setCell ⟨gb185, 0, none⟩ (.int .i64 (wrap64 (4 + (Int.tmod (wrap64 (a2)) 47))))).setCell ⟨gb185, 1, none⟩ (.int .i64 (wrap64 (1 + (wrap64 (a2)))))).setCell ⟨gb185, 2, none⟩ (.int .i64 (wrap64 (1 + (Int.tmod (wrap64 (a2)) 50))))).setCell ⟨gb185, 3, none⟩ (.int .i64 (Int.tmod (wrap64 (a2)) 4))).setCell ⟨gb185, 4, none⟩ (.int .i64 (wrap64 (1 + (wrap64 (a2)))))).setCell ⟨gb185, 5, none⟩ (.int .i64 31))) := ⟨_, Aside0.mk rfl⟩
    rw [← hW.out]
    have kW : W.heap[gb185]? = some (.cells #[.int .i64 (wrap64 (4 + (Int.tmod (wrap64 (a2)) 47))), .int .i64 (wrap64 (1 + (wrap64 (a2)))), .int .i64 (wrap64 (1 + (Int.tmod (wrap64 (a2)) 50))), .int .i64 (Int.tmod (wrap64 (a2)) 4), .int .i64 (wrap64 (1 + (wrap64 (a2)))), .int .i64 31, .slice A0_6 l0_6.length c0_6, .slice A0_7 l0_7.length c0_7] 25 (0, 0)) := by rw [hW.out]; exact (blk_put (cs := #[.int .i64 (wrap64 (4 + (Int.tmod (wrap64 (a2)) 47))), .int .i64 (wrap64 (1 + (wrap64 (a2)))), .int .i64 (wrap64 (1 + (Int.tmod (wrap64 (a2)) 50))), .int .i64 (Int.tmod (wrap64 (a2)) 4), .int .i64 (wrap64 (1 + (wrap64 (a2)))), .int .i64 a0_5, .slice A0_6 l0_6.length c0_6, .slice A0_7 l0_7.length c0_7]) (blk_put (cs := #[.int .i64 (wrap64 (4 + (Int.tmod (wrap64 (a2)) 47))), .int .i64 (wrap64 (1 + (wrap64 (a2)))), .int .i64 (wrap64 (1 + (Int.tmod (wrap64 (a2)) 50))), .int .i64 (Int.tmod (wrap64 (a2)) 4), .int .i64 a0_4, .int .i64 a0_5, .slice A0_6 l0_6.length c0_6, .slice A0_7 l0_7.length c0_7]) (blk_put (cs := #[.int .i64 (wrap64 (4 + (Int.tmod (wrap64 (a2)) 47))), .int .i64 (wrap64 (1 + (wrap64 (a2)))), .int .i64 (wrap64 (1 + (Int.tmod (wrap64 (a2)) 50))), .int .i64 a0_3, .int .i64 a0_4, .int .i64 a0_5, .slice A0_6 l0_6.length c0_6, .slice A0_7 l0_7.length c0_7]) (blk_put (cs := #[.int .i64 (wrap64 (4 + (Int.tmod (wrap64 (a2)) 47))), .int .i64 (wrap64 (1 + (wrap64 (a2)))), .int .i64 a0_2, .int .i64 a0_3, .int .i64 a0_4, .int .i64 a0_5, .slice A0_6 l0_6.length c0_6, .slice A0_7 l0_7.length c0_7]) (blk_put (cs := #[.int .i64 (wrap64 (4 + (Int.tmod (wrap64 (a2)) 47))), .int .i64 a0_1, .int .i64 a0_2, .int .i64 a0_3, .int .i64 a0_4, .int .i64 a0_5, .slice A0_6 l0_6.length c0_6, .slice A0_7 l0_7.length c0_7]) (blk_put (cs := #[.int .i64 a0_0, .int .i64 a0_1, .int .i64 a0_2, .int .i64 a0_3, .int .i64 a0_4, .int .i64 a0_5, .slice A0_6 l0_6.length c0_6, .slice A0_7 l0_7.length c0_7]) (blk_put (cs := #[.int .i64 a0_0, .int .i64 a0_1, .int .i64 a0_2, .int .i64 a0_3, .int .i64 a0_4, .int .i64 a0_5, .slice A0_6 l0_6.length c0_6, .slice none 0 0]) (blk_put (cs := #[.int .i64 a0_0, .int .i64 a0_1, .int .i64 a0_2, .int .i64 a0_3, .int .i64 a0_4, .int .i64 a0_5, .slice none 0 0, .slice none 0 0]) (blk_put (cs := #[.int .i64 a0_0, .int .i64 a0_1, .int .i64 a0_2, .int .i64 a0_3, .int .i64 a0_4, .int .i64 0, .slice none 0 0, .slice none 0 0]) (blk_put (cs := #[.int .i64 a0_0, .int .i64 a0_1, .int .i64 a0_2, .int .i64 a0_3, .int .i64 0, .int .i64 0, .slice none 0 0, .slice none 0 0]) (blk_put (cs := #[.int .i64 a0_0, .int .i64 a0_1, .int .i64 a0_2, .int .i64 0, .int .i64 0, .int .i64 0, .slice none 0 0, .slice none 0 0]) (blk_put (cs := #[.int .i64 a0_0, .int .i64 a0_1, .int .i64 0, .int .i64 0, .int .i64 0, .int .i64 0, .slice none 0 0, .slice none 0 0]) (blk_put (cs := #[.int .i64 a0_0, .int .i64 0, .int .i64 0, .int .i64 0, .int .i64 0, .int .i64 0, .slice none 0 0, .slice none 0 0]) (blk_put (cs := #[.int .i64 0, .int .i64 0, .int .i64 0, .int .i64 0, .int .i64 0, .int .i64 0, .slice none 0 0, .slice none 0 0]) BK185.out 0 _ rfl) 1 _ rfl) 2 _ rfl) 3 _ rfl) 4 _ rfl) 5 _ rfl) 6 _ rfl) 7 _ rfl) 0 _ rfl) 1 _ rfl) 2 _ rfl) 3 _ rfl) 4 _ rfl) 5 _ rfl)
    have kV : Kd.V k37 37 W w.heap.size (fun k_ => ((P0_7_ k_ ∨ w.heap.size ≤ k_) ∧ k_ ≠ gb180) ∧ k_ ≠ gb185) (.slice A0_7 l0_7.length c0_7) l0_7 := by rw [hW.out]; exact (Kd.V_mono (Kd.V_far (p := ⟨gb185, 5, none⟩) (Kd.V_far (p := ⟨gb185, 4, none⟩) (Kd.V_far (p := ⟨gb185, 3, none⟩) (Kd.V_far (p := ⟨gb185, 2, none⟩) (Kd.V_far (p := ⟨gb185, 1, none⟩) (Kd.V_far (p := ⟨gb185, 0, none⟩) (Kd.V_far (p := ⟨gb185, 7, none⟩) (Kd.V_far (p := ⟨gb185, 6, none⟩) (Kd.V_far (p := ⟨gb185, 5, none⟩) (Kd.V_far (p := ⟨gb185, 4, none⟩) (Kd.V_far (p := ⟨gb185, 3, none⟩) (Kd.V_far (p := ⟨gb185, 2, none⟩) (Kd.V_far (p := ⟨gb185, 1, none⟩) (Kd.V_far (p := ⟨gb185, 0, none⟩) (Kd.V_mono HO0_7.out (fun k_ hk => (⟨hk, hk.2⟩ : _ ∧ k_ ≠ gb185))) (fun _ hk => hk.2) (.int .i64 a0_0)) (fun _ hk => hk.2) (.int .i64 a0_1)) (fun _ hk => hk.2) (.int .i64 a0_2)) (fun _ hk => hk.2) (.int .i64 a0_3)) (fun _ hk => hk.2) (.int .i64 a0_4)) (fun _ hk => hk.2) (.int .i64 a0_5)) (fun _ hk => hk.2) (.slice A0_6 l0_6.length c0_6)) (fun _ hk => hk.2) (.slice A0_7 l0_7.length c0_7)) (fun _ hk => hk.2) (.int .i64 (wrap64 (4 + (Int.tmod (wrap64 (a2)) 47))))) (fun _ hk => hk.2) (.int .i64 (wrap64 (1 + (wrap64 (a2)))))) (fun _ hk => hk.2) (.int .i64 (wrap64 (1 + (Int.tmod (wrap64 (a2)) 50))))) (fun _ hk => hk.2) (.int .i64 (Int.tmod (wrap64 (a2)) 4))) (fun _ hk => hk.2) (.int .i64 (wrap64 (1 + (wrap64 (a2)))))) (fun _ hk => hk.2) (.int .i64 31)) (fun _ h_ => h_.1))
    have k0 : W.heap[gb180]? = some (.cells #[.int .i64 a0_0, .int .i64 a0_1, .int .i64 a0_2, .int .i64 a0_3, .int .i64 a0_4, .int .i64 a0_5, .slice A0_6 l0_6.length c0_6, .slice A0_7 l0_7.length c0_7] 25 (0, 0)) := by rw [hW.out]; exact (blk_far (blk_far (blk_far (blk_far (blk_far (blk_far (blk_far (blk_far (blk_far (blk_far (blk_far (blk_far (blk_far (blk_far BK180.out NB180_185.out _) NB180_185.out _) NB180_185.out _) NB180_185.out _) NB180_185.out _) NB180_185.out _) NB180_185.out _) NB180_185.out _) NB180_185.out _) NB180_185.out _) NB180_185.out _) NB180_185.out _) NB180_185.out _) NB180_185.out _)
    have kB : Below w.heap.size w W := by rw [hW.out]; exact (below_set (below_set (below_set (below_set (below_set (below_set (below_set (below_set (below_set (below_set (below_set (below_set (below_set (below_set HB.out GE185.out) GE185.out) GE185.out) GE185.out) GE185.out) GE185.out) GE185.out) GE185.out) GE185.out) GE185.out) GE185.out) GE185.out) GE185.out) GE185.out)
    clear HO0_7 BK180 BK185 HB hW z14_0 z14_1 z14_2 z14_3 z14_4 z14_5 z14_6 z14_7 z16_0 z16_1 z16_2 z16_3 z16_4 z16_5 z16_6 z16_7 z18_0 z18_1 z18_2 z18_3 z18_4 z18_5 z18_6 z18_7 z21_0 z21_1 z21_2 z21_3 z21_4 z21_5 z21_6 z21_7 q14_0 q14_1 q14_2 q14_3 q14_4 q14_5 q14_6 q14_7 q16_0 q16_1 q16_2 q16_3 q16_4 q16_5 q16_6 q16_7 q18_0 q18_1 q18_2 q18_3 q18_4 q18_5 q18_6 q18_7 q21_0 q21_1 q21_2 q21_3 q21_4 q21_5 q21_6 q21_7
    have HO0_7 := Aside0.mk kV
    have BK180 := Aside0.mk k0
    have BK185 := Aside0.mk kW
    have HB := Aside0.mk kB
    clear k0 kB kV kW
    have hy_0 : W.cell? ⟨gb185, 0, none⟩ = some (.int .i64 (wrap64 (4 + (Int.tmod (wrap64 (a2)) 47)))) := (blk_cell BK185.out 0).trans rfl
    have hy_1 : W.cell? ⟨gb185, 1, none⟩ = some (.int .i64 (wrap64 (1 + (wrap64 (a2))))) := (blk_cell BK185.out 1).trans rfl
    have hy_2 : W.cell? ⟨gb185, 2, none⟩ = some (.int .i64 (wrap64 (1 + (Int.tmod (wrap64 (a2)) 50)))) := (blk_cell BK185.out 2).trans rfl
    have hy_3 : W.cell? ⟨gb185, 3, none⟩ = some (.int .i64 (Int.tmod (wrap64 (a2)) 4)) := (blk_cell BK185.out 3).trans rfl
    have hy_4 : W.cell? ⟨gb185, 4, none⟩ = some (.int .i64 (wrap64 (1 + (wrap64 (a2))))) := (blk_cell BK185.out 4).trans rfl
    have hy_5 : W.cell? ⟨gb185, 5, none⟩ = some (.int .i64 31) := (blk_cell BK185.out 5).trans rfl
    have hy_6 : W.cell? ⟨gb185, 6, none⟩ = some (.slice A0_6 l0_6.length c0_6) := (blk_cell BK185.out 6).trans rfl
    have hy_7 : W.cell? ⟨gb185, 7, none⟩ = some (.slice A0_7 l0_7.length c0_7) := (blk_cell BK185.out 7).trans rfl
    go_upto_region 11 with (((with_reducible refine gate_callee (f := 8) rfl ?_); refine goesK (some 53) Try.func8 #[.agg #[.int .i64 (wrap64 (4 + (Int.tmod (wrap64 (a2)) 47))), .int .i64 (wrap64 (1 + (wrap64 (a2)))), .int .i64 (wrap64 (1 + (Int.tmod (wrap64 (a2)) 50))), .int .i64 (Int.tmod (wrap64 (a2)) 4), .int .i64 (wrap64 (1 + (wrap64 (a2)))), .int .i64 31, .slice A0_6 l0_6.length c0_6, .slice A0_7 l0_7.length c0_7]] ?_; (with_reducible refine (config_Check.calls k (wrap64 (4 + (Int.tmod (wrap64 (a2)) 47))) (wrap64 (1 + (wrap64 (a2)))) (wrap64 (1 + (Int.tmod (wrap64 (a2)) 50))) (Int.tmod (wrap64 (a2)) 4) (wrap64 (1 + (wrap64 (a2)))) 31 _ _ l0_6 _ _ l0_7 t186 t187 _ ?side1 ?side2 ?side3 ?side4 A10.out).mono ?_); (case side1 => exact sC HR0_6 HB); (case side2 => exact HC0_6.out); (case side3 => repeat (first | exact (Kd.V_reads' HO0_7.out).2.2 | (with_reducible refine Kd.C_alloc ?_ _) | (with_reducible refine Kd.C_drewN ?_ _) | (with_reducible refine Kd.C_drew ?_))); (case side4 => exact (Kd.V_reads' HO0_7.out).2.1); rintro e w22 ⟨rfl, hb⟩; refine ⟨_, rfl, ?_⟩; have n0_ := sV HO0_7 hb; have n1_ := sK BK180 hb; have n2_ := sK BK185 hb; have n3_ := sB HB hb; clear HO0_7; clear BK180; clear BK185; clear HB; have HO0_7 := n0_; have BK180 := n1_; have BK185 := n2_; have HB := n3_; clear n0_ n1_ n2_ n3_ hy_0 hy_1 hy_2 hy_3 hy_4 hy_5 hy_6 hy_7; (try clear hb)))
    (try simp only [Act.put, List.setIfInBounds_toArray, List.set_cons_zero, List.set_cons_succ])
    go_cut [61] (fun v61 wc => ∃ (kq : Nat) (x61_10 : Bool), v61 = .bool x61_10 ∧ Aside0 (fuglemanlaw20_ConfigParts.j0 kq a1 x61_10 a0_0 a0_1 a0_2 a0_3 a0_4 a0_5 l0_6 l0_7 (wrap64 (4 + (Int.tmod (wrap64 (a2)) 47))) (wrap64 (1 + (wrap64 (a2)))) (wrap64 (1 + (Int.tmod (wrap64 (a2)) 50))) (Int.tmod (wrap64 (a2)) 4) (wrap64 (1 + (wrap64 (a2)))) 31 l0_6 l0_7 = some r) ∧ Aside0 (kq ≤ k) ∧ Aside0 (Kd.V k37 37 wc w.heap.size (fun k_ => (P0_7_ k_ ∨ w.heap.size ≤ k_) ∧ k_ ≠ gb180 ∧ k_ ≠ gb185) (.slice A0_7 l0_7.length c0_7) l0_7) ∧ Aside0 (Kd.V k37 37 wc w.heap.size (fun k_ => (P0_7_ k_ ∨ w.heap.size ≤ k_) ∧ k_ ≠ gb180 ∧ k_ ≠ gb185) (.slice A0_7 l0_7.length c0_7) l0_7) ∧ Aside0 (wc.heap[gb180]? = some (.cells #[.int .i64 a0_0, .int .i64 a0_1, .int .i64 a0_2, .int .i64 a0_3, .int .i64 a0_4, .int .i64 a0_5, (.slice A0_6 l0_6.length c0_6), (.slice A0_7 l0_7.length c0_7)] 25 (0, 0))) ∧ Aside0 (wc.heap[gb185]? = some (.cells #[.int .i64 (wrap64 (4 + (Int.tmod (wrap64 (a2)) 47))), .int .i64 (wrap64 (1 + (wrap64 (a2)))), .int .i64 (wrap64 (1 + (Int.tmod (wrap64 (a2)) 50))), .int .i64 (Int.tmod (wrap64 (a2)) 4), .int .i64 (wrap64 (1 + (wrap64 (a2)))), .int .i64 31, (.slice A0_6 l0_6.length c0_6), (.slice A0_7 l0_7.length c0_7)] 25 (0, 0))) ∧ Aside0 (Below w.heap.size w wc))
    case first =>
     have H := HC11.out
     clear HC11
     by_cases c23 : t186 = 0
     ·rw [if_pos c23] at H
      have c23b0 : (t186 == 0) = true := beq_iff_eq.mpr c23
      have c23b1 : (t186 != 0) = false := bne_eq_false_iff_eq.mpr c23
      clear c23
      (first | rw [c23b0] | (simp only [i64_w, i32_w]; rw [c23b0]) | skip)
      have H' := Aside0.mk H
      clear H
      go_wp2
      go_meet
      case rel => exact ⟨_, ((t187 != 0)), (by first | rfl | (simp; done) | (simp [*]; done)), H', ⟨by first | omega | exact Nat.le_refl _⟩, ⟨by (with_reducible repeat (first | apply Kd.V_alloc | apply Kd.V_drewN | apply Kd.V_drew)); exact Kd.V_mono HO0_7.out (fun _ hk => ⟨hk.1.1, ⟨hk.1.2, hk.2⟩⟩)⟩, ⟨by (with_reducible repeat (first | apply Kd.V_alloc | apply Kd.V_drewN | apply Kd.V_drew)); exact Kd.V_mono HO0_7.out (fun _ hk => ⟨hk.1.1, ⟨hk.1.2, hk.2⟩⟩)⟩, (sK0 BK180), (sK0 BK185), (sB0 HB)⟩
     ·rw [if_neg c23] at H
      have c23b0 : (t186 == 0) = false := beq_eq_false_iff_ne.mpr c23
      have c23b1 : (t186 != 0) = true := bne_iff_ne.mpr c23
      (first | rw [c23b0] | (simp only [i64_w, i32_w]; rw [c23b0]) | skip)
      have H' := Aside0.mk H
      clear H
      go_wp2
      go_meet
      case rel => exact ⟨_, (true), (by first | rfl | (simp; done) | (simp [*]; done)), H', ⟨by first | omega | exact Nat.le_refl _⟩, ⟨by (with_reducible repeat (first | apply Kd.V_alloc | apply Kd.V_drewN | apply Kd.V_drew)); exact Kd.V_mono HO0_7.out (fun _ hk => ⟨hk.1.1, ⟨hk.1.2, hk.2⟩⟩)⟩, ⟨by (with_reducible repeat (first | apply Kd.V_alloc | apply Kd.V_drewN | apply Kd.V_drew)); exact Kd.V_mono HO0_7.out (fun _ hk => ⟨hk.1.1, ⟨hk.1.2, hk.2⟩⟩)⟩, (sK0 BK180), (sK0 BK185), (sB0 HB)⟩
    case rest =>
     clear HC11
     (try clear c5); (try clear c7); (try clear c9); (try clear c9b0); (try clear c9b1); (try clear c23); (try clear c23b0); (try clear c23b1); (try clear z14_0 z14_1 z14_2 z14_3 z14_4 z14_5 z14_6 z14_7 q14_0 q14_1 q14_2 q14_3 q14_4 q14_5 q14_6 q14_7); (try clear z16_0 z16_1 z16_2 z16_3 z16_4 z16_5 z16_6 z16_7 q16_0 q16_1 q16_2 q16_3 q16_4 q16_5 q16_6 q16_7); (try clear z18_0 z18_1 z18_2 z18_3 z18_4 z18_5 z18_6 z18_7 q18_0 q18_1 q18_2 q18_3 q18_4 q18_5 q18_6 q18_7); (try clear z21_0 z21_1 z21_2 z21_3 z21_4 z21_5 z21_6 z21_7 q21_0 q21_1 q21_2 q21_3 q21_4 q21_5 q21_6 q21_7)
     obtain ⟨kq, x61_10, rfl, HA, HJ10, HO_181007, HO_186007, BK180, BK185, HB⟩ := hcut
     cases kq with
     | zero => exact absurd HA.out (by simp [fuglemanlaw20_ConfigParts.j0])
     | succ kj10 =>
      have H := HA.out
      clear HA
      simp only [fuglemanlaw20_ConfigParts.j0] at H
      by_cases c24 : x61_10 = true
      ·subst c24
       have H1 : (some false) = some r := by rw [if_pos rfl] at H; exact H
       clear H
       have H := H1
       clear H1
       obtain rfl := Option.some.inj H
       go_wp2
       go_ret
       exact sEnd HB
      ·replace c24 := Bool.eq_false_iff.mpr c24
       subst c24
       have H1 : (if (l0_7.length : Int) < 2 then (some true) else (if (l0_7.length : Int) = 0 then (none) else ((some (([] : List (S37)) : List (S37))).bind fun y188 => (if 0 ≤ (Int.tmod (wrap64 (a1)) (l0_7.length : Int)) then (if (Int.tmod (wrap64 (a1)) (l0_7.length : Int)) ≤ (l0_7.length : Int) then ((some (l0_7.take ((Int.tmod (wrap64 (a1)) (l0_7.length : Int)) : Int).toNat : List (S37))).bind fun y191 => (if y188.length + y191.length < 1466015503701 then ((some (y188 ++ y191 : List (S37))).bind fun y196 => (if 0 ≤ (wrap64 ((Int.tmod (wrap64 (a1)) (l0_7.length : Int)) + 1)) then (if (wrap64 ((Int.tmod (wrap64 (a1)) (l0_7.length : Int)) + 1)) ≤ (l0_7.length : Int) then ((some (l0_7.drop ((wrap64 ((Int.tmod (wrap64 (a1)) (l0_7.length : Int)) + 1)) : Int).toNat : List (S37))).bind fun y199 => (if y196.length + y199.length < 1466015503701 then ((config_Check.f kj10 (wrap64 (4 + (Int.tmod (wrap64 (a2)) 47))) (wrap64 (1 + (wrap64 (a2)))) (wrap64 (1 + (Int.tmod (wrap64 (a2)) 50))) (Int.tmod (wrap64 (a2)) 4) (wrap64 (1 + (wrap64 (a2)))) 31 l0_6 (y196 ++ y199)).bind fun bt207 => (if bt207.1 = 0 then (some (bt207.2 == 0)) else (some false))) else (none))) else (none)) else (none))) else (none))) else (none)) else (none))))) = some r := by rw [if_neg (show ¬ (false = true) by decide)] at H; exact H
       clear H
       have H := H1
       clear H1
       by_cases c25 : (l0_7.length : Int) < 2
       ·rw [if_pos c25] at H
        have c25b0 : decide ((l0_7.length : Int) < 2) = true := decide_eq_true c25
        have c25b1 : decide (l0_7.length < 2) = true := decide_eq_true (by omega)
        clear c25
        obtain rfl := Option.some.inj H
        have hnb26 := NB180_185.out
        have hnc26 := NB185_180.out
        obtain ⟨z27_0, z27_1, z27_2, z27_3, z27_4, z27_5, z27_6, z27_7, q27_0, q27_1, q27_2, q27_3, q27_4, q27_5, q27_6, q27_7⟩ := bk8 BK180
        go_wp2
        go_ret
        exact sEnd HB
       ·rw [if_neg c25] at H
        have c25b0 : decide ((l0_7.length : Int) < 2) = false := decide_eq_false c25
        have c25b1 : decide (l0_7.length < 2) = false := decide_eq_false (by omega)
        clear c25
        by_cases c28 : (l0_7.length : Int) = 0
        ·rw [if_pos c28] at H
         exact absurd H (by simp)
        ·rw [if_neg c28] at H
         have c28b0 : ((l0_7.length : Int) == 0) = false := beq_eq_false_iff_ne.mpr c28
         have c28b1 : ((l0_7.length : Int) != 0) = true := bne_iff_ne.mpr c28
         have c28b2 : ¬ (l0_7 = []) := fun h_ => c28 (by rw [h_]; rfl)
         obtain ⟨y188, hy188⟩ : ∃ y_ : List (S37), y_ = (([] : List (S37))) := ⟨_, rfl⟩
         replace H : (if 0 ≤ (Int.tmod (wrap64 (a1)) (l0_7.length : Int)) then (if (Int.tmod (wrap64 (a1)) (l0_7.length : Int)) ≤ (l0_7.length : Int) then ((some (l0_7.take ((Int.tmod (wrap64 (a1)) (l0_7.length : Int)) : Int).toNat : List (S37))).bind fun y191 => (if y188.length + y191.length < 1466015503701 then ((some (y188 ++ y191 : List (S37))).bind fun y196 => (if 0 ≤ (wrap64 ((Int.tmod (wrap64 (a1)) (l0_7.length : Int)) + 1)) then (if (wrap64 ((Int.tmod (wrap64 (a1)) (l0_7.length : Int)) + 1)) ≤ (l0_7.length : Int) then ((some (l0_7.drop ((wrap64 ((Int.tmod (wrap64 (a1)) (l0_7.length : Int)) + 1)) : Int).toNat : List (S37))).bind fun y199 => (if y196.length + y199.length < 1466015503701 then ((config_Check.f kj10 (wrap64 (4 + (Int.tmod (wrap64 (a2)) 47))) (wrap64 (1 + (wrap64 (a2)))) (wrap64 (1 + (Int.tmod (wrap64 (a2)) 50))) (Int.tmod (wrap64 (a2)) 4) (wrap64 (1 + (wrap64 (a2)))) 31 l0_6 (y196 ++ y199)).bind fun bt207 => (if bt207.1 = 0 then (some (bt207.2 == 0)) else (some false))) else (none))) else (none)) else (none))) else (none))) else (none)) else (none)) = some r := by first | (rw [hy188]; with_reducible exact H) | (have H2_ := (Option.bind_some _ _).symm.trans H; rw [hy188]; with_reducible exact H2_) | (have H2_ := (Option.bind_some _ _).symm.trans H; with_reducible exact H2_) | with_reducible exact H | (rw [hy188]; exact H) | exact H
         have Ny188 := Aside0.mk hy188
         clear hy188
         obtain ⟨ji29, hji29⟩ : ∃ j_ : Int, (Int.tmod (wrap64 (a1)) (l0_7.length : Int)) = j_ := ⟨_, rfl⟩
         replace H : (if 0 ≤ (ji29) then (if (ji29) ≤ (l0_7.length : Int) then ((some (l0_7.take ((ji29) : Int).toNat : List (S37))).bind fun y191 => (if y188.length + y191.length < 1466015503701 then ((some (y188 ++ y191 : List (S37))).bind fun y196 => (if 0 ≤ (wrap64 ((ji29) + 1)) then (if (wrap64 ((ji29) + 1)) ≤ (l0_7.length : Int) then ((some (l0_7.drop ((wrap64 ((ji29) + 1)) : Int).toNat : List (S37))).bind fun y199 => (if y196.length + y199.length < 1466015503701 then ((config_Check.f kj10 (wrap64 (4 + (Int.tmod (wrap64 (a2)) 47))) (wrap64 (1 + (wrap64 (a2)))) (wrap64 (1 + (Int.tmod (wrap64 (a2)) 50))) (Int.tmod (wrap64 (a2)) 4) (wrap64 (1 + (wrap64 (a2)))) 31 l0_6 (y196 ++ y199)).bind fun bt207 => (if bt207.1 = 0 then (some (bt207.2 == 0)) else (some false))) else (none))) else (none)) else (none))) else (none))) else (none)) else (none)) = some r := by first | (rw [hji29] at H; exact H) | (simp only [hji29] at H ⊢; exact H)
         by_cases c30 : 0 ≤ (ji29)
         ·rw [if_pos c30] at H
          have c30b0 := eq_true c30
          have c30b1 : decide (0 ≤ (ji29)) = true := decide_eq_true c30
          clear c30
          by_cases c31 : (ji29) ≤ (l0_7.length : Int)
          ·rw [if_pos c31] at H
           have c31b0 := eq_true c31
           have c31b1 : decide ((ji29) ≤ (l0_7.length : Int)) = true := decide_eq_true c31
           clear c31
           obtain ⟨y191, hy191⟩ : ∃ y_ : List (S37), y_ = (l0_7.take ((ji29) : Int).toNat) := ⟨_, rfl⟩
           replace H : (if y188.length + y191.length < 1466015503701 then ((some (y188 ++ y191 : List (S37))).bind fun y196 => (if 0 ≤ (wrap64 ((ji29) + 1)) then (if (wrap64 ((ji29) + 1)) ≤ (l0_7.length : Int) then ((some (l0_7.drop ((wrap64 ((ji29) + 1)) : Int).toNat : List (S37))).bind fun y199 => (if y196.length + y199.length < 1466015503701 then ((config_Check.f kj10 (wrap64 (4 + (Int.tmod (wrap64 (a2)) 47))) (wrap64 (1 + (wrap64 (a2)))) (wrap64 (1 + (Int.tmod (wrap64 (a2)) 50))) (Int.tmod (wrap64 (a2)) 4) (wrap64 (1 + (wrap64 (a2)))) 31 l0_6 (y196 ++ y199)).bind fun bt207 => (if bt207.1 = 0 then (some (bt207.2 == 0)) else (some false))) else (none))) else (none)) else (none))) else (none)) = some r := by first | (rw [hy191]; with_reducible exact H) | (have H2_ := (Option.bind_some _ _).symm.trans H; rw [hy191]; with_reducible exact H2_) | (have H2_ := (Option.bind_some _ _).symm.trans H; with_reducible exact H2_) | with_reducible exact H | (rw [hy191]; exact H) | exact H
           have Ny191 := Aside0.mk hy191
           clear hy191
           by_cases c32 : y188.length + y191.length < 1466015503701
           ·rw [if_pos c32] at H
            have LMc32 := Aside0.mk c32
            clear c32
            obtain ⟨y196, hy196⟩ : ∃ y_ : List (S37), y_ = (y188 ++ y191) := ⟨_, rfl⟩
            replace H : (if 0 ≤ (wrap64 ((ji29) + 1)) then (if (wrap64 ((ji29) + 1)) ≤ (l0_7.length : Int) then ((some (l0_7.drop ((wrap64 ((ji29) + 1)) : Int).toNat : List (S37))).bind fun y199 => (if y196.length + y199.length < 1466015503701 then ((config_Check.f kj10 (wrap64 (4 + (Int.tmod (wrap64 (a2)) 47))) (wrap64 (1 + (wrap64 (a2)))) (wrap64 (1 + (Int.tmod (wrap64 (a2)) 50))) (Int.tmod (wrap64 (a2)) 4) (wrap64 (1 + (wrap64 (a2)))) 31 l0_6 (y196 ++ y199)).bind fun bt207 => (if bt207.1 = 0 then (some (bt207.2 == 0)) else (some false))) else (none))) else (none)) else (none)) = some r := by first | (rw [hy196]; with_reducible exact H) | (have H2_ := (Option.bind_some _ _).symm.trans H; rw [hy196]; with_reducible exact H2_) | (have H2_ := (Option.bind_some _ _).symm.trans H; with_reducible exact H2_) | with_reducible exact H | (rw [hy196]; exact H) | exact H
            have Ny196 := Aside0.mk hy196
            clear hy196
            obtain ⟨ji33, hji33⟩ : ∃ j_ : Int, (wrap64 ((ji29) + 1)) = j_ := ⟨_, rfl⟩
            replace H : (if 0 ≤ (ji33) then (if (ji33) ≤ (l0_7.length : Int) then ((some (l0_7.drop ((ji33) : Int).toNat : List (S37))).bind fun y199 => (if y196.length + y199.length < 1466015503701 then ((config_Check.f kj10 (wrap64 (4 + (Int.tmod (wrap64 (a2)) 47))) (wrap64 (1 + (wrap64 (a2)))) (wrap64 (1 + (Int.tmod (wrap64 (a2)) 50))) (Int.tmod (wrap64 (a2)) 4) (wrap64 (1 + (wrap64 (a2)))) 31 l0_6 (y196 ++ y199)).bind fun bt207 => (if bt207.1 = 0 then (some (bt207.2 == 0)) else (some false))) else (none))) else (none)) else (none)) = some r := by first | (rw [hji33] at H; exact H) | (simp only [hji33] at H ⊢; exact H)
            have hji33w : (IntKind.i64.wrap ((ji29) + 1)) = ji33 := (i64_w _).trans hji33
            by_cases c34 : 0 ≤ (ji33)
            ·rw [if_pos c34] at H
             have c34b0 := eq_true c34
             have c34b1 : decide (0 ≤ (ji33)) = true := decide_eq_true c34
             clear c34
             by_cases c35 : (ji33) ≤ (l0_7.length : Int)
             ·rw [if_pos c35] at H
              have c35b0 := eq_true c35
              have c35b1 : decide ((ji33) ≤ (l0_7.length : Int)) = true := decide_eq_true c35
              clear c35
              obtain ⟨y199, hy199⟩ : ∃ y_ : List (S37), y_ = (l0_7.drop ((ji33) : Int).toNat) := ⟨_, rfl⟩
              replace H : (if y196.length + y199.length < 1466015503701 then ((config_Check.f kj10 (wrap64 (4 + (Int.tmod (wrap64 (a2)) 47))) (wrap64 (1 + (wrap64 (a2)))) (wrap64 (1 + (Int.tmod (wrap64 (a2)) 50))) (Int.tmod (wrap64 (a2)) 4) (wrap64 (1 + (wrap64 (a2)))) 31 l0_6 (y196 ++ y199)).bind fun bt207 => (if bt207.1 = 0 then (some (bt207.2 == 0)) else (some false))) else (none)) = some r := by first | (rw [hy199]; with_reducible exact H) | (have H2_ := (Option.bind_some _ _).symm.trans H; rw [hy199]; with_reducible exact H2_) | (have H2_ := (Option.bind_some _ _).symm.trans H; with_reducible exact H2_) | with_reducible exact H | (rw [hy199]; exact H) | exact H
              have Ny199 := Aside0.mk hy199
              clear hy199
              by_cases c36 : y196.length + y199.length < 1466015503701
              ·rw [if_pos c36] at H
               have LMc36 := Aside0.mk c36
               clear c36
               obtain ⟨y204, hy204⟩ : ∃ y_ : List (S37), y_ = (y196 ++ y199) := ⟨_, rfl⟩
               replace H : ((config_Check.f kj10 (wrap64 (4 + (Int.tmod (wrap64 (a2)) 47))) (wrap64 (1 + (wrap64 (a2)))) (wrap64 (1 + (Int.tmod (wrap64 (a2)) 50))) (Int.tmod (wrap64 (a2)) 4) (wrap64 (1 + (wrap64 (a2)))) 31 l0_6 y204).bind fun bt207 => (if bt207.1 = 0 then (some (bt207.2 == 0)) else (some false))) = some r := by first | (rw [hy204]; with_reducible exact H) | (have H2_ := (Option.bind_some _ _).symm.trans H; rw [hy204]; with_reducible exact H2_) | (have H2_ := (Option.bind_some _ _).symm.trans H; with_reducible exact H2_) | with_reducible exact H | (rw [hy204]; exact H) | exact H
               have Ny204 := Aside0.mk hy204
               clear hy204
               replace H := Option.bind_eq_some_iff.mp H
               obtain ⟨⟨t207, t208⟩, A370, H⟩ := H
               replace H : (if t207 = 0 then (some (t208 == 0)) else (some false)) = some r := H
               have A37 := Aside0.mk A370
               clear A370
               by_cases c38 : t207 = 0
               ·rw [if_pos c38] at H
                have c38b0 : (t207 == 0) = true := beq_iff_eq.mpr c38
                have c38b1 : (t207 != 0) = false := bne_eq_false_iff_eq.mpr c38
                clear c38
                obtain rfl := Option.some.inj H
                have hnb39 := NB180_185.out
                have hnc39 := NB185_180.out
                obtain ⟨z40_0, z40_1, z40_2, z40_3, z40_4, z40_5, z40_6, z40_7, q40_0, q40_1, q40_2, q40_3, q40_4, q40_5, q40_6, q40_7⟩ := bk8 BK180
                try go_wp2
                have n0_ := Aside0.mk (Kd.V_drew HO_181007.out)
                have n1_ := Aside0.mk (Kd.V_drew HO_186007.out)
                have n2_ := Aside0.mk (blk_drew BK180.out)
                have n3_ := Aside0.mk (blk_drew BK185.out)
                have n4_ := Aside0.mk (below_drew1 HB.out)
                clear HO_181007
                clear HO_186007
                clear BK180
                clear BK185
                clear HB
                have HO_181007 := n0_
                have HO_186007 := n1_
                have BK180 := n2_
                have BK185 := n3_
                have HB := n4_
                clear n0_ n1_ n2_ n3_ n4_
                have q42 : ((ji29) : Int) ≤ ((l0_7.length : Int) : Int) := of_decide_eq_true (by first | (with_reducible assumption) | assumption)
                obtain ⟨i042, hi042, _, hsz42, _⟩ := info_parts info37
                have hroom42 : l0_7.length ≤ c0_7 := (Kd.V_reads' HO_181007.out).2.1
                have hC42 : Kd.F k37 _ _ A0_7 l0_7.length l0_7 := (Kd.V_at (base := w.heap.size) HO_181007.out).2.2
                have hcut42 := cut_to (P := Try.prog) 23 37 .i64 Try.underlying23 hi042 A0_7 l0_7.length c0_7 (ji29) (of_decide_eq_true (by first | (with_reducible assumption) | assumption)) q42 hroom42
                have hr42 := Kd.F_take (m := ((ji29) : Int).toNat) hC42 (by omega)
                have hy42 : y191.length = ((ji29) : Int).toNat := (by rw [Ny191.out, List.length_take]; omega)
                rw [← Ny191.out] at hr42
                rw [← hy42] at hcut42
                have HO195 := Aside0.mk (show Kd.V k37 37 _ w.heap.size _ (.slice A0_7 y191.length c0_7) y191 from Kd.V_mk (by omega) hr42)
                have HC195 := Aside0.mk (show y191.length ≤ c0_7 from by omega)
                clear hr42 hC42 hroom42 hi042 hsz42
                have KY42 := Aside0.mk hy42
                clear hy42
                replace q42 := eq_true q42
                have q43 : ((ji33) : Int) ≤ ((l0_7.length : Int) : Int) := of_decide_eq_true (by first | (with_reducible assumption) | assumption)
                obtain ⟨i043, hi043, _, hsz43, _⟩ := info_parts info37
                have hroom43 : l0_7.length ≤ c0_7 := (Kd.V_reads' HO_181007.out).2.1
                have hC43 : Kd.F k37 _ _ A0_7 l0_7.length l0_7 := (Kd.V_at (base := w.heap.size) HO_181007.out).2.2
                have q043 : (0 : Int) ≤ ((ji33) : Int) := of_decide_eq_true (by first | (with_reducible assumption) | assumption)
                have hcut43 := cut_from (P := Try.prog) 23 37 .i64 Try.underlying23 hi043 6 hsz43 A0_7 l0_7.length c0_7 (ji33) q043 q43
                have hr43 := Kd.F_cut (m := ((ji33) : Int).toNat) (c := c0_7) hC43 (by omega) hroom43
                obtain ⟨A43, hA43⟩ : ∃ A1, A1 = (if c0_7 = ((ji33) : Int).toNat then A0_7 else (A0_7 : Option Addr).map (·.add (((ji33) : Int).toNat * 6))) := ⟨_, rfl⟩
                obtain ⟨c43, hc43⟩ : ∃ c1, c1 = c0_7 - ((ji33) : Int).toNat := ⟨_, rfl⟩
                have hy43 : y199.length = l0_7.length - ((ji33) : Int).toNat := (by rw [Ny199.out, List.length_drop] <;> omega)
                rw [show (l0_7).drop ((ji33) : Int).toNat = y199 from Ny199.out.symm] at hr43
                replace hr43 : Kd.F k37 _ _ A43 y199.length y199 := (by rw [hA43]; exact hr43)
                rw [← hy43, ← hA43, ← hc43] at hcut43
                have HO203 := Aside0.mk (show Kd.V k37 37 _ w.heap.size _ (.slice A43 y199.length c43) y199 from Kd.V_mk (by rw [hy43, hc43]; exact Nat.sub_le_sub_right hroom43 _) hr43)
                have HC203 := Aside0.mk (show y199.length ≤ c43 from by rw [hy43, hc43]; exact Nat.sub_le_sub_right hroom43 _)
                clear hr43 hC43 hroom43 hi043 hsz43 hc43
                have KY43 := Aside0.mk hy43
                have KA43 := Aside0.mk hA43
                clear hy43 hA43
                replace q43 := eq_true q43
                refine start_ (n := 14) (S := fun w' => w'.cell? ⟨gb180, 0, none⟩ = some (.int .i64 a0_0) ∧ w'.cell? ⟨gb180, 1, none⟩ = some (.int .i64 a0_1) ∧ w'.cell? ⟨gb180, 2, none⟩ = some (.int .i64 a0_2) ∧ w'.cell? ⟨gb180, 3, none⟩ = some (.int .i64 a0_3) ∧ w'.cell? ⟨gb180, 4, none⟩ = some (.int .i64 a0_4) ∧ w'.cell? ⟨gb180, 5, none⟩ = some (.int .i64 a0_5) ∧ w'.cell? ⟨gb180, 6, none⟩ = some (.slice A0_6 l0_6.length c0_6) ∧ w'.cell? ⟨gb180, 7, none⟩ = some (.slice A0_7 l0_7.length c0_7)) (ds := []) #[false, false, false, false, false, false, false, false, false, false, false, false, false, false] (by kernel_rfl) rfl rfl ⟨(blk_cell BK180.out 0).trans rfl, (blk_cell BK180.out 1).trans rfl, (blk_cell BK180.out 2).trans rfl, (blk_cell BK180.out 3).trans rfl, (blk_cell BK180.out 4).trans rfl, (blk_cell BK180.out 5).trans rfl, (blk_cell BK180.out 6).trans rfl, (blk_cell BK180.out 7).trans rfl⟩ (fun hHeld => ?_); refine with_tabW fuglemanlaw20_ConfigParts.tab16 fuglemanlaw20_ConfigParts.bits16 (fun HT_ HW_ => ?_)
                generalize wc.drew = w41 at HO_181007 HO_186007 BK180 BK185 HB HO195 HO203 hHeld ⊢
                refine pure_ (i := 1) (N := some 73) (v := ?_) (a' := ?_) #[false, true, false, false, false, false, false, false, false, false, false, false, false, false] rfl rfl (any_of HT_.out (by kernel_rfl)) (fun _ _ _ h => h) (Or.inl ⟨by rfl, ?_⟩) ?_ ?_
                rotate_left
                ·intro w'
                 go_simp
                 with_reducible rfl
                rotate_left
                ·simp only [Act.put, List.setIfInBounds_toArray, List.set_cons_zero, List.set_cons_succ, i64_w, i32_w]
                 rfl
                refine pure_ (i := 3) (N := some 75) (v := ?_) (a' := ?_) #[false, true, false, true, false, false, false, false, false, false, false, false, false, false] rfl rfl (any_of HT_.out (by kernel_rfl)) (fun _ _ _ h => h) (Or.inl ⟨by rfl, ?_⟩) ?_ ?_
                rotate_left
                ·intro w'
                 go_simp
                 with_reducible rfl
                rotate_left
                ·simp only [Act.put, List.setIfInBounds_toArray, List.set_cons_zero, List.set_cons_succ, i64_w, i32_w]
                 rfl
                refine pure_ (i := 6) (N := some 78) (v := ?_) (a' := ?_) #[false, true, false, true, false, false, true, false, false, false, false, false, false, false] rfl rfl (any_of HT_.out (by kernel_rfl)) (fun _ _ _ h => h) (Or.inl ⟨by rfl, ?_⟩) ?_ ?_
                rotate_left
                ·intro w'
                 go_simp
                 with_reducible rfl
                rotate_left
                ·simp only [Act.put, List.setIfInBounds_toArray, List.set_cons_zero, List.set_cons_succ, i64_w, i32_w]
                 rfl
                refine pure_ (i := 8) (N := some 80) (v := ?_) (a' := ?_) #[false, true, false, true, false, false, true, false, true, false, false, false, false, false] rfl rfl (any_of HT_.out (by kernel_rfl)) (fun _ _ _ h => h) (Or.inl ⟨by rfl, ?_⟩) ?_ ?_
                rotate_left
                ·intro w'
                 go_simp
                 with_reducible rfl
                rotate_left
                ·simp only [Act.put, List.setIfInBounds_toArray, List.set_cons_zero, List.set_cons_succ, i64_w, i32_w]
                 rfl
                refine pure_ (i := 9) (N := some 81) (v := ?_) (a' := ?_) #[false, true, false, true, false, false, true, false, true, true, false, false, false, false] rfl rfl (any_of HT_.out (by kernel_rfl)) (fun _ _ _ h => h) (Or.inl ⟨by rfl, ?_⟩) ?_ ?_
                rotate_left
                ·intro w'
                 go_simp
                 with_reducible rfl
                rotate_left
                ·simp only [Act.put, List.setIfInBounds_toArray, List.set_cons_zero, List.set_cons_succ, i64_w, i32_w]
                 rfl
                refine take_ (i := 2) (N := some 74) (v := ?_) (a' := ?_) #[false, true, true, true, false, false, true, false, true, true, false, false, false, false] rfl rfl (take_ofW HT_.out HW_.out (by kernel_rfl)) (fun _ _ _ h => h) (Or.inl ⟨by rfl, ?_⟩) hHeld ?_ ?_
                rotate_left
                ·rintro w' ⟨s0, s1, s2, s3, s4, s5, s6, s7⟩
                 go_simp
                 with_reducible rfl
                rotate_left
                ·simp only [Act.put, List.setIfInBounds_toArray, List.set_cons_zero, List.set_cons_succ, i64_w, i32_w]
                 rfl
                refine pure_ (i := 4) (N := some 76) (v := ?_) (a' := ?_) #[false, true, true, true, true, false, true, false, true, true, false, false, false, false] rfl rfl (any_of HT_.out (by kernel_rfl)) (fun _ _ _ h => h) (Or.inl ⟨by rfl, ?_⟩) ?_ ?_
                rotate_left
                ·intro w'
                 go_simp
                 with_reducible rfl
                rotate_left
                ·simp only [Act.put, List.setIfInBounds_toArray, List.set_cons_zero, List.set_cons_succ, i64_w, i32_w]
                 rfl
                refine take_ (i := 7) (N := some 79) (v := ?_) (a' := ?_) #[false, true, true, true, true, false, true, true, true, true, false, false, false, false] rfl rfl (take_ofW HT_.out HW_.out (by kernel_rfl)) (fun _ _ _ h => h) (Or.inl ⟨by rfl, ?_⟩) hHeld ?_ ?_
                rotate_left
                ·rintro w' ⟨s0, s1, s2, s3, s4, s5, s6, s7⟩
                 go_simp
                 with_reducible rfl
                rotate_left
                ·simp only [Act.put, List.setIfInBounds_toArray, List.set_cons_zero, List.set_cons_succ, i64_w, i32_w]
                 rfl
                refine pure_ (i := 10) (N := some 82) (v := ?_) (a' := ?_) #[false, true, true, true, true, false, true, true, true, true, true, false, false, false] rfl rfl (any_of HT_.out (by kernel_rfl)) (fun _ _ _ h => h) (Or.inl ⟨by rfl, ?_⟩) ?_ ?_
                rotate_left
                ·intro w'
                 go_simp
                 with_reducible rfl
                rotate_left
                ·simp only [Act.put, List.setIfInBounds_toArray, List.set_cons_zero, List.set_cons_succ, i64_w, i32_w]
                 rfl
                refine one_ (i := 0) (N := some 72) #[true, true, true, true, true, false, true, true, true, true, true, false, false, false] rfl rfl (one_of HT_.out (by kernel_rfl)) (by decide) (fun K hK => ?_)
                refine Kd.N_lit_step k37 _ 37 ?hg (N' := 72) ?hd (xs := ([] : List (S37))) (inner := []) (ok := (fun k_ => (P0_7_ k_ ∨ w.heap.size ≤ k_) ∧ k_ ≠ gb180 ∧ k_ ≠ gb185)) (okp := (fun k_ => (P0_7_ k_ ∨ w.heap.size ≤ k_) ∧ k_ ≠ gb180 ∧ k_ ≠ gb185)) ?hr ?hp (fun _ hk => hk) ((show ∀ k_, w41.heap.size ≤ k_ → (fun k_ => (P0_7_ k_ ∨ w.heap.size ≤ k_) ∧ k_ ≠ gb180 ∧ k_ ≠ gb185) k_ from fun k_ hk => ⟨(.inr (Nat.le_trans (below_size (by repeat (first | (with_reducible first | exact HB.out | apply below_alloc | apply pw_below_drewN | apply below_drew1 | refine below_set ?_ (Aside0.out (by assumption))) | exact HB.out))) hk)), Kd.freshB (g := gb180) (o := .cells #[.int .i64 a0_0, .int .i64 a0_1, .int .i64 a0_2, .int .i64 a0_3, .int .i64 a0_4, .int .i64 a0_5, .slice A0_6 l0_6.length c0_6, .slice A0_7 l0_7.length c0_7] 25 (0, 0)) (by (with_reducible repeat (first | refine blk_drewN ?_ _ | refine blk_drew ?_ | refine blk_alloc ?_ _)); exact BK180.out) k_ hk, Kd.freshB (g := gb185) (o := .cells #[.int .i64 (wrap64 (4 + (Int.tmod (wrap64 (a2)) 47))), .int .i64 (wrap64 (1 + (wrap64 (a2)))), .int .i64 (wrap64 (1 + (Int.tmod (wrap64 (a2)) 50))), .int .i64 (Int.tmod (wrap64 (a2)) 4), .int .i64 (wrap64 (1 + (wrap64 (a2)))), .int .i64 31, .slice A0_6 l0_6.length c0_6, .slice A0_7 l0_7.length c0_7] 25 (0, 0)) (by (with_reducible repeat (first | refine blk_drewN ?_ _ | refine blk_drew ?_ | refine blk_alloc ?_ _)); exact BK185.out) k_ hk⟩) _ (Nat.le_refl _)) (Below.refl _ _) (Nat.le_refl _) (by simp) ?_; (case hd => rfl); (case hg => rfl); (case hr => first | (go_simp; done) | (go_simp; rfl)); (case hp => exact (Reps.none _ _))
                intro v189 w44 ho45 hb hg_ hnew_
                clear hg_ hnew_
                (first | rw [← Ny188.out] at ho45 | (simp only [Int.reduceToNat] at ho45; rw [← Ny188.out] at ho45))
                have n0_ := Aside0.mk (Kd.V_elder' (by (with_reducible repeat (first | apply Kd.V_alloc | apply Kd.V_drewN | apply Kd.V_drew)); exact HO_181007.out) (Kd.N_base ho45) hb)
                have n1_ := Aside0.mk (Kd.V_elder' (by (with_reducible repeat (first | apply Kd.V_alloc | apply Kd.V_drewN | apply Kd.V_drew)); exact HO_186007.out) (Kd.N_base ho45) hb)
                have n2_ := Aside0.mk (Kd.V_elder' (by (with_reducible repeat (first | apply Kd.V_alloc | apply Kd.V_drewN | apply Kd.V_drew)); exact HO195.out) (Kd.N_base ho45) hb)
                have n3_ := Aside0.mk (Kd.V_elder' (by (with_reducible repeat (first | apply Kd.V_alloc | apply Kd.V_drewN | apply Kd.V_drew)); exact HO203.out) (Kd.N_base ho45) hb)
                have n4_ := Aside0.mk (Kd.N_lower ho45 (below_size (by repeat (first | (with_reducible first | exact HB.out | apply below_alloc | apply pw_below_drewN | apply below_drew1 | refine below_set ?_ (Aside0.out (by assumption))) | exact HB.out))))
                have n5_ := sK BK180 hb
                have n6_ := sK BK185 hb
                have n7_ := sB HB hb
                clear HO_181007
                clear HO_186007
                clear HO195
                clear HO203
                clear BK180
                clear BK185
                clear HB
                have HO_181007 := n0_
                have HO_186007 := n1_
                have HO195 := n2_
                have HO203 := n3_
                have HO190 := n4_
                have BK180 := n5_
                have BK185 := n6_
                have HB := n7_
                clear n0_ n1_ n2_ n3_ n4_ n5_ n6_ n7_
                clear hb ho45
                refine hK.out _ _ ⟨(blk_cell BK180.out 0).trans rfl, (blk_cell BK180.out 1).trans rfl, (blk_cell BK180.out 2).trans rfl, (blk_cell BK180.out 3).trans rfl, (blk_cell BK180.out 4).trans rfl, (blk_cell BK180.out 5).trans rfl, (blk_cell BK180.out 6).trans rfl, (blk_cell BK180.out 7).trans rfl⟩ (fun hHeld => ?_)
                clear hK K
                refine norm_ (a' := ?_) ?_ ?_
                rotate_left
                ·show Act.put _ (some 72) _ = _
                 simp only [Act.put, List.setIfInBounds_toArray, List.set_cons_zero, List.set_cons_succ, i64_w, i32_w]
                 rfl
                refine one_ (i := 5) (N := some 77) #[true, true, true, true, true, true, true, true, true, true, true, false, false, false] rfl rfl (one_of HT_.out (by kernel_rfl)) (by decide) (fun K hK => ?_)
                refine Kd.N_append_rows_step k37 (w0 := w) w.heap.size (by rfl) (.tmp 72) (.tmp 76) 23 37 (.agg #[(.int .i64 0), (.int .i64 0), (.int .i64 0), (.slice none 0 0), (.slice none 0 0), (.slice none 0 0)]) 96 rfl Try.underlying23 info37 rfl (by decide) (by omega) v189 y188 y191 _ _ _ (fun k_ => (P0_7_ k_ ∨ w.heap.size ≤ k_) ∧ k_ ≠ gb180 ∧ k_ ≠ gb185) (fun k_ => ((fun k_ => (P0_7_ k_ ∨ w.heap.size ≤ k_) ∧ k_ ≠ gb180 ∧ k_ ≠ gb185)) k_ ∧ some k_ ≠ (v189 : Value).ownBlock) rfl rfl ?aO ?aR (fun _ hk => hk) ?aF ?aB ?aS ?aL ?_
                (case aR => exact (by skip; exact Kd.V_F (Kd.V_mono (ok' := (fun k_ => ((fun k_ => (P0_7_ k_ ∨ w.heap.size ≤ k_) ∧ k_ ≠ gb180 ∧ k_ ≠ gb185)) k_ ∧ some k_ ≠ (v189 : Value).ownBlock)) (HO195.out) (fun k_ hk => ⟨⟨hk.1.1, ⟨hk.1.2.1, hk.1.2.2⟩⟩, hk.2⟩))))
                (case aB => exact (by repeat (first | (with_reducible first | exact HB.out | apply below_alloc | apply pw_below_drewN | apply below_drew1 | refine below_set ?_ (Aside0.out (by assumption))) | exact HB.out)))
                (case aF => exact (fun k_ hk => ⟨(.inr (Nat.le_trans (below_size (by repeat (first | (with_reducible first | exact HB.out | apply below_alloc | apply pw_below_drewN | apply below_drew1 | refine below_set ?_ (Aside0.out (by assumption))) | exact HB.out))) hk)), Kd.freshB (g := gb180) (o := .cells #[.int .i64 a0_0, .int .i64 a0_1, .int .i64 a0_2, .int .i64 a0_3, .int .i64 a0_4, .int .i64 a0_5, .slice A0_6 l0_6.length c0_6, .slice A0_7 l0_7.length c0_7] 25 (0, 0)) (by (with_reducible repeat (first | refine blk_drewN ?_ _ | refine blk_drew ?_ | refine blk_alloc ?_ _)); exact BK180.out) k_ hk, Kd.freshB (g := gb185) (o := .cells #[.int .i64 (wrap64 (4 + (Int.tmod (wrap64 (a2)) 47))), .int .i64 (wrap64 (1 + (wrap64 (a2)))), .int .i64 (wrap64 (1 + (Int.tmod (wrap64 (a2)) 50))), .int .i64 (Int.tmod (wrap64 (a2)) 4), .int .i64 (wrap64 (1 + (wrap64 (a2)))), .int .i64 31, .slice A0_6 l0_6.length c0_6, .slice A0_7 l0_7.length c0_7] 25 (0, 0)) (by (with_reducible repeat (first | refine blk_drewN ?_ _ | refine blk_drew ?_ | refine blk_alloc ?_ _)); exact BK185.out) k_ hk⟩))
                (case aO => exact (by (with_reducible repeat (first | apply Kd.N_alloc | apply Kd.N_drewN | apply Kd.N_drew)); exact HO190.out))
                (case aS => exact (below_size (by repeat (first | (with_reducible first | exact HB.out | apply below_alloc | apply pw_below_drewN | apply below_drew1 | refine below_set ?_ (Aside0.out (by assumption))) | exact HB.out))))
                (case aL => have := LMc32.out; omega)
                intro v197 w46 ho hb hg hat
                rw [← Ny196.out] at ho
                have n0_ := Aside0.mk (Kd.V_afterv (ok := (fun k_ => (P0_7_ k_ ∨ w.heap.size ≤ k_) ∧ k_ ≠ gb180 ∧ k_ ≠ gb185)) (by (with_reducible repeat (first | apply Kd.V_alloc | apply Kd.V_drewN | apply Kd.V_drew)); exact HO_181007.out) hg hat)
                have n1_ := Aside0.mk (Kd.V_afterv (ok := (fun k_ => (P0_7_ k_ ∨ w.heap.size ≤ k_) ∧ k_ ≠ gb180 ∧ k_ ≠ gb185)) (by (with_reducible repeat (first | apply Kd.V_alloc | apply Kd.V_drewN | apply Kd.V_drew)); exact HO_186007.out) hg hat)
                have n2_ := Aside0.mk (blk_grown (g := gb180) (o := .cells #[.int .i64 a0_0, .int .i64 a0_1, .int .i64 a0_2, .int .i64 a0_3, .int .i64 a0_4, .int .i64 a0_5, .slice A0_6 l0_6.length c0_6, .slice A0_7 l0_7.length c0_7] 25 (0, 0)) (by (with_reducible repeat (first | refine blk_drewN ?_ _ | refine blk_drew ?_ | refine blk_alloc ?_ _)); exact BK180.out) hg (Kd.N_ne HO190.out BK180.out (by decide)))
                have n3_ := Aside0.mk (blk_grown (g := gb185) (o := .cells #[.int .i64 (wrap64 (4 + (Int.tmod (wrap64 (a2)) 47))), .int .i64 (wrap64 (1 + (wrap64 (a2)))), .int .i64 (wrap64 (1 + (Int.tmod (wrap64 (a2)) 50))), .int .i64 (Int.tmod (wrap64 (a2)) 4), .int .i64 (wrap64 (1 + (wrap64 (a2)))), .int .i64 31, .slice A0_6 l0_6.length c0_6, .slice A0_7 l0_7.length c0_7] 25 (0, 0)) (by (with_reducible repeat (first | refine blk_drewN ?_ _ | refine blk_drew ?_ | refine blk_alloc ?_ _)); exact BK185.out) hg (Kd.N_ne HO190.out BK185.out (by decide)))
                have n4_ := Aside0.mk (Kd.V_afterv (ok := (fun k_ => (P0_7_ k_ ∨ w.heap.size ≤ k_) ∧ k_ ≠ gb180 ∧ k_ ≠ gb185)) (by (with_reducible repeat (first | apply Kd.V_alloc | apply Kd.V_drewN | apply Kd.V_drew)); exact HO195.out) hg hat)
                have n5_ := Aside0.mk (Kd.V_afterv (ok := (fun k_ => (P0_7_ k_ ∨ w.heap.size ≤ k_) ∧ k_ ≠ gb180 ∧ k_ ≠ gb185)) (by (with_reducible repeat (first | apply Kd.V_alloc | apply Kd.V_drewN | apply Kd.V_drew)); exact HO203.out) hg hat)
                have n6_ := Aside0.mk (hb)
                have n7_ := Aside0.mk (ho)
                clear HO_181007
                clear HO_186007
                clear BK180
                clear BK185
                clear HO195
                clear HO203
                clear HB
                clear HO190
                have HO_181007 := n0_
                have HO_186007 := n1_
                have BK180 := n2_
                have BK185 := n3_
                have HO195 := n4_
                have HO203 := n5_
                have HB := n6_
                have HO198 := n7_
                clear n0_ n1_ n2_ n3_ n4_ n5_ n6_ n7_
                clear ho hb hg hat
                refine hK.out _ _ ⟨(blk_cell BK180.out 0).trans rfl, (blk_cell BK180.out 1).trans rfl, (blk_cell BK180.out 2).trans rfl, (blk_cell BK180.out 3).trans rfl, (blk_cell BK180.out 4).trans rfl, (blk_cell BK180.out 5).trans rfl, (blk_cell BK180.out 6).trans rfl, (blk_cell BK180.out 7).trans rfl⟩ (fun hHeld => ?_)
                clear hK K
                refine norm_ (a' := ?_) ?_ ?_
                rotate_left
                ·show Act.put _ (some 77) _ = _
                 simp only [Act.put, List.setIfInBounds_toArray, List.set_cons_zero, List.set_cons_succ, i64_w, i32_w]
                 rfl
                refine one_ (i := 11) (N := some 83) #[true, true, true, true, true, true, true, true, true, true, true, true, false, false] rfl rfl (one_of HT_.out (by kernel_rfl)) (by decide) (fun K hK => ?_)
                refine Kd.N_append_rows_step k37 (w0 := w) w.heap.size (by rfl) (.tmp 77) (.tmp 82) 23 37 (.agg #[(.int .i64 0), (.int .i64 0), (.int .i64 0), (.slice none 0 0), (.slice none 0 0), (.slice none 0 0)]) 96 rfl Try.underlying23 info37 rfl (by decide) (by omega) v197 y196 y199 _ _ _ (fun k_ => (P0_7_ k_ ∨ w.heap.size ≤ k_) ∧ k_ ≠ gb180 ∧ k_ ≠ gb185) (fun k_ => ((fun k_ => (P0_7_ k_ ∨ w.heap.size ≤ k_) ∧ k_ ≠ gb180 ∧ k_ ≠ gb185)) k_ ∧ some k_ ≠ (v197 : Value).ownBlock) rfl rfl ?aO ?aR (fun _ hk => hk) ?aF ?aB ?aS ?aL ?_
                (case aR => exact (by skip; exact Kd.V_F (Kd.V_mono (ok' := (fun k_ => ((fun k_ => (P0_7_ k_ ∨ w.heap.size ≤ k_) ∧ k_ ≠ gb180 ∧ k_ ≠ gb185)) k_ ∧ some k_ ≠ (v197 : Value).ownBlock)) (HO203.out) (fun k_ hk => ⟨⟨hk.1.1, ⟨hk.1.2.1, hk.1.2.2⟩⟩, hk.2⟩))))
                (case aB => exact (by repeat (first | (with_reducible first | exact HB.out | apply below_alloc | apply pw_below_drewN | apply below_drew1 | refine below_set ?_ (Aside0.out (by assumption))) | exact HB.out)))
                (case aF => exact (fun k_ hk => ⟨(.inr (Nat.le_trans (below_size (by repeat (first | (with_reducible first | exact HB.out | apply below_alloc | apply pw_below_drewN | apply below_drew1 | refine below_set ?_ (Aside0.out (by assumption))) | exact HB.out))) hk)), Kd.freshB (g := gb180) (o := .cells #[.int .i64 a0_0, .int .i64 a0_1, .int .i64 a0_2, .int .i64 a0_3, .int .i64 a0_4, .int .i64 a0_5, .slice A0_6 l0_6.length c0_6, .slice A0_7 l0_7.length c0_7] 25 (0, 0)) (by (with_reducible repeat (first | refine blk_drewN ?_ _ | refine blk_drew ?_ | refine blk_alloc ?_ _)); exact BK180.out) k_ hk, Kd.freshB (g := gb185) (o := .cells #[.int .i64 (wrap64 (4 + (Int.tmod (wrap64 (a2)) 47))), .int .i64 (wrap64 (1 + (wrap64 (a2)))), .int .i64 (wrap64 (1 + (Int.tmod (wrap64 (a2)) 50))), .int .i64 (Int.tmod (wrap64 (a2)) 4), .int .i64 (wrap64 (1 + (wrap64 (a2)))), .int .i64 31, .slice A0_6 l0_6.length c0_6, .slice A0_7 l0_7.length c0_7] 25 (0, 0)) (by (with_reducible repeat (first | refine blk_drewN ?_ _ | refine blk_drew ?_ | refine blk_alloc ?_ _)); exact BK185.out) k_ hk⟩))
                (case aO => exact (by (with_reducible repeat (first | apply Kd.N_alloc | apply Kd.N_drewN | apply Kd.N_drew)); exact HO198.out))
                (case aS => exact (below_size (by repeat (first | (with_reducible first | exact HB.out | apply below_alloc | apply pw_below_drewN | apply below_drew1 | refine below_set ?_ (Aside0.out (by assumption))) | exact HB.out))))
                (case aL => have := LMc36.out; omega)
                intro v205 w47 ho hb hg hat
                rw [← Ny204.out] at ho
                have n0_ := Aside0.mk (Kd.V_afterv (ok := (fun k_ => (P0_7_ k_ ∨ w.heap.size ≤ k_) ∧ k_ ≠ gb180 ∧ k_ ≠ gb185)) (by (with_reducible repeat (first | apply Kd.V_alloc | apply Kd.V_drewN | apply Kd.V_drew)); exact HO_181007.out) hg hat)
                have n1_ := Aside0.mk (Kd.V_afterv (ok := (fun k_ => (P0_7_ k_ ∨ w.heap.size ≤ k_) ∧ k_ ≠ gb180 ∧ k_ ≠ gb185)) (by (with_reducible repeat (first | apply Kd.V_alloc | apply Kd.V_drewN | apply Kd.V_drew)); exact HO_186007.out) hg hat)
                have n2_ := Aside0.mk (blk_grown (g := gb180) (o := .cells #[.int .i64 a0_0, .int .i64 a0_1, .int .i64 a0_2, .int .i64 a0_3, .int .i64 a0_4, .int .i64 a0_5, .slice A0_6 l0_6.length c0_6, .slice A0_7 l0_7.length c0_7] 25 (0, 0)) (by (with_reducible repeat (first | refine blk_drewN ?_ _ | refine blk_drew ?_ | refine blk_alloc ?_ _)); exact BK180.out) hg (Kd.N_ne HO198.out BK180.out (by decide)))
                have n3_ := Aside0.mk (blk_grown (g := gb185) (o := .cells #[.int .i64 (wrap64 (4 + (Int.tmod (wrap64 (a2)) 47))), .int .i64 (wrap64 (1 + (wrap64 (a2)))), .int .i64 (wrap64 (1 + (Int.tmod (wrap64 (a2)) 50))), .int .i64 (Int.tmod (wrap64 (a2)) 4), .int .i64 (wrap64 (1 + (wrap64 (a2)))), .int .i64 31, .slice A0_6 l0_6.length c0_6, .slice A0_7 l0_7.length c0_7] 25 (0, 0)) (by (with_reducible repeat (first | refine blk_drewN ?_ _ | refine blk_drew ?_ | refine blk_alloc ?_ _)); exact BK185.out) hg (Kd.N_ne HO198.out BK185.out (by decide)))
                have n4_ := Aside0.mk (Kd.V_afterv (ok := (fun k_ => (P0_7_ k_ ∨ w.heap.size ≤ k_) ∧ k_ ≠ gb180 ∧ k_ ≠ gb185)) (by (with_reducible repeat (first | apply Kd.V_alloc | apply Kd.V_drewN | apply Kd.V_drew)); exact HO195.out) hg hat)
                have n5_ := Aside0.mk (Kd.V_afterv (ok := (fun k_ => (P0_7_ k_ ∨ w.heap.size ≤ k_) ∧ k_ ≠ gb180 ∧ k_ ≠ gb185)) (by (with_reducible repeat (first | apply Kd.V_alloc | apply Kd.V_drewN | apply Kd.V_drew)); exact HO203.out) hg hat)
                have n6_ := Aside0.mk (hb)
                have n7_ := Aside0.mk (ho)
                clear HO_181007
                clear HO_186007
                clear BK180
                clear BK185
                clear HO195
                clear HO203
                clear HB
                clear HO198
                have HO_181007 := n0_
                have HO_186007 := n1_
                have BK180 := n2_
                have BK185 := n3_
                have HO195 := n4_
                have HO203 := n5_
                have HB := n6_
                have HO206 := n7_
                clear n0_ n1_ n2_ n3_ n4_ n5_ n6_ n7_
                clear ho hb hg hat
                obtain ⟨Ao48, co48, eo48⟩ := Kd.N_slice HO206.out
                (first | subst eo48 | (injection eo48 with f1_ f2_ f3_; have f4_ := f1_.symm; have f5_ := f3_.symm; clear f1_ f2_ f3_; subst f4_; subst f5_))
                refine hK.out _ _ ⟨(blk_cell BK180.out 0).trans rfl, (blk_cell BK180.out 1).trans rfl, (blk_cell BK180.out 2).trans rfl, (blk_cell BK180.out 3).trans rfl, (blk_cell BK180.out 4).trans rfl, (blk_cell BK180.out 5).trans rfl, (blk_cell BK180.out 6).trans rfl, (blk_cell BK180.out 7).trans rfl⟩ (fun hHeld => ?_)
                clear hK K
                refine norm_ (a' := ?_) ?_ ?_
                rotate_left
                ·show Act.put _ (some 83) _ = _
                 simp only [Act.put, List.setIfInBounds_toArray, List.set_cons_zero, List.set_cons_succ, i64_w, i32_w]
                 rfl
                refine pure_ (i := 12) (N := some 84) (v := ?_) (a' := ?_) #[true, true, true, true, true, true, true, true, true, true, true, true, true, false] rfl rfl (any_of HT_.out (by kernel_rfl)) (fun _ _ _ h => h) (Or.inl ⟨by rfl, ?_⟩) ?_ ?_
                rotate_left
                ·intro w'
                 go_simp
                 with_reducible rfl
                rotate_left
                ·simp only [Act.put, List.setIfInBounds_toArray, List.set_cons_zero, List.set_cons_succ, i64_w, i32_w]
                 rfl
                refine one_ (i := 13) (N := none) #[true, true, true, true, true, true, true, true, true, true, true, true, true, true] rfl rfl (one_of HT_.out (by kernel_rfl)) (by decide) (fun K hK => ?_)
                have hs49 : w47.cell? ⟨gb185, 7, none⟩ = some (.slice A0_7 l0_7.length c0_7) := (blk_cell BK185.out 7).trans rfl
                have hfs49 := blk_frozen BK185.out 7
                have hns49_0 := NB180_185.out
                have hms49_0 := NB185_180.out
                refine skip_ (w1 := ?_) (by rfl) rfl ?_ ?_
                rotate_left
                ·go_simp
                 rfl
                refine hK.out _ _ ⟨((cell_far (p := ⟨gb185, _, none⟩) NB180_185.out _).trans (hHeld.1)), ((cell_far (p := ⟨gb185, _, none⟩) NB180_185.out _).trans (hHeld.2.1)), ((cell_far (p := ⟨gb185, _, none⟩) NB180_185.out _).trans (hHeld.2.2.1)), ((cell_far (p := ⟨gb185, _, none⟩) NB180_185.out _).trans (hHeld.2.2.2.1)), ((cell_far (p := ⟨gb185, _, none⟩) NB180_185.out _).trans (hHeld.2.2.2.2.1)), ((cell_far (p := ⟨gb185, _, none⟩) NB180_185.out _).trans (hHeld.2.2.2.2.2.1)), ((cell_far (p := ⟨gb185, _, none⟩) NB180_185.out _).trans (hHeld.2.2.2.2.2.2.1)), ((cell_far (p := ⟨gb185, _, none⟩) NB180_185.out _).trans (hHeld.2.2.2.2.2.2.2))⟩ (fun hHeld => ?_)
                clear hK K
                refine done_ (done_of HT_.out (by kernel_rfl)) ?_
                obtain ⟨z50_0, z50_1, z50_2, z50_3, z50_4, z50_5, z50_6, z50_7, q50_0, q50_1, q50_2, q50_3, q50_4, q50_5, q50_6, q50_7⟩ := bk8 BK185
                try go_wp2_with (first | ((with_reducible refine gate_callee (f := 8) rfl ?_); refine goesK (some 87) Try.func8 #[.agg #[.int .i64 (wrap64 (4 + (Int.tmod (wrap64 (a2)) 47))), .int .i64 (wrap64 (1 + (wrap64 (a2)))), .int .i64 (wrap64 (1 + (Int.tmod (wrap64 (a2)) 50))), .int .i64 (Int.tmod (wrap64 (a2)) 4), .int .i64 (wrap64 (1 + (wrap64 (a2)))), .int .i64 31, .slice A0_6 l0_6.length c0_6, .slice Ao48 y204.length co48]] ?_; (with_reducible refine (config_Check.calls kj10 (wrap64 (4 + (Int.tmod (wrap64 (a2)) 47))) (wrap64 (1 + (wrap64 (a2)))) (wrap64 (1 + (Int.tmod (wrap64 (a2)) 50))) (Int.tmod (wrap64 (a2)) 4) (wrap64 (1 + (wrap64 (a2)))) 31 _ _ l0_6 _ _ y204 t207 t208 _ ?side1 ?side2 ?side3 ?side4 A37.out).mono ?_); (case side1 => exact sCb HR0_6 HB); (case side2 => exact HC0_6.out); (case side3 => refine (Kd.N_reads' (e := 37) (base := w.heap.size) (ok := fun k_ => ((P0_7_ k_ ∨ w.heap.size ≤ k_) ∧ (k_ ≠ gb180 ∧ k_ ≠ gb185))) (n := y204.length) (c := co48) ?_).2.2; exact (by (with_reducible repeat (first | apply Kd.N_alloc | apply Kd.N_drewN | apply Kd.N_drew)); exact (Kd.N_mono (Kd.N_far (p := ⟨gb185, 7, none⟩) (Kd.N_mono HO206.out (fun k_ hk => (⟨hk, hk.2.2⟩ : _ ∧ k_ ≠ gb185))) (fun _ hk => hk.2) (.slice Ao48 y204.length co48)) (fun _ h_ => h_.1)))); (case side4 => exact (Kd.N_reads' HO206.out).2.1); rintro e w51 ⟨rfl, hb⟩; refine ⟨_, rfl, ?_⟩; replace HO_181007 := Aside0.mk (Kd.V_below (by (with_reducible repeat (first | apply Kd.V_alloc | apply Kd.V_drewN | apply Kd.V_drew)); exact (Kd.V_mono (Kd.V_far (p := ⟨gb185, 7, none⟩) (Kd.V_mono HO_181007.out (fun k_ hk => (⟨hk, hk.1.2.2⟩ : _ ∧ k_ ≠ gb185))) (fun _ hk => hk.2) (.slice Ao48 y204.length co48)) (fun _ h_ => h_.1))) hb); replace HO_186007 := Aside0.mk (Kd.V_below (by (with_reducible repeat (first | apply Kd.V_alloc | apply Kd.V_drewN | apply Kd.V_drew)); exact (Kd.V_mono (Kd.V_far (p := ⟨gb185, 7, none⟩) (Kd.V_mono HO_186007.out (fun k_ hk => (⟨hk, hk.1.2.2⟩ : _ ∧ k_ ≠ gb185))) (fun _ hk => hk.2) (.slice Ao48 y204.length co48)) (fun _ h_ => h_.1))) hb); replace HO195 := Aside0.mk (Kd.V_below (by (with_reducible repeat (first | apply Kd.V_alloc | apply Kd.V_drewN | apply Kd.V_drew)); exact (Kd.V_mono (Kd.V_far (p := ⟨gb185, 7, none⟩) (Kd.V_mono HO195.out (fun k_ hk => (⟨hk, hk.1.2.2⟩ : _ ∧ k_ ≠ gb185))) (fun _ hk => hk.2) (.slice Ao48 y204.length co48)) (fun _ h_ => h_.1))) hb); replace HO203 := Aside0.mk (Kd.V_below (by (with_reducible repeat (first | apply Kd.V_alloc | apply Kd.V_drewN | apply Kd.V_drew)); exact (Kd.V_mono (Kd.V_far (p := ⟨gb185, 7, none⟩) (Kd.V_mono HO203.out (fun k_ hk => (⟨hk, hk.1.2.2⟩ : _ ∧ k_ ≠ gb185))) (fun _ hk => hk.2) (.slice Ao48 y204.length co48)) (fun _ h_ => h_.1))) hb); replace HO206 := Aside0.mk (Kd.N_below (by (with_reducible repeat (first | apply Kd.N_alloc | apply Kd.N_drewN | apply Kd.N_drew)); exact (Kd.N_mono (Kd.N_far (p := ⟨gb185, 7, none⟩) (Kd.N_mono HO206.out (fun k_ hk => (⟨hk, hk.2.2⟩ : _ ∧ k_ ≠ gb185))) (fun _ hk => hk.2) (.slice Ao48 y204.length co48)) (fun _ h_ => h_.1))) hb); replace BK180 := Aside0.mk (blk_below (g := gb180) (o := .cells #[.int .i64 a0_0, .int .i64 a0_1, .int .i64 a0_2, .int .i64 a0_3, .int .i64 a0_4, .int .i64 a0_5, .slice A0_6 l0_6.length c0_6, .slice A0_7 l0_7.length c0_7] 25 (0, 0)) (by (with_reducible repeat (first | refine blk_drewN ?_ _ | refine blk_drew ?_ | refine blk_alloc ?_ _)); refine blk_far ?_ NB180_185.out _; (with_reducible repeat (first | refine blk_drewN ?_ _ | refine blk_drew ?_ | refine blk_alloc ?_ _)); exact BK180.out) hb); replace BK185 := Aside0.mk (blk_below (g := gb185) (o := .cells #[.int .i64 (wrap64 (4 + (Int.tmod (wrap64 (a2)) 47))), .int .i64 (wrap64 (1 + (wrap64 (a2)))), .int .i64 (wrap64 (1 + (Int.tmod (wrap64 (a2)) 50))), .int .i64 (Int.tmod (wrap64 (a2)) 4), .int .i64 (wrap64 (1 + (wrap64 (a2)))), .int .i64 31, .slice A0_6 l0_6.length c0_6, .slice Ao48 y204.length co48] 25 (0, 0)) (by (with_reducible repeat (first | refine blk_drewN ?_ _ | refine blk_drew ?_ | refine blk_alloc ?_ _)); refine blk_put (cs := #[.int .i64 (wrap64 (4 + (Int.tmod (wrap64 (a2)) 47))), .int .i64 (wrap64 (1 + (wrap64 (a2)))), .int .i64 (wrap64 (1 + (Int.tmod (wrap64 (a2)) 50))), .int .i64 (Int.tmod (wrap64 (a2)) 4), .int .i64 (wrap64 (1 + (wrap64 (a2)))), .int .i64 31, .slice A0_6 l0_6.length c0_6, .slice A0_7 l0_7.length c0_7]) ?_ 7 _ rfl; (with_reducible repeat (first | refine blk_drewN ?_ _ | refine blk_drew ?_ | refine blk_alloc ?_ _)); exact BK185.out) hb); replace HB := sB HB hb; (try clear hb); (try clear hk)))
                go_ret
                exact ⟨by first | rfl | (simp [errW_none, errW_some] <;> rfl) | (simp only [← hji29, ← hji33]; first | rfl | (simp [errW_none, errW_some] <;> rfl)) | (simp [*, errW_none, errW_some] <;> rfl), by repeat (first | (with_reducible first | exact HB.out | apply below_alloc | apply pw_below_drewN | apply below_drew1 | refine below_set ?_ (Aside0.out (by assumption))) | exact HB.out)⟩
               ·rw [if_neg c38] at H
                have c38b0 : (t207 == 0) = false := beq_eq_false_iff_ne.mpr c38
                have c38b1 : (t207 != 0) = true := bne_iff_ne.mpr c38
                obtain rfl := Option.some.inj H
                have hnb52 := NB180_185.out
                have hnc52 := NB185_180.out
                obtain ⟨z53_0, z53_1, z53_2, z53_3, z53_4, z53_5, z53_6, z53_7, q53_0, q53_1, q53_2, q53_3, q53_4, q53_5, q53_6, q53_7⟩ := bk8 BK180
                try go_wp2
                have n0_ := Aside0.mk (Kd.V_drew HO_181007.out)
                have n1_ := Aside0.mk (Kd.V_drew HO_186007.out)
                have n2_ := Aside0.mk (blk_drew BK180.out)
                have n3_ := Aside0.mk (blk_drew BK185.out)
                have n4_ := Aside0.mk (below_drew1 HB.out)
                clear HO_181007
                clear HO_186007
                clear BK180
                clear BK185
                clear HB
                have HO_181007 := n0_
                have HO_186007 := n1_
                have BK180 := n2_
                have BK185 := n3_
                have HB := n4_
                clear n0_ n1_ n2_ n3_ n4_
                have q55 : ((ji29) : Int) ≤ ((l0_7.length : Int) : Int) := of_decide_eq_true (by first | (with_reducible assumption) | assumption)
                obtain ⟨i055, hi055, _, hsz55, _⟩ := info_parts info37
                have hroom55 : l0_7.length ≤ c0_7 := (Kd.V_reads' HO_181007.out).2.1
                have hC55 : Kd.F k37 _ _ A0_7 l0_7.length l0_7 := (Kd.V_at (base := w.heap.size) HO_181007.out).2.2
                have hcut55 := cut_to (P := Try.prog) 23 37 .i64 Try.underlying23 hi055 A0_7 l0_7.length c0_7 (ji29) (of_decide_eq_true (by first | (with_reducible assumption) | assumption)) q55 hroom55
                have hr55 := Kd.F_take (m := ((ji29) : Int).toNat) hC55 (by omega)
                have hy55 : y191.length = ((ji29) : Int).toNat := (by rw [Ny191.out, List.length_take]; omega)
                rw [← Ny191.out] at hr55
                rw [← hy55] at hcut55
                have HO195 := Aside0.mk (show Kd.V k37 37 _ w.heap.size _ (.slice A0_7 y191.length c0_7) y191 from Kd.V_mk (by omega) hr55)
                have HC195 := Aside0.mk (show y191.length ≤ c0_7 from by omega)
                clear hr55 hC55 hroom55 hi055 hsz55
                have KY55 := Aside0.mk hy55
                clear hy55
                replace q55 := eq_true q55
                have q56 : ((ji33) : Int) ≤ ((l0_7.length : Int) : Int) := of_decide_eq_true (by first | (with_reducible assumption) | assumption)
                obtain ⟨i056, hi056, _, hsz56, _⟩ := info_parts info37
                have hroom56 : l0_7.length ≤ c0_7 := (Kd.V_reads' HO_181007.out).2.1
                have hC56 : Kd.F k37 _ _ A0_7 l0_7.length l0_7 := (Kd.V_at (base := w.heap.size) HO_181007.out).2.2
                have q056 : (0 : Int) ≤ ((ji33) : Int) := of_decide_eq_true (by first | (with_reducible assumption) | assumption)
                have hcut56 := cut_from (P := Try.prog) 23 37 .i64 Try.underlying23 hi056 6 hsz56 A0_7 l0_7.length c0_7 (ji33) q056 q56
                have hr56 := Kd.F_cut (m := ((ji33) : Int).toNat) (c := c0_7) hC56 (by omega) hroom56
                obtain ⟨A56, hA56⟩ : ∃ A1, A1 = (if c0_7 = ((ji33) : Int).toNat then A0_7 else (A0_7 : Option Addr).map (·.add (((ji33) : Int).toNat * 6))) := ⟨_, rfl⟩
                obtain ⟨c56, hc56⟩ : ∃ c1, c1 = c0_7 - ((ji33) : Int).toNat := ⟨_, rfl⟩
                have hy56 : y199.length = l0_7.length - ((ji33) : Int).toNat := (by rw [Ny199.out, List.length_drop] <;> omega)
                rw [show (l0_7).drop ((ji33) : Int).toNat = y199 from Ny199.out.symm] at hr56
                replace hr56 : Kd.F k37 _ _ A56 y199.length y199 := (by rw [hA56]; exact hr56)
                rw [← hy56, ← hA56, ← hc56] at hcut56
                have HO203 := Aside0.mk (show Kd.V k37 37 _ w.heap.size _ (.slice A56 y199.length c56) y199 from Kd.V_mk (by rw [hy56, hc56]; exact Nat.sub_le_sub_right hroom56 _) hr56)
                have HC203 := Aside0.mk (show y199.length ≤ c56 from by rw [hy56, hc56]; exact Nat.sub_le_sub_right hroom56 _)
                clear hr56 hC56 hroom56 hi056 hsz56 hc56
                have KY56 := Aside0.mk hy56
                have KA56 := Aside0.mk hA56
                clear hy56 hA56
                replace q56 := eq_true q56
                refine start_ (n := 14) (S := fun w' => w'.cell? ⟨gb180, 0, none⟩ = some (.int .i64 a0_0) ∧ w'.cell? ⟨gb180, 1, none⟩ = some (.int .i64 a0_1) ∧ w'.cell? ⟨gb180, 2, none⟩ = some (.int .i64 a0_2) ∧ w'.cell? ⟨gb180, 3, none⟩ = some (.int .i64 a0_3) ∧ w'.cell? ⟨gb180, 4, none⟩ = some (.int .i64 a0_4) ∧ w'.cell? ⟨gb180, 5, none⟩ = some (.int .i64 a0_5) ∧ w'.cell? ⟨gb180, 6, none⟩ = some (.slice A0_6 l0_6.length c0_6) ∧ w'.cell? ⟨gb180, 7, none⟩ = some (.slice A0_7 l0_7.length c0_7)) (ds := []) #[false, false, false, false, false, false, false, false, false, false, false, false, false, false] (by kernel_rfl) rfl rfl ⟨(blk_cell BK180.out 0).trans rfl, (blk_cell BK180.out 1).trans rfl, (blk_cell BK180.out 2).trans rfl, (blk_cell BK180.out 3).trans rfl, (blk_cell BK180.out 4).trans rfl, (blk_cell BK180.out 5).trans rfl, (blk_cell BK180.out 6).trans rfl, (blk_cell BK180.out 7).trans rfl⟩ (fun hHeld => ?_); refine with_tabW fuglemanlaw20_ConfigParts.tab16 fuglemanlaw20_ConfigParts.bits16 (fun HT_ HW_ => ?_)
                generalize wc.drew = w54 at HO_181007 HO_186007 BK180 BK185 HB HO195 HO203 hHeld ⊢
                refine pure_ (i := 1) (N := some 73) (v := ?_) (a' := ?_) #[false, true, false, false, false, false, false, false, false, false, false, false, false, false] rfl rfl (any_of HT_.out (by kernel_rfl)) (fun _ _ _ h => h) (Or.inl ⟨by rfl, ?_⟩) ?_ ?_
                rotate_left
                ·intro w'
                 go_simp
                 with_reducible rfl
                rotate_left
                ·simp only [Act.put, List.setIfInBounds_toArray, List.set_cons_zero, List.set_cons_succ, i64_w, i32_w]
                 rfl
                refine pure_ (i := 3) (N := some 75) (v := ?_) (a' := ?_) #[false, true, false, true, false, false, false, false, false, false, false, false, false, false] rfl rfl (any_of HT_.out (by kernel_rfl)) (fun _ _ _ h => h) (Or.inl ⟨by rfl, ?_⟩) ?_ ?_
                rotate_left
                ·intro w'
                 go_simp
                 with_reducible rfl
                rotate_left
                ·simp only [Act.put, List.setIfInBounds_toArray, List.set_cons_zero, List.set_cons_succ, i64_w, i32_w]
                 rfl
                refine pure_ (i := 6) (N := some 78) (v := ?_) (a' := ?_) #[false, true, false, true, false, false, true, false, false, false, false, false, false, false] rfl rfl (any_of HT_.out (by kernel_rfl)) (fun _ _ _ h => h) (Or.inl ⟨by rfl, ?_⟩) ?_ ?_
                rotate_left
                ·intro w'
                 go_simp
                 with_reducible rfl
                rotate_left
                ·simp only [Act.put, List.setIfInBounds_toArray, List.set_cons_zero, List.set_cons_succ, i64_w, i32_w]
                 rfl
                refine pure_ (i := 8) (N := some 80) (v := ?_) (a' := ?_) #[false, true, false, true, false, false, true, false, true, false, false, false, false, false] rfl rfl (any_of HT_.out (by kernel_rfl)) (fun _ _ _ h => h) (Or.inl ⟨by rfl, ?_⟩) ?_ ?_
                rotate_left
                ·intro w'
                 go_simp
                 with_reducible rfl
                rotate_left
                ·simp only [Act.put, List.setIfInBounds_toArray, List.set_cons_zero, List.set_cons_succ, i64_w, i32_w]
                 rfl
                refine pure_ (i := 9) (N := some 81) (v := ?_) (a' := ?_) #[false, true, false, true, false, false, true, false, true, true, false, false, false, false] rfl rfl (any_of HT_.out (by kernel_rfl)) (fun _ _ _ h => h) (Or.inl ⟨by rfl, ?_⟩) ?_ ?_
                rotate_left
                ·intro w'
                 go_simp
                 with_reducible rfl
                rotate_left
                ·simp only [Act.put, List.setIfInBounds_toArray, List.set_cons_zero, List.set_cons_succ, i64_w, i32_w]
                 rfl
                refine take_ (i := 2) (N := some 74) (v := ?_) (a' := ?_) #[false, true, true, true, false, false, true, false, true, true, false, false, false, false] rfl rfl (take_ofW HT_.out HW_.out (by kernel_rfl)) (fun _ _ _ h => h) (Or.inl ⟨by rfl, ?_⟩) hHeld ?_ ?_
                rotate_left
                ·rintro w' ⟨s0, s1, s2, s3, s4, s5, s6, s7⟩
                 go_simp
                 with_reducible rfl
                rotate_left
                ·simp only [Act.put, List.setIfInBounds_toArray, List.set_cons_zero, List.set_cons_succ, i64_w, i32_w]
                 rfl
                refine pure_ (i := 4) (N := some 76) (v := ?_) (a' := ?_) #[false, true, true, true, true, false, true, false, true, true, false, false, false, false] rfl rfl (any_of HT_.out (by kernel_rfl)) (fun _ _ _ h => h) (Or.inl ⟨by rfl, ?_⟩) ?_ ?_
                rotate_left
                ·intro w'
                 go_simp
                 with_reducible rfl
                rotate_left
                ·simp only [Act.put, List.setIfInBounds_toArray, List.set_cons_zero, List.set_cons_succ, i64_w, i32_w]
                 rfl
                refine take_ (i := 7) (N := some 79) (v := ?_) (a' := ?_) #[false, true, true, true, true, false, true, true, true, true, false, false, false, false] rfl rfl (take_ofW HT_.out HW_.out (by kernel_rfl)) (fun _ _ _ h => h) (Or.inl ⟨by rfl, ?_⟩) hHeld ?_ ?_
                rotate_left
                ·rintro w' ⟨s0, s1, s2, s3, s4, s5, s6, s7⟩
                 go_simp
                 with_reducible rfl
                rotate_left
                ·simp only [Act.put, List.setIfInBounds_toArray, List.set_cons_zero, List.set_cons_succ, i64_w, i32_w]
                 rfl
                refine pure_ (i := 10) (N := some 82) (v := ?_) (a' := ?_) #[false, true, true, true, true, false, true, true, true, true, true, false, false, false] rfl rfl (any_of HT_.out (by kernel_rfl)) (fun _ _ _ h => h) (Or.inl ⟨by rfl, ?_⟩) ?_ ?_
                rotate_left
                ·intro w'
                 go_simp
                 with_reducible rfl
                rotate_left
                ·simp only [Act.put, List.setIfInBounds_toArray, List.set_cons_zero, List.set_cons_succ, i64_w, i32_w]
                 rfl
                refine one_ (i := 0) (N := some 72) #[true, true, true, true, true, false, true, true, true, true, true, false, false, false] rfl rfl (one_of HT_.out (by kernel_rfl)) (by decide) (fun K hK => ?_)
                refine Kd.N_lit_step k37 _ 37 ?hg (N' := 72) ?hd (xs := ([] : List (S37))) (inner := []) (ok := (fun k_ => (P0_7_ k_ ∨ w.heap.size ≤ k_) ∧ k_ ≠ gb180 ∧ k_ ≠ gb185)) (okp := (fun k_ => (P0_7_ k_ ∨ w.heap.size ≤ k_) ∧ k_ ≠ gb180 ∧ k_ ≠ gb185)) ?hr ?hp (fun _ hk => hk) ((show ∀ k_, w54.heap.size ≤ k_ → (fun k_ => (P0_7_ k_ ∨ w.heap.size ≤ k_) ∧ k_ ≠ gb180 ∧ k_ ≠ gb185) k_ from fun k_ hk => ⟨(.inr (Nat.le_trans (below_size (by repeat (first | (with_reducible first | exact HB.out | apply below_alloc | apply pw_below_drewN | apply below_drew1 | refine below_set ?_ (Aside0.out (by assumption))) | exact HB.out))) hk)), Kd.freshB (g := gb180) (o := .cells #[.int .i64 a0_0, .int .i64 a0_1, .int .i64 a0_2, .int .i64 a0_3, .int .i64 a0_4, .int .i64 a0_5, .slice A0_6 l0_6.length c0_6, .slice A0_7 l0_7.length c0_7] 25 (0, 0)) (by (with_reducible repeat (first | refine blk_drewN ?_ _ | refine blk_drew ?_ | refine blk_alloc ?_ _)); exact BK180.out) k_ hk, Kd.freshB (g := gb185) (o := .cells #[.int .i64 (wrap64 (4 + (Int.tmod (wrap64 (a2)) 47))), .int .i64 (wrap64 (1 + (wrap64 (a2)))), .int .i64 (wrap64 (1 + (Int.tmod (wrap64 (a2)) 50))), .int .i64 (Int.tmod (wrap64 (a2)) 4), .int .i64 (wrap64 (1 + (wrap64 (a2)))), .int .i64 31, .slice A0_6 l0_6.length c0_6, .slice A0_7 l0_7.length c0_7] 25 (0, 0)) (by (with_reducible repeat (first | refine blk_drewN ?_ _ | refine blk_drew ?_ | refine blk_alloc ?_ _)); exact BK185.out) k_ hk⟩) _ (Nat.le_refl _)) (Below.refl _ _) (Nat.le_refl _) (by simp) ?_; (case hd => rfl); (case hg => rfl); (case hr => first | (go_simp; done) | (go_simp; rfl)); (case hp => exact (Reps.none _ _))
                intro v189 w57 ho58 hb hg_ hnew_
                clear hg_ hnew_
                (first | rw [← Ny188.out] at ho58 | (simp only [Int.reduceToNat] at ho58; rw [← Ny188.out] at ho58))
                have n0_ := Aside0.mk (Kd.V_elder' (by (with_reducible repeat (first | apply Kd.V_alloc | apply Kd.V_drewN | apply Kd.V_drew)); exact HO_181007.out) (Kd.N_base ho58) hb)
                have n1_ := Aside0.mk (Kd.V_elder' (by (with_reducible repeat (first | apply Kd.V_alloc | apply Kd.V_drewN | apply Kd.V_drew)); exact HO_186007.out) (Kd.N_base ho58) hb)
                have n2_ := Aside0.mk (Kd.V_elder' (by (with_reducible repeat (first | apply Kd.V_alloc | apply Kd.V_drewN | apply Kd.V_drew)); exact HO195.out) (Kd.N_base ho58) hb)
                have n3_ := Aside0.mk (Kd.V_elder' (by (with_reducible repeat (first | apply Kd.V_alloc | apply Kd.V_drewN | apply Kd.V_drew)); exact HO203.out) (Kd.N_base ho58) hb)
                have n4_ := Aside0.mk (Kd.N_lower ho58 (below_size (by repeat (first | (with_reducible first | exact HB.out | apply below_alloc | apply pw_below_drewN | apply below_drew1 | refine below_set ?_ (Aside0.out (by assumption))) | exact HB.out))))
                have n5_ := sK BK180 hb
                have n6_ := sK BK185 hb
                have n7_ := sB HB hb
                clear HO_181007
                clear HO_186007
                clear HO195
                clear HO203
                clear BK180
                clear BK185
                clear HB
                have HO_181007 := n0_
                have HO_186007 := n1_
                have HO195 := n2_
                have HO203 := n3_
                have HO190 := n4_
                have BK180 := n5_
                have BK185 := n6_
                have HB := n7_
                clear n0_ n1_ n2_ n3_ n4_ n5_ n6_ n7_
                clear hb ho58
                refine hK.out _ _ ⟨(blk_cell BK180.out 0).trans rfl, (blk_cell BK180.out 1).trans rfl, (blk_cell BK180.out 2).trans rfl, (blk_cell BK180.out 3).trans rfl, (blk_cell BK180.out 4).trans rfl, (blk_cell BK180.out 5).trans rfl, (blk_cell BK180.out 6).trans rfl, (blk_cell BK180.out 7).trans rfl⟩ (fun hHeld => ?_)
                clear hK K
                refine norm_ (a' := ?_) ?_ ?_
                rotate_left
                ·show Act.put _ (some 72) _ = _
                 simp only [Act.put, List.setIfInBounds_toArray, List.set_cons_zero, List.set_cons_succ, i64_w, i32_w]
                 rfl
                refine one_ (i := 5) (N := some 77) #[true, true, true, true, true, true, true, true, true, true, true, false, false, false] rfl rfl (one_of HT_.out (by kernel_rfl)) (by decide) (fun K hK => ?_)
                refine Kd.N_append_rows_step k37 (w0 := w) w.heap.size (by rfl) (.tmp 72) (.tmp 76) 23 37 (.agg #[(.int .i64 0), (.int .i64 0), (.int .i64 0), (.slice none 0 0), (.slice none 0 0), (.slice none 0 0)]) 96 rfl Try.underlying23 info37 rfl (by decide) (by omega) v189 y188 y191 _ _ _ (fun k_ => (P0_7_ k_ ∨ w.heap.size ≤ k_) ∧ k_ ≠ gb180 ∧ k_ ≠ gb185) (fun k_ => ((fun k_ => (P0_7_ k_ ∨ w.heap.size ≤ k_) ∧ k_ ≠ gb180 ∧ k_ ≠ gb185)) k_ ∧ some k_ ≠ (v189 : Value).ownBlock) rfl rfl ?aO ?aR (fun _ hk => hk) ?aF ?aB ?aS ?aL ?_
                (case aR => exact (by skip; exact Kd.V_F (Kd.V_mono (ok' := (fun k_ => ((fun k_ => (P0_7_ k_ ∨ w.heap.size ≤ k_) ∧ k_ ≠ gb180 ∧ k_ ≠ gb185)) k_ ∧ some k_ ≠ (v189 : Value).ownBlock)) (HO195.out) (fun k_ hk => ⟨⟨hk.1.1, ⟨hk.1.2.1, hk.1.2.2⟩⟩, hk.2⟩))))
                (case aB => exact (by repeat (first | (with_reducible first | exact HB.out | apply below_alloc | apply pw_below_drewN | apply below_drew1 | refine below_set ?_ (Aside0.out (by assumption))) | exact HB.out)))
                (case aF => exact (fun k_ hk => ⟨(.inr (Nat.le_trans (below_size (by repeat (first | (with_reducible first | exact HB.out | apply below_alloc | apply pw_below_drewN | apply below_drew1 | refine below_set ?_ (Aside0.out (by assumption))) | exact HB.out))) hk)), Kd.freshB (g := gb180) (o := .cells #[.int .i64 a0_0, .int .i64 a0_1, .int .i64 a0_2, .int .i64 a0_3, .int .i64 a0_4, .int .i64 a0_5, .slice A0_6 l0_6.length c0_6, .slice A0_7 l0_7.length c0_7] 25 (0, 0)) (by (with_reducible repeat (first | refine blk_drewN ?_ _ | refine blk_drew ?_ | refine blk_alloc ?_ _)); exact BK180.out) k_ hk, Kd.freshB (g := gb185) (o := .cells #[.int .i64 (wrap64 (4 + (Int.tmod (wrap64 (a2)) 47))), .int .i64 (wrap64 (1 + (wrap64 (a2)))), .int .i64 (wrap64 (1 + (Int.tmod (wrap64 (a2)) 50))), .int .i64 (Int.tmod (wrap64 (a2)) 4), .int .i64 (wrap64 (1 + (wrap64 (a2)))), .int .i64 31, .slice A0_6 l0_6.length c0_6, .slice A0_7 l0_7.length c0_7] 25 (0, 0)) (by (with_reducible repeat (first | refine blk_drewN ?_ _ | refine blk_drew ?_ | refine blk_alloc ?_ _)); exact BK185.out) k_ hk⟩))
                (case aO => exact (by (with_reducible repeat (first | apply Kd.N_alloc | apply Kd.N_drewN | apply Kd.N_drew)); exact HO190.out))
                (case aS => exact (below_size (by repeat (first | (with_reducible first | exact HB.out | apply below_alloc | apply pw_below_drewN | apply below_drew1 | refine below_set ?_ (Aside0.out (by assumption))) | exact HB.out))))
                (case aL => have := LMc32.out; omega)
                intro v197 w59 ho hb hg hat
                rw [← Ny196.out] at ho
                have n0_ := Aside0.mk (Kd.V_afterv (ok := (fun k_ => (P0_7_ k_ ∨ w.heap.size ≤ k_) ∧ k_ ≠ gb180 ∧ k_ ≠ gb185)) (by (with_reducible repeat (first | apply Kd.V_alloc | apply Kd.V_drewN | apply Kd.V_drew)); exact HO_181007.out) hg hat)
                have n1_ := Aside0.mk (Kd.V_afterv (ok := (fun k_ => (P0_7_ k_ ∨ w.heap.size ≤ k_) ∧ k_ ≠ gb180 ∧ k_ ≠ gb185)) (by (with_reducible repeat (first | apply Kd.V_alloc | apply Kd.V_drewN | apply Kd.V_drew)); exact HO_186007.out) hg hat)
                have n2_ := Aside0.mk (blk_grown (g := gb180) (o := .cells #[.int .i64 a0_0, .int .i64 a0_1, .int .i64 a0_2, .int .i64 a0_3, .int .i64 a0_4, .int .i64 a0_5, .slice A0_6 l0_6.length c0_6, .slice A0_7 l0_7.length c0_7] 25 (0, 0)) (by (with_reducible repeat (first | refine blk_drewN ?_ _ | refine blk_drew ?_ | refine blk_alloc ?_ _)); exact BK180.out) hg (Kd.N_ne HO190.out BK180.out (by decide)))
                have n3_ := Aside0.mk (blk_grown (g := gb185) (o := .cells #[.int .i64 (wrap64 (4 + (Int.tmod (wrap64 (a2)) 47))), .int .i64 (wrap64 (1 + (wrap64 (a2)))), .int .i64 (wrap64 (1 + (Int.tmod (wrap64 (a2)) 50))), .int .i64 (Int.tmod (wrap64 (a2)) 4), .int .i64 (wrap64 (1 + (wrap64 (a2)))), .int .i64 31, .slice A0_6 l0_6.length c0_6, .slice A0_7 l0_7.length c0_7] 25 (0, 0)) (by (with_reducible repeat (first | refine blk_drewN ?_ _ | refine blk_drew ?_ | refine blk_alloc ?_ _)); exact BK185.out) hg (Kd.N_ne HO190.out BK185.out (by decide)))
                have n4_ := Aside0.mk (Kd.V_afterv (ok := (fun k_ => (P0_7_ k_ ∨ w.heap.size ≤ k_) ∧ k_ ≠ gb180 ∧ k_ ≠ gb185)) (by (with_reducible repeat (first | apply Kd.V_alloc | apply Kd.V_drewN | apply Kd.V_drew)); exact HO195.out) hg hat)
                have n5_ := Aside0.mk (Kd.V_afterv (ok := (fun k_ => (P0_7_ k_ ∨ w.heap.size ≤ k_) ∧ k_ ≠ gb180 ∧ k_ ≠ gb185)) (by (with_reducible repeat (first | apply Kd.V_alloc | apply Kd.V_drewN | apply Kd.V_drew)); exact HO203.out) hg hat)
                have n6_ := Aside0.mk (hb)
                have n7_ := Aside0.mk (ho)
                clear HO_181007
                clear HO_186007
                clear BK180
                clear BK185
                clear HO195
                clear HO203
                clear HB
                clear HO190
                have HO_181007 := n0_
                have HO_186007 := n1_
                have BK180 := n2_
                have BK185 := n3_
                have HO195 := n4_
                have HO203 := n5_
                have HB := n6_
                have HO198 := n7_
                clear n0_ n1_ n2_ n3_ n4_ n5_ n6_ n7_
                clear ho hb hg hat
                refine hK.out _ _ ⟨(blk_cell BK180.out 0).trans rfl, (blk_cell BK180.out 1).trans rfl, (blk_cell BK180.out 2).trans rfl, (blk_cell BK180.out 3).trans rfl, (blk_cell BK180.out 4).trans rfl, (blk_cell BK180.out 5).trans rfl, (blk_cell BK180.out 6).trans rfl, (blk_cell BK180.out 7).trans rfl⟩ (fun hHeld => ?_)
                clear hK K
                refine norm_ (a' := ?_) ?_ ?_
                rotate_left
                ·show Act.put _ (some 77) _ = _
                 simp only [Act.put, List.setIfInBounds_toArray, List.set_cons_zero, List.set_cons_succ, i64_w, i32_w]
                 rfl
                refine one_ (i := 11) (N := some 83) #[true, true, true, true, true, true, true, true, true, true, true, true, false, false] rfl rfl (one_of HT_.out (by kernel_rfl)) (by decide) (fun K hK => ?_)
                refine Kd.N_append_rows_step k37 (w0 := w) w.heap.size (by rfl) (.tmp 77) (.tmp 82) 23 37 (.agg #[(.int .i64 0), (.int .i64 0), (.int .i64 0), (.slice none 0 0), (.slice none 0 0), (.slice none 0 0)]) 96 rfl Try.underlying23 info37 rfl (by decide) (by omega) v197 y196 y199 _ _ _ (fun k_ => (P0_7_ k_ ∨ w.heap.size ≤ k_) ∧ k_ ≠ gb180 ∧ k_ ≠ gb185) (fun k_ => ((fun k_ => (P0_7_ k_ ∨ w.heap.size ≤ k_) ∧ k_ ≠ gb180 ∧ k_ ≠ gb185)) k_ ∧ some k_ ≠ (v197 : Value).ownBlock) rfl rfl ?aO ?aR (fun _ hk => hk) ?aF ?aB ?aS ?aL ?_
                (case aR => exact (by skip; exact Kd.V_F (Kd.V_mono (ok' := (fun k_ => ((fun k_ => (P0_7_ k_ ∨ w.heap.size ≤ k_) ∧ k_ ≠ gb180 ∧ k_ ≠ gb185)) k_ ∧ some k_ ≠ (v197 : Value).ownBlock)) (HO203.out) (fun k_ hk => ⟨⟨hk.1.1, ⟨hk.1.2.1, hk.1.2.2⟩⟩, hk.2⟩))))
                (case aB => exact (by repeat (first | (with_reducible first | exact HB.out | apply below_alloc | apply pw_below_drewN | apply below_drew1 | refine below_set ?_ (Aside0.out (by assumption))) | exact HB.out)))
                (case aF => exact (fun k_ hk => ⟨(.inr (Nat.le_trans (below_size (by repeat (first | (with_reducible first | exact HB.out | apply below_alloc | apply pw_below_drewN | apply below_drew1 | refine below_set ?_ (Aside0.out (by assumption))) | exact HB.out))) hk)), Kd.freshB (g := gb180) (o := .cells #[.int .i64 a0_0, .int .i64 a0_1, .int .i64 a0_2, .int .i64 a0_3, .int .i64 a0_4, .int .i64 a0_5, .slice A0_6 l0_6.length c0_6, .slice A0_7 l0_7.length c0_7] 25 (0, 0)) (by (with_reducible repeat (first | refine blk_drewN ?_ _ | refine blk_drew ?_ | refine blk_alloc ?_ _)); exact BK180.out) k_ hk, Kd.freshB (g := gb185) (o := .cells #[.int .i64 (wrap64 (4 + (Int.tmod (wrap64 (a2)) 47))), .int .i64 (wrap64 (1 + (wrap64 (a2)))), .int .i64 (wrap64 (1 + (Int.tmod (wrap64 (a2)) 50))), .int .i64 (Int.tmod (wrap64 (a2)) 4), .int .i64 (wrap64 (1 + (wrap64 (a2)))), .int .i64 31, .slice A0_6 l0_6.length c0_6, .slice A0_7 l0_7.length c0_7] 25 (0, 0)) (by (with_reducible repeat (first | refine blk_drewN ?_ _ | refine blk_drew ?_ | refine blk_alloc ?_ _)); exact BK185.out) k_ hk⟩))
                (case aO => exact (by (with_reducible repeat (first | apply Kd.N_alloc | apply Kd.N_drewN | apply Kd.N_drew)); exact HO198.out))
                (case aS => exact (below_size (by repeat (first | (with_reducible first | exact HB.out | apply below_alloc | apply pw_below_drewN | apply below_drew1 | refine below_set ?_ (Aside0.out (by assumption))) | exact HB.out))))
                (case aL => have := LMc36.out; omega)
                intro v205 w60 ho hb hg hat
                rw [← Ny204.out] at ho
                have n0_ := Aside0.mk (Kd.V_afterv (ok := (fun k_ => (P0_7_ k_ ∨ w.heap.size ≤ k_) ∧ k_ ≠ gb180 ∧ k_ ≠ gb185)) (by (with_reducible repeat (first | apply Kd.V_alloc | apply Kd.V_drewN | apply Kd.V_drew)); exact HO_181007.out) hg hat)
                have n1_ := Aside0.mk (Kd.V_afterv (ok := (fun k_ => (P0_7_ k_ ∨ w.heap.size ≤ k_) ∧ k_ ≠ gb180 ∧ k_ ≠ gb185)) (by (with_reducible repeat (first | apply Kd.V_alloc | apply Kd.V_drewN | apply Kd.V_drew)); exact HO_186007.out) hg hat)
                have n2_ := Aside0.mk (blk_grown (g := gb180) (o := .cells #[.int .i64 a0_0, .int .i64 a0_1, .int .i64 a0_2, .int .i64 a0_3, .int .i64 a0_4, .int .i64 a0_5, .slice A0_6 l0_6.length c0_6, .slice A0_7 l0_7.length c0_7] 25 (0, 0)) (by (with_reducible repeat (first | refine blk_drewN ?_ _ | refine blk_drew ?_ | refine blk_alloc ?_ _)); exact BK180.out) hg (Kd.N_ne HO198.out BK180.out (by decide)))
                have n3_ := Aside0.mk (blk_grown (g := gb185) (o := .cells #[.int .i64 (wrap64 (4 + (Int.tmod (wrap64 (a2)) 47))), .int .i64 (wrap64 (1 + (wrap64 (a2)))), .int .i64 (wrap64 (1 + (Int.tmod (wrap64 (a2)) 50))), .int .i64 (Int.tmod (wrap64 (a2)) 4), .int .i64 (wrap64 (1 + (wrap64 (a2)))), .int .i64 31, .slice A0_6 l0_6.length c0_6, .slice A0_7 l0_7.length c0_7] 25 (0, 0)) (by (with_reducible repeat (first | refine blk_drewN ?_ _ | refine blk_drew ?_ | refine blk_alloc ?_ _)); exact BK185.out) hg (Kd.N_ne HO198.out BK185.out (by decide)))
                have n4_ := Aside0.mk (Kd.V_afterv (ok := (fun k_ => (P0_7_ k_ ∨ w.heap.size ≤ k_) ∧ k_ ≠ gb180 ∧ k_ ≠ gb185)) (by (with_reducible repeat (first | apply Kd.V_alloc | apply Kd.V_drewN | apply Kd.V_drew)); exact HO195.out) hg hat)
                have n5_ := Aside0.mk (Kd.V_afterv (ok := (fun k_ => (P0_7_ k_ ∨ w.heap.size ≤ k_) ∧ k_ ≠ gb180 ∧ k_ ≠ gb185)) (by (with_reducible repeat (first | apply Kd.V_alloc | apply Kd.V_drewN | apply Kd.V_drew)); exact HO203.out) hg hat)
                have n6_ := Aside0.mk (hb)
                have n7_ := Aside0.mk (ho)
                clear HO_181007
                clear HO_186007
                clear BK180
                clear BK185
                clear HO195
                clear HO203
                clear HB
                clear HO198
                have HO_181007 := n0_
                have HO_186007 := n1_
                have BK180 := n2_
                have BK185 := n3_
                have HO195 := n4_
                have HO203 := n5_
                have HB := n6_
                have HO206 := n7_
                clear n0_ n1_ n2_ n3_ n4_ n5_ n6_ n7_
                clear ho hb hg hat
                obtain ⟨Ao61, co61, eo61⟩ := Kd.N_slice HO206.out
                (first | subst eo61 | (injection eo61 with f1_ f2_ f3_; have f4_ := f1_.symm; have f5_ := f3_.symm; clear f1_ f2_ f3_; subst f4_; subst f5_))
                refine hK.out _ _ ⟨(blk_cell BK180.out 0).trans rfl, (blk_cell BK180.out 1).trans rfl, (blk_cell BK180.out 2).trans rfl, (blk_cell BK180.out 3).trans rfl, (blk_cell BK180.out 4).trans rfl, (blk_cell BK180.out 5).trans rfl, (blk_cell BK180.out 6).trans rfl, (blk_cell BK180.out 7).trans rfl⟩ (fun hHeld => ?_)
                clear hK K
                refine norm_ (a' := ?_) ?_ ?_
                rotate_left
                ·show Act.put _ (some 83) _ = _
                 simp only [Act.put, List.setIfInBounds_toArray, List.set_cons_zero, List.set_cons_succ, i64_w, i32_w]
                 rfl
                refine pure_ (i := 12) (N := some 84) (v := ?_) (a' := ?_) #[true, true, true, true, true, true, true, true, true, true, true, true, true, false] rfl rfl (any_of HT_.out (by kernel_rfl)) (fun _ _ _ h => h) (Or.inl ⟨by rfl, ?_⟩) ?_ ?_
                rotate_left
                ·intro w'
                 go_simp
                 with_reducible rfl
                rotate_left
                ·simp only [Act.put, List.setIfInBounds_toArray, List.set_cons_zero, List.set_cons_succ, i64_w, i32_w]
                 rfl
                refine one_ (i := 13) (N := none) #[true, true, true, true, true, true, true, true, true, true, true, true, true, true] rfl rfl (one_of HT_.out (by kernel_rfl)) (by decide) (fun K hK => ?_)
                have hs62 : w60.cell? ⟨gb185, 7, none⟩ = some (.slice A0_7 l0_7.length c0_7) := (blk_cell BK185.out 7).trans rfl
                have hfs62 := blk_frozen BK185.out 7
                have hns62_0 := NB180_185.out
                have hms62_0 := NB185_180.out
                refine skip_ (w1 := ?_) (by rfl) rfl ?_ ?_
                rotate_left
                ·go_simp
                 rfl
                refine hK.out _ _ ⟨((cell_far (p := ⟨gb185, _, none⟩) NB180_185.out _).trans (hHeld.1)), ((cell_far (p := ⟨gb185, _, none⟩) NB180_185.out _).trans (hHeld.2.1)), ((cell_far (p := ⟨gb185, _, none⟩) NB180_185.out _).trans (hHeld.2.2.1)), ((cell_far (p := ⟨gb185, _, none⟩) NB180_185.out _).trans (hHeld.2.2.2.1)), ((cell_far (p := ⟨gb185, _, none⟩) NB180_185.out _).trans (hHeld.2.2.2.2.1)), ((cell_far (p := ⟨gb185, _, none⟩) NB180_185.out _).trans (hHeld.2.2.2.2.2.1)), ((cell_far (p := ⟨gb185, _, none⟩) NB180_185.out _).trans (hHeld.2.2.2.2.2.2.1)), ((cell_far (p := ⟨gb185, _, none⟩) NB180_185.out _).trans (hHeld.2.2.2.2.2.2.2))⟩ (fun hHeld => ?_)
                clear hK K
                refine done_ (done_of HT_.out (by kernel_rfl)) ?_
                obtain ⟨z63_0, z63_1, z63_2, z63_3, z63_4, z63_5, z63_6, z63_7, q63_0, q63_1, q63_2, q63_3, q63_4, q63_5, q63_6, q63_7⟩ := bk8 BK185
                try go_wp2_with (first | ((with_reducible refine gate_callee (f := 8) rfl ?_); refine goesK (some 87) Try.func8 #[.agg #[.int .i64 (wrap64 (4 + (Int.tmod (wrap64 (a2)) 47))), .int .i64 (wrap64 (1 + (wrap64 (a2)))), .int .i64 (wrap64 (1 + (Int.tmod (wrap64 (a2)) 50))), .int .i64 (Int.tmod (wrap64 (a2)) 4), .int .i64 (wrap64 (1 + (wrap64 (a2)))), .int .i64 31, .slice A0_6 l0_6.length c0_6, .slice Ao61 y204.length co61]] ?_; (with_reducible refine (config_Check.calls kj10 (wrap64 (4 + (Int.tmod (wrap64 (a2)) 47))) (wrap64 (1 + (wrap64 (a2)))) (wrap64 (1 + (Int.tmod (wrap64 (a2)) 50))) (Int.tmod (wrap64 (a2)) 4) (wrap64 (1 + (wrap64 (a2)))) 31 _ _ l0_6 _ _ y204 t207 t208 _ ?side1 ?side2 ?side3 ?side4 A37.out).mono ?_); (case side1 => exact sCb HR0_6 HB); (case side2 => exact HC0_6.out); (case side3 => refine (Kd.N_reads' (e := 37) (base := w.heap.size) (ok := fun k_ => ((P0_7_ k_ ∨ w.heap.size ≤ k_) ∧ (k_ ≠ gb180 ∧ k_ ≠ gb185))) (n := y204.length) (c := co61) ?_).2.2; exact (by (with_reducible repeat (first | apply Kd.N_alloc | apply Kd.N_drewN | apply Kd.N_drew)); exact (Kd.N_mono (Kd.N_far (p := ⟨gb185, 7, none⟩) (Kd.N_mono HO206.out (fun k_ hk => (⟨hk, hk.2.2⟩ : _ ∧ k_ ≠ gb185))) (fun _ hk => hk.2) (.slice Ao61 y204.length co61)) (fun _ h_ => h_.1)))); (case side4 => exact (Kd.N_reads' HO206.out).2.1); rintro e w64 ⟨rfl, hb⟩; refine ⟨_, rfl, ?_⟩; replace HO_181007 := Aside0.mk (Kd.V_below (by (with_reducible repeat (first | apply Kd.V_alloc | apply Kd.V_drewN | apply Kd.V_drew)); exact (Kd.V_mono (Kd.V_far (p := ⟨gb185, 7, none⟩) (Kd.V_mono HO_181007.out (fun k_ hk => (⟨hk, hk.1.2.2⟩ : _ ∧ k_ ≠ gb185))) (fun _ hk => hk.2) (.slice Ao61 y204.length co61)) (fun _ h_ => h_.1))) hb); replace HO_186007 := Aside0.mk (Kd.V_below (by (with_reducible repeat (first | apply Kd.V_alloc | apply Kd.V_drewN | apply Kd.V_drew)); exact (Kd.V_mono (Kd.V_far (p := ⟨gb185, 7, none⟩) (Kd.V_mono HO_186007.out (fun k_ hk => (⟨hk, hk.1.2.2⟩ : _ ∧ k_ ≠ gb185))) (fun _ hk => hk.2) (.slice Ao61 y204.length co61)) (fun _ h_ => h_.1))) hb); replace HO195 := Aside0.mk (Kd.V_below (by (with_reducible repeat (first | apply Kd.V_alloc | apply Kd.V_drewN | apply Kd.V_drew)); exact (Kd.V_mono (Kd.V_far (p := ⟨gb185, 7, none⟩) (Kd.V_mono HO195.out (fun k_ hk => (⟨hk, hk.1.2.2⟩ : _ ∧ k_ ≠ gb185))) (fun _ hk => hk.2) (.slice Ao61 y204.length co61)) (fun _ h_ => h_.1))) hb); replace HO203 := Aside0.mk (Kd.V_below (by (with_reducible repeat (first | apply Kd.V_alloc | apply Kd.V_drewN | apply Kd.V_drew)); exact (Kd.V_mono (Kd.V_far (p := ⟨gb185, 7, none⟩) (Kd.V_mono HO203.out (fun k_ hk => (⟨hk, hk.1.2.2⟩ : _ ∧ k_ ≠ gb185))) (fun _ hk => hk.2) (.slice Ao61 y204.length co61)) (fun _ h_ => h_.1))) hb); replace HO206 := Aside0.mk (Kd.N_below (by (with_reducible repeat (first | apply Kd.N_alloc | apply Kd.N_drewN | apply Kd.N_drew)); exact (Kd.N_mono (Kd.N_far (p := ⟨gb185, 7, none⟩) (Kd.N_mono HO206.out (fun k_ hk => (⟨hk, hk.2.2⟩ : _ ∧ k_ ≠ gb185))) (fun _ hk => hk.2) (.slice Ao61 y204.length co61)) (fun _ h_ => h_.1))) hb); replace BK180 := Aside0.mk (blk_below (g := gb180) (o := .cells #[.int .i64 a0_0, .int .i64 a0_1, .int .i64 a0_2, .int .i64 a0_3, .int .i64 a0_4, .int .i64 a0_5, .slice A0_6 l0_6.length c0_6, .slice A0_7 l0_7.length c0_7] 25 (0, 0)) (by (with_reducible repeat (first | refine blk_drewN ?_ _ | refine blk_drew ?_ | refine blk_alloc ?_ _)); refine blk_far ?_ NB180_185.out _; (with_reducible repeat (first | refine blk_drewN ?_ _ | refine blk_drew ?_ | refine blk_alloc ?_ _)); exact BK180.out) hb); replace BK185 := Aside0.mk (blk_below (g := gb185) (o := .cells #[.int .i64 (wrap64 (4 + (Int.tmod (wrap64 (a2)) 47))), .int .i64 (wrap64 (1 + (wrap64 (a2)))), .int .i64 (wrap64 (1 + (Int.tmod (wrap64 (a2)) 50))), .int .i64 (Int.tmod (wrap64 (a2)) 4), .int .i64 (wrap64 (1 + (wrap64 (a2)))), .int .i64 31, .slice A0_6 l0_6.length c0_6, .slice Ao61 y204.length co61] 25 (0, 0)) (by (with_reducible repeat (first | refine blk_drewN ?_ _ | refine blk_drew ?_ | refine blk_alloc ?_ _)); refine blk_put (cs := #[.int .i64 (wrap64 (4 + (Int.tmod (wrap64 (a2)) 47))), .int .i64 (wrap64 (1 + (wrap64 (a2)))), .int .i64 (wrap64 (1 + (Int.tmod (wrap64 (a2)) 50))), .int .i64 (Int.tmod (wrap64 (a2)) 4), .int .i64 (wrap64 (1 + (wrap64 (a2)))), .int .i64 31, .slice A0_6 l0_6.length c0_6, .slice A0_7 l0_7.length c0_7]) ?_ 7 _ rfl; (with_reducible repeat (first | refine blk_drewN ?_ _ | refine blk_drew ?_ | refine blk_alloc ?_ _)); exact BK185.out) hb); replace HB := sB HB hb; (try clear hb); (try clear hk)))
                go_ret
                exact ⟨by first | rfl | (simp [errW_none, errW_some] <;> rfl) | (simp only [← hji29, ← hji33]; first | rfl | (simp [errW_none, errW_some] <;> rfl)) | (simp [*, errW_none, errW_some] <;> rfl), by repeat (first | (with_reducible first | exact HB.out | apply below_alloc | apply pw_below_drewN | apply below_drew1 | refine below_set ?_ (Aside0.out (by assumption))) | exact HB.out)⟩
              ·rw [if_neg c36] at H
               exact absurd H (by simp)
             ·rw [if_neg c35] at H
              exact absurd H (by simp)
            ·rw [if_neg c34] at H
             exact absurd H (by simp)
           ·rw [if_neg c32] at H
            exact absurd H (by simp)
          ·rw [if_neg c31] at H
           exact absurd H (by simp)
         ·rw [if_neg c30] at H
          exact absurd H (by simp)
   ·rw [if_neg c9] at H
    have c9b0 : (t183 == 0) = false := beq_eq_false_iff_ne.mpr c9
    have c9b1 : (t183 != 0) = true := bne_iff_ne.mpr c9
    obtain rfl := Option.some.inj H
    go_enter Try.func4, Try.ntmps4
    go_wp2_with (first | ((with_reducible refine gate_dst (N := 3) rfl ?_); refine boxK (N := 3) (#[.int .i64 a0_0, .int .i64 a0_1, .int .i64 a0_2, .int .i64 a0_3, .int .i64 a0_4, .int .i64 a0_5, .slice A0_6 l0_6.length c0_6, .slice A0_7 l0_7.length c0_7]) 25 ?_; intro gb180 hg w65 hbox hb; replace HO0_7 := sVe HO0_7 gb180 hg hb; have BK180 := Aside0.mk (hbox); have GW180 := sG hg HB; have GE180 := sG hg HB; replace HB := sB HB hb; clear hb hbox hg) | ((with_reducible refine gate_callee (f := 6) rfl ?_); refine goesK (some 15) Try.func6 #[] ?_; (with_reducible refine (fuglemanlaw20_awake.calls k  true _ A4.out).mono ?_); rintro e w66 ⟨rfl, hb⟩; refine ⟨_, rfl, ?_⟩; replace HO0_7 := sV HO0_7 hb; replace BK180 := sK BK180 hb; replace HB := sB HB hb; (try clear hb); obtain ⟨z67_0, z67_1, z67_2, z67_3, z67_4, z67_5, z67_6, z67_7, q67_0, q67_1, q67_2, q67_3, q67_4, q67_5, q67_6, q67_7⟩ := bk8 BK180) | ((with_reducible refine gate_callee (f := 7) rfl ?_); refine goesK (some 18) Try.func7 #[.agg #[.int .i64 a0_0, .int .i64 a0_1, .int .i64 a0_2, .int .i64 a0_3, .int .i64 a0_4, .int .i64 a0_5, .slice A0_6 l0_6.length c0_6, .slice A0_7 l0_7.length c0_7]] ?_; (with_reducible refine (fuglemanlaw20_Small.calls k a0_0 a0_1 a0_2 a0_3 a0_4 a0_5 _ _ l0_6 _ _ l0_7 true _ ?side1 ?side2 ?side3 ?side4 A6.out).mono ?_); (case side1 => exact sC HR0_6 HB); (case side2 => exact HC0_6.out); (case side3 => repeat (first | exact (Kd.V_reads' HO0_7.out).2.2 | (with_reducible refine Kd.C_alloc ?_ _) | (with_reducible refine Kd.C_drewN ?_ _) | (with_reducible refine Kd.C_drew ?_))); (case side4 => exact (Kd.V_reads' HO0_7.out).2.1); rintro e w68 ⟨rfl, hb⟩; refine ⟨_, rfl, ?_⟩; replace HO0_7 := sV HO0_7 hb; replace BK180 := sK BK180 hb; replace HB := sB HB hb; (try clear hb); obtain ⟨z69_0, z69_1, z69_2, z69_3, z69_4, z69_5, z69_6, z69_7, q69_0, q69_1, q69_2, q69_3, q69_4, q69_5, q69_6, q69_7⟩ := bk8 BK180) | ((with_reducible refine gate_callee (f := 8) rfl ?_); refine goesK (some 22) Try.func8 #[.agg #[.int .i64 a0_0, .int .i64 a0_1, .int .i64 a0_2, .int .i64 a0_3, .int .i64 a0_4, .int .i64 a0_5, .slice A0_6 l0_6.length c0_6, .slice A0_7 l0_7.length c0_7]] ?_; (with_reducible refine (config_Check.calls k a0_0 a0_1 a0_2 a0_3 a0_4 a0_5 _ _ l0_6 _ _ l0_7 t183 t184 _ ?side1 ?side2 ?side3 ?side4 A8.out).mono ?_); (case side1 => exact sC HR0_6 HB); (case side2 => exact HC0_6.out); (case side3 => repeat (first | exact (Kd.V_reads' HO0_7.out).2.2 | (with_reducible refine Kd.C_alloc ?_ _) | (with_reducible refine Kd.C_drewN ?_ _) | (with_reducible refine Kd.C_drew ?_))); (case side4 => exact (Kd.V_reads' HO0_7.out).2.1); rintro e w70 ⟨rfl, hb⟩; refine ⟨_, rfl, ?_⟩; replace HO0_7 := sV HO0_7 hb; replace BK180 := sK BK180 hb; replace HB := sB HB hb; (try clear hb)))
    go_ret
    exact sEnd HB
  ·replace c7 := Bool.eq_false_iff.mpr c7
   subst c7
   have H1 : (some true) = some r := by rw [if_neg (show ¬ (false = true) by decide)] at H; exact H
   clear H
   have H := H1
   clear H1
   obtain rfl := Option.some.inj H
   go_enter Try.func4, Try.ntmps4
   go_wp2_with (first | ((with_reducible refine gate_dst (N := 3) rfl ?_); refine boxK (N := 3) (#[.int .i64 a0_0, .int .i64 a0_1, .int .i64 a0_2, .int .i64 a0_3, .int .i64 a0_4, .int .i64 a0_5, .slice A0_6 l0_6.length c0_6, .slice A0_7 l0_7.length c0_7]) 25 ?_; intro gb180 hg w71 hbox hb; replace HO0_7 := sVe HO0_7 gb180 hg hb; have BK180 := Aside0.mk (hbox); have GW180 := sG hg HB; have GE180 := sG hg HB; replace HB := sB HB hb; clear hb hbox hg) | ((with_reducible refine gate_callee (f := 6) rfl ?_); refine goesK (some 15) Try.func6 #[] ?_; (with_reducible refine (fuglemanlaw20_awake.calls k  true _ A4.out).mono ?_); rintro e w72 ⟨rfl, hb⟩; refine ⟨_, rfl, ?_⟩; replace HO0_7 := sV HO0_7 hb; replace BK180 := sK BK180 hb; replace HB := sB HB hb; (try clear hb); obtain ⟨z73_0, z73_1, z73_2, z73_3, z73_4, z73_5, z73_6, z73_7, q73_0, q73_1, q73_2, q73_3, q73_4, q73_5, q73_6, q73_7⟩ := bk8 BK180) | ((with_reducible refine gate_callee (f := 7) rfl ?_); refine goesK (some 18) Try.func7 #[.agg #[.int .i64 a0_0, .int .i64 a0_1, .int .i64 a0_2, .int .i64 a0_3, .int .i64 a0_4, .int .i64 a0_5, .slice A0_6 l0_6.length c0_6, .slice A0_7 l0_7.length c0_7]] ?_; (with_reducible refine (fuglemanlaw20_Small.calls k a0_0 a0_1 a0_2 a0_3 a0_4 a0_5 _ _ l0_6 _ _ l0_7 false _ ?side1 ?side2 ?side3 ?side4 A6.out).mono ?_); (case side1 => exact sC HR0_6 HB); (case side2 => exact HC0_6.out); (case side3 => repeat (first | exact (Kd.V_reads' HO0_7.out).2.2 | (with_reducible refine Kd.C_alloc ?_ _) | (with_reducible refine Kd.C_drewN ?_ _) | (with_reducible refine Kd.C_drew ?_))); (case side4 => exact (Kd.V_reads' HO0_7.out).2.1); rintro e w74 ⟨rfl, hb⟩; refine ⟨_, rfl, ?_⟩; replace HO0_7 := sV HO0_7 hb; replace BK180 := sK BK180 hb; replace HB := sB HB hb; (try clear hb)))
   go_ret
   exact sEnd HB
 ·replace c5 := Bool.eq_false_iff.mpr c5
  subst c5
  have H1 : (some false) = some r := by rw [if_neg (show ¬ (false = true) by decide)] at H; exact H
  clear H
  have H := H1
  clear H1
  obtain rfl := Option.some.inj H
  go_enter Try.func4, Try.ntmps4
  go_wp2_with (first | ((with_reducible refine gate_dst (N := 3) rfl ?_); refine boxK (N := 3) (#[.int .i64 a0_0, .int .i64 a0_1, .int .i64 a0_2, .int .i64 a0_3, .int .i64 a0_4, .int .i64 a0_5, .slice A0_6 l0_6.length c0_6, .slice A0_7 l0_7.length c0_7]) 25 ?_; intro gb180 hg w75 hbox hb; replace HO0_7 := sVe HO0_7 gb180 hg hb; have BK180 := Aside0.mk (hbox); have GW180 := sG hg HB; have GE180 := sG hg HB; replace HB := sB HB hb; clear hb hbox hg) | ((with_reducible refine gate_callee (f := 6) rfl ?_); refine goesK (some 15) Try.func6 #[] ?_; (with_reducible refine (fuglemanlaw20_awake.calls k  false _ A4.out).mono ?_); rintro e w76 ⟨rfl, hb⟩; refine ⟨_, rfl, ?_⟩; replace HO0_7 := sV HO0_7 hb; replace BK180 := sK BK180 hb; replace HB := sB HB hb; (try clear hb)))
  go_ret
  exact sEnd HB

end Go.Proofs.Ytedmikeamgebjaa.S
