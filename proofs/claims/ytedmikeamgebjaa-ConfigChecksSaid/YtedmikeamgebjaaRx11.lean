-- Written by a program out of the translation; not trusted: Lean checks it.
import Derived.Test.YtedmikeamgebjaaK
import Derived.Test.YtedmikeamgebjaaK2
import Derived.Test.YtedmikeamgebjaaRx0
import Derived.Test.YtedmikeamgebjaaRx5
import Derived.Test.YtedmikeamgebjaaRx6
import Derived.Test.YtedmikeamgebjaaRx7
import Derived.Test.YtedmikeamgebjaaRx10
namespace Go.Proofs.Ytedmikeamgebjaa.R
open Go.Proofs.YtedmikeamgebjaaW.PrintK Go.RowKit Go.Proofs.YtedmikeamgebjaaW.PrintWords Go.Proofs.YtedmikeamgebjaaW.PrintLast Go.Proofs.YtedmikeamgebjaaW.PrintMore
attribute [local go_sem] max2_int min2_int max_two min_two max_three min_three max_four min_four   -- for this text's walks alone
set_option linter.unusedVariables false
set_option linter.unusedSimpArgs false

/-! ### fuglemanref20_Check: function 9 -/
mutual
def fuglemanref20_Check.j0 : Nat → Bool → Int → Int → Int → Int → Int → Int → List (S63) → List (S37) → Option (Int × Int)
 | 0, _, _, _, _, _, _, _, _, _ => none
 | k + 1, x41, x227000, x227001, x227002, x227003, x227004, x227005, x227006, x227007 => if x41 = true then (some (3, 0)) else ((fuglemanref16_Check.f k x227006).bind fun bt233 => (if bt233.1 = 0 then ((fuglemanref20_in.f (x227007.length : Int) 1 32).bind fun t235 => (if t235 = true then (fuglemanref20_Check.l0 k 0 x227000 x227001 x227002 x227003 x227004 x227005 x227006 x227007) else (some (2, 100)))) else (some (bt233.1, wrap64 (1 + bt233.2)))))
def fuglemanref20_Check.l0 : Nat → Int → Int → Int → Int → Int → Int → Int → List (S63) → List (S37) → Option (Int × Int)
 | 0, _, _, _, _, _, _, _, _, _ => none
 | k + 1, x6, x227000, x227001, x227002, x227003, x227004, x227005, x227006, x227007 => if x6 < (x227007.length : Int) then ((fuglemanref20_station.f k x227000 x227001 x227002 x227003 x227004 x227005 x227006 x227007 x6).bind fun t236 => (if t236 = 0 then (fuglemanref20_Check.l0 k (wrap64 (x6 + 1)) x227000 x227001 x227002 x227003 x227004 x227005 x227006 x227007) else (some (t236, wrap64 (100 + x6))))) else (some (0, 0))
end
def fuglemanref20_Check.f (k : Nat) (a0_0 a0_1 a0_2 a0_3 a0_4 a0_5 : Int) (l0_6 : List (S63)) (l0_7 : List (S37)) : Option (Int × Int) := (fuglemanref20_in.f a0_0 4 50).bind fun t227 => (if t227 = true then ((fuglemanref20_in.f a0_1 1 10000).bind fun t228 => (if t228 = true then ((fuglemanref20_in.f a0_2 1 50).bind fun t229 => (if t229 = true then ((fuglemanref20_in.f a0_3 0 3).bind fun t230 => (if t230 = true then ((fuglemanref20_in.f a0_4 1 65535).bind fun t231 => (if t231 = true then ((fuglemanref20_in.f a0_5 0 31).bind fun t232 => (fuglemanref20_Check.j0 k (!t232) a0_0 a0_1 a0_2 a0_3 a0_4 a0_5 l0_6 l0_7)) else (fuglemanref20_Check.j0 k true a0_0 a0_1 a0_2 a0_3 a0_4 a0_5 l0_6 l0_7))) else (fuglemanref20_Check.j0 k true a0_0 a0_1 a0_2 a0_3 a0_4 a0_5 l0_6 l0_7))) else (fuglemanref20_Check.j0 k true a0_0 a0_1 a0_2 a0_3 a0_4 a0_5 l0_6 l0_7))) else (fuglemanref20_Check.j0 k true a0_0 a0_1 a0_2 a0_3 a0_4 a0_5 l0_6 l0_7))) else (fuglemanref20_Check.j0 k true a0_0 a0_1 a0_2 a0_3 a0_4 a0_5 l0_6 l0_7))
theorem fuglemanref20_Check.mono_l : ∀ k, (∀ y0 y1 y2 y3 y4 y5 y6 y7 y8, LeO (fuglemanref20_Check.j0 k y0 y1 y2 y3 y4 y5 y6 y7 y8) (fuglemanref20_Check.j0 (k + 1) y0 y1 y2 y3 y4 y5 y6 y7 y8)) ∧ (∀ y0 y1 y2 y3 y4 y5 y6 y7 y8, LeO (fuglemanref20_Check.l0 k y0 y1 y2 y3 y4 y5 y6 y7 y8) (fuglemanref20_Check.l0 (k + 1) y0 y1 y2 y3 y4 y5 y6 y7 y8))
 | 0 => ⟨fun _ _ _ _ _ _ _ _ _ r h => by simp [fuglemanref20_Check.j0] at h, fun _ _ _ _ _ _ _ _ _ r h => by simp [fuglemanref20_Check.l0] at h⟩
 | k + 1 => by
  obtain ⟨ih0, ih1⟩ := fuglemanref20_Check.mono_l k
  refine ⟨?_, ?_⟩
  ·intro y0 y1 y2 y3 y4 y5 y6 y7 y8
   unfold fuglemanref20_Check.j0
   repeat' first
   | (with_reducible exact ih0 _ _ _ _ _ _ _ _ _)
   | (with_reducible exact ih1 _ _ _ _ _ _ _ _ _)
   | (with_reducible exact fuglemanref16_Check.mono _ _)
   | (with_reducible exact fuglemanref20_station.mono _ _ _ _ _ _ _ _ _ _)
   | (with_reducible exact LeO.refl _)
   | (with_reducible exact LeO.none _)
   | (with_reducible refine LeO.ite ?_ ?_)
   | (with_reducible refine LeO.bind ?_ (fun _ => ?_))
   | exact ih0 _ _ _ _ _ _ _ _ _
   | exact ih1 _ _ _ _ _ _ _ _ _
   | exact fuglemanref16_Check.mono _ _
   | exact fuglemanref20_station.mono _ _ _ _ _ _ _ _ _ _
   | exact LeO.none _
   | refine LeO.ite ?_ ?_
   | refine LeO.bind ?_ (fun _ => ?_)
  ·intro y0 y1 y2 y3 y4 y5 y6 y7 y8
   unfold fuglemanref20_Check.l0
   repeat' first
   | (with_reducible exact ih0 _ _ _ _ _ _ _ _ _)
   | (with_reducible exact ih1 _ _ _ _ _ _ _ _ _)
   | (with_reducible exact fuglemanref16_Check.mono _ _)
   | (with_reducible exact fuglemanref20_station.mono _ _ _ _ _ _ _ _ _ _)
   | (with_reducible exact LeO.refl _)
   | (with_reducible exact LeO.none _)
   | (with_reducible refine LeO.ite ?_ ?_)
   | (with_reducible refine LeO.bind ?_ (fun _ => ?_))
   | exact ih0 _ _ _ _ _ _ _ _ _
   | exact ih1 _ _ _ _ _ _ _ _ _
   | exact fuglemanref16_Check.mono _ _
   | exact fuglemanref20_station.mono _ _ _ _ _ _ _ _ _ _
   | exact LeO.none _
   | refine LeO.ite ?_ ?_
   | refine LeO.bind ?_ (fun _ => ?_)
theorem fuglemanref20_Check.mono : ∀ a0 a1 a2 a3 a4 a5 a6 a7 k, LeO (fuglemanref20_Check.f k a0 a1 a2 a3 a4 a5 a6 a7) (fuglemanref20_Check.f (k + 1) a0 a1 a2 a3 a4 a5 a6 a7) := by
 intro a0 a1 a2 a3 a4 a5 a6 a7 k
 obtain ⟨ih0, ih1⟩ := fuglemanref20_Check.mono_l k
 unfold fuglemanref20_Check.f
 repeat' first
   | (with_reducible exact ih0 _ _ _ _ _ _ _ _ _)
   | (with_reducible exact ih1 _ _ _ _ _ _ _ _ _)
   | (with_reducible exact fuglemanref16_Check.mono _ _)
   | (with_reducible exact fuglemanref20_station.mono _ _ _ _ _ _ _ _ _ _)
   | (with_reducible exact LeO.refl _)
   | (with_reducible exact LeO.none _)
   | (with_reducible refine LeO.ite ?_ ?_)
   | (with_reducible refine LeO.bind ?_ (fun _ => ?_))
   | exact ih0 _ _ _ _ _ _ _ _ _
   | exact ih1 _ _ _ _ _ _ _ _ _
   | exact fuglemanref16_Check.mono _ _
   | exact fuglemanref20_station.mono _ _ _ _ _ _ _ _ _ _
   | exact LeO.none _
   | refine LeO.ite ?_ ?_
   | refine LeO.bind ?_ (fun _ => ?_)
set_option maxHeartbeats 8000000 in
set_option maxRecDepth 100000 in
theorem fuglemanref20_Check.calls (k : Nat) (a0_0 a0_1 a0_2 a0_3 a0_4 a0_5 : Int) (A0_6 : Option Addr) (c0_6 : Nat) (l0_6 : List (S63)) (A0_7 : Option Addr) (c0_7 : Nat) (l0_7 : List (S37)) (r1 r2 : Int) (w : World) (hr0_6 : Kd.C k63 w A0_6 l0_6.length l0_6) (hc0_6 : l0_6.length ≤ c0_6) (hr0_7 : Kd.C k37 w A0_7 l0_7.length l0_7) (hc0_7 : l0_7.length ≤ c0_7) (h : fuglemanref20_Check.f k a0_0 a0_1 a0_2 a0_3 a0_4 a0_5 l0_6 l0_7 = some (r1, r2)) :
  Calls Try.prog 9 #[.agg #[.int .i64 a0_0, .int .i64 a0_1, .int .i64 a0_2, .int .i64 a0_3, .int .i64 a0_4, .int .i64 a0_5, .slice A0_6 l0_6.length c0_6, .slice A0_7 l0_7.length c0_7]] w fun e w' => e = .returned (.tuple #[.int .i64 r1, .int .i64 r2]) ∧ Below w.heap.size w w' := by
 have hu25 := Try.underlying25
 have HR0_6 := Aside0.mk hr0_6
 have HC0_6 := Aside0.mk hc0_6
 clear hr0_6 hc0_6
 have HR0_7 := Aside0.mk hr0_7
 have HC0_7 := Aside0.mk hc0_7
 clear hr0_7 hc0_7
 have HB := Aside0.mk (Below.refl w.heap.size w)
 have H : ((fuglemanref20_in.f a0_0 4 50).bind fun t227 => (if t227 = true then ((fuglemanref20_in.f a0_1 1 10000).bind fun t228 => (if t228 = true then ((fuglemanref20_in.f a0_2 1 50).bind fun t229 => (if t229 = true then ((fuglemanref20_in.f a0_3 0 3).bind fun t230 => (if t230 = true then ((fuglemanref20_in.f a0_4 1 65535).bind fun t231 => (if t231 = true then ((fuglemanref20_in.f a0_5 0 31).bind fun t232 => (fuglemanref20_Check.j0 k (!t232) a0_0 a0_1 a0_2 a0_3 a0_4 a0_5 l0_6 l0_7)) else (fuglemanref20_Check.j0 k true a0_0 a0_1 a0_2 a0_3 a0_4 a0_5 l0_6 l0_7))) else (fuglemanref20_Check.j0 k true a0_0 a0_1 a0_2 a0_3 a0_4 a0_5 l0_6 l0_7))) else (fuglemanref20_Check.j0 k true a0_0 a0_1 a0_2 a0_3 a0_4 a0_5 l0_6 l0_7))) else (fuglemanref20_Check.j0 k true a0_0 a0_1 a0_2 a0_3 a0_4 a0_5 l0_6 l0_7))) else (fuglemanref20_Check.j0 k true a0_0 a0_1 a0_2 a0_3 a0_4 a0_5 l0_6 l0_7))) = some (r1, r2) := h
 clear h
 have HC2 := Aside0.mk H
 clear H
 go_enter Try.func9, Try.ntmps9
 go_upto_region 1 with (first | ((with_reducible refine gate_dst (N := 1) rfl ?_); refine boxK (N := 1) (#[.int .i64 a0_0, .int .i64 a0_1, .int .i64 a0_2, .int .i64 a0_3, .int .i64 a0_4, .int .i64 a0_5, .slice A0_6 l0_6.length c0_6, .slice A0_7 l0_7.length c0_7]) 25 ?_; intro gb226 hg w3 hbox hb; have BK226 := Aside0.mk (hbox); have GW226 := sG hg HB; have GE226 := sG hg HB; replace HB := sB HB hb; clear hb hbox hg))
 (try simp only [Act.put, List.setIfInBounds_toArray, List.set_cons_zero, List.set_cons_succ])
 go_cut [41] (fun v41 wc => ∃ (kq : Nat) (x41_1 : Bool), v41 = .bool x41_1 ∧ Aside0 (fuglemanref20_Check.j0 kq x41_1 a0_0 a0_1 a0_2 a0_3 a0_4 a0_5 l0_6 l0_7 = some (r1, r2)) ∧ Aside0 (kq ≤ k) ∧ Aside0 (wc.heap[gb226]? = some (.cells #[.int .i64 a0_0, .int .i64 a0_1, .int .i64 a0_2, .int .i64 a0_3, .int .i64 a0_4, .int .i64 a0_5, (.slice A0_6 l0_6.length c0_6), (.slice A0_7 l0_7.length c0_7)] 25 (0, 0))) ∧ Aside0 (Below w.heap.size w wc))
 case first =>
  have H := HC2.out
  clear HC2
  replace H := Option.bind_eq_some_iff.mp H
  obtain ⟨t227, A40, H⟩ := H
  replace H : (if t227 = true then ((fuglemanref20_in.f a0_1 1 10000).bind fun t228 => (if t228 = true then ((fuglemanref20_in.f a0_2 1 50).bind fun t229 => (if t229 = true then ((fuglemanref20_in.f a0_3 0 3).bind fun t230 => (if t230 = true then ((fuglemanref20_in.f a0_4 1 65535).bind fun t231 => (if t231 = true then ((fuglemanref20_in.f a0_5 0 31).bind fun t232 => (fuglemanref20_Check.j0 k (!t232) a0_0 a0_1 a0_2 a0_3 a0_4 a0_5 l0_6 l0_7)) else (fuglemanref20_Check.j0 k true a0_0 a0_1 a0_2 a0_3 a0_4 a0_5 l0_6 l0_7))) else (fuglemanref20_Check.j0 k true a0_0 a0_1 a0_2 a0_3 a0_4 a0_5 l0_6 l0_7))) else (fuglemanref20_Check.j0 k true a0_0 a0_1 a0_2 a0_3 a0_4 a0_5 l0_6 l0_7))) else (fuglemanref20_Check.j0 k true a0_0 a0_1 a0_2 a0_3 a0_4 a0_5 l0_6 l0_7))) else (fuglemanref20_Check.j0 k true a0_0 a0_1 a0_2 a0_3 a0_4 a0_5 l0_6 l0_7)) = some (r1, r2) := H
  have A4 := Aside0.mk A40
  clear A40
  by_cases c5 : t227 = true
  case neg =>
   replace c5 := Bool.eq_false_iff.mpr c5
   subst c5
   rw [if_neg (show ¬ (false = true) by decide)] at H
   have H' := Aside0.mk H
   clear H
   have z20 := bk8 BK226
   go_wp2_with (first | ((with_reducible refine gate_callee (f := 23) rfl ?_); refine goesK (some 10) Try.func23 #[.int .i64 a0_0, .int .i64 4, .int .i64 50] ?_; (with_reducible refine (fuglemanref20_in.calls a0_0 4 50 false _ A4.out).mono ?_); rintro e w' ⟨rfl, ⟨nd, rfl⟩⟩; refine ⟨_, rfl, ?_⟩))
   go_meet
   case rel => exact ⟨_, (true), (by first | rfl | (simp; done) | (simp [*]; done)), H', ⟨by first | omega | exact Nat.le_refl _⟩, (sK0 BK226), (sB0 HB)⟩
  subst c5
  rw [if_pos rfl] at H
  replace H := Option.bind_eq_some_iff.mp H
  obtain ⟨t228, A60, H⟩ := H
  replace H : (if t228 = true then ((fuglemanref20_in.f a0_2 1 50).bind fun t229 => (if t229 = true then ((fuglemanref20_in.f a0_3 0 3).bind fun t230 => (if t230 = true then ((fuglemanref20_in.f a0_4 1 65535).bind fun t231 => (if t231 = true then ((fuglemanref20_in.f a0_5 0 31).bind fun t232 => (fuglemanref20_Check.j0 k (!t232) a0_0 a0_1 a0_2 a0_3 a0_4 a0_5 l0_6 l0_7)) else (fuglemanref20_Check.j0 k true a0_0 a0_1 a0_2 a0_3 a0_4 a0_5 l0_6 l0_7))) else (fuglemanref20_Check.j0 k true a0_0 a0_1 a0_2 a0_3 a0_4 a0_5 l0_6 l0_7))) else (fuglemanref20_Check.j0 k true a0_0 a0_1 a0_2 a0_3 a0_4 a0_5 l0_6 l0_7))) else (fuglemanref20_Check.j0 k true a0_0 a0_1 a0_2 a0_3 a0_4 a0_5 l0_6 l0_7)) = some (r1, r2) := H
  have A6 := Aside0.mk A60
  clear A60
  by_cases c7 : t228 = true
  case neg =>
   replace c7 := Bool.eq_false_iff.mpr c7
   subst c7
   rw [if_neg (show ¬ (false = true) by decide)] at H
   have H' := Aside0.mk H
   clear H
   have z19 := bk8 BK226
   go_wp2_with (first | ((with_reducible refine gate_callee (f := 23) rfl ?_); refine goesK (some 10) Try.func23 #[.int .i64 a0_0, .int .i64 4, .int .i64 50] ?_; (with_reducible refine (fuglemanref20_in.calls a0_0 4 50 true _ A4.out).mono ?_); rintro e w' ⟨rfl, ⟨nd, rfl⟩⟩; refine ⟨_, rfl, ?_⟩) | (go_at_call 23; (with_reducible refine (fuglemanref20_in.calls a0_1 1 10000 false _ A6.out).mono ?_); rintro e w' ⟨rfl, ⟨nd, rfl⟩⟩))
   go_meet
   case rel => exact ⟨_, (true), (by first | rfl | (simp; done) | (simp [*]; done)), H', ⟨by first | omega | exact Nat.le_refl _⟩, (sK0 BK226), (sB0 HB)⟩
  subst c7
  rw [if_pos rfl] at H
  replace H := Option.bind_eq_some_iff.mp H
  obtain ⟨t229, A80, H⟩ := H
  replace H : (if t229 = true then ((fuglemanref20_in.f a0_3 0 3).bind fun t230 => (if t230 = true then ((fuglemanref20_in.f a0_4 1 65535).bind fun t231 => (if t231 = true then ((fuglemanref20_in.f a0_5 0 31).bind fun t232 => (fuglemanref20_Check.j0 k (!t232) a0_0 a0_1 a0_2 a0_3 a0_4 a0_5 l0_6 l0_7)) else (fuglemanref20_Check.j0 k true a0_0 a0_1 a0_2 a0_3 a0_4 a0_5 l0_6 l0_7))) else (fuglemanref20_Check.j0 k true a0_0 a0_1 a0_2 a0_3 a0_4 a0_5 l0_6 l0_7))) else (fuglemanref20_Check.j0 k true a0_0 a0_1 a0_2 a0_3 a0_4 a0_5 l0_6 l0_7)) = some (r1, r2) := H
  have A8 := Aside0.mk A80
  clear A80
  by_cases c9 : t229 = true
  case neg =>
   replace c9 := Bool.eq_false_iff.mpr c9
   subst c9
   rw [if_neg (show ¬ (false = true) by decide)] at H
   have H' := Aside0.mk H
   clear H
   have z18 := bk8 BK226
   go_wp2_with (first | ((with_reducible refine gate_callee (f := 23) rfl ?_); refine goesK (some 10) Try.func23 #[.int .i64 a0_0, .int .i64 4, .int .i64 50] ?_; (with_reducible refine (fuglemanref20_in.calls a0_0 4 50 true _ A4.out).mono ?_); rintro e w' ⟨rfl, ⟨nd, rfl⟩⟩; refine ⟨_, rfl, ?_⟩) | (go_at_call 23; (with_reducible refine (fuglemanref20_in.calls a0_1 1 10000 true _ A6.out).mono ?_); rintro e w' ⟨rfl, ⟨nd, rfl⟩⟩) | (go_at_call 23; (with_reducible refine (fuglemanref20_in.calls a0_2 1 50 false _ A8.out).mono ?_); rintro e w' ⟨rfl, ⟨nd, rfl⟩⟩))
   go_meet
   case rel => exact ⟨_, (true), (by first | rfl | (simp; done) | (simp [*]; done)), H', ⟨by first | omega | exact Nat.le_refl _⟩, (sK0 BK226), (sB0 HB)⟩
  subst c9
  rw [if_pos rfl] at H
  replace H := Option.bind_eq_some_iff.mp H
  obtain ⟨t230, A100, H⟩ := H
  replace H : (if t230 = true then ((fuglemanref20_in.f a0_4 1 65535).bind fun t231 => (if t231 = true then ((fuglemanref20_in.f a0_5 0 31).bind fun t232 => (fuglemanref20_Check.j0 k (!t232) a0_0 a0_1 a0_2 a0_3 a0_4 a0_5 l0_6 l0_7)) else (fuglemanref20_Check.j0 k true a0_0 a0_1 a0_2 a0_3 a0_4 a0_5 l0_6 l0_7))) else (fuglemanref20_Check.j0 k true a0_0 a0_1 a0_2 a0_3 a0_4 a0_5 l0_6 l0_7)) = some (r1, r2) := H
  have A10 := Aside0.mk A100
  clear A100
  by_cases c11 : t230 = true
  case neg =>
   replace c11 := Bool.eq_false_iff.mpr c11
   subst c11
   rw [if_neg (show ¬ (false = true) by decide)] at H
   have H' := Aside0.mk H
   clear H
   have z17 := bk8 BK226
   go_wp2_with (first | ((with_reducible refine gate_callee (f := 23) rfl ?_); refine goesK (some 10) Try.func23 #[.int .i64 a0_0, .int .i64 4, .int .i64 50] ?_; (with_reducible refine (fuglemanref20_in.calls a0_0 4 50 true _ A4.out).mono ?_); rintro e w' ⟨rfl, ⟨nd, rfl⟩⟩; refine ⟨_, rfl, ?_⟩) | (go_at_call 23; (with_reducible refine (fuglemanref20_in.calls a0_1 1 10000 true _ A6.out).mono ?_); rintro e w' ⟨rfl, ⟨nd, rfl⟩⟩) | (go_at_call 23; (with_reducible refine (fuglemanref20_in.calls a0_2 1 50 true _ A8.out).mono ?_); rintro e w' ⟨rfl, ⟨nd, rfl⟩⟩) | (go_at_call 23; (with_reducible refine (fuglemanref20_in.calls a0_3 0 3 false _ A10.out).mono ?_); rintro e w' ⟨rfl, ⟨nd, rfl⟩⟩))
   go_meet
   case rel => exact ⟨_, (true), (by first | rfl | (simp; done) | (simp [*]; done)), H', ⟨by first | omega | exact Nat.le_refl _⟩, (sK0 BK226), (sB0 HB)⟩
  subst c11
  rw [if_pos rfl] at H
  replace H := Option.bind_eq_some_iff.mp H
  obtain ⟨t231, A120, H⟩ := H
  replace H : (if t231 = true then ((fuglemanref20_in.f a0_5 0 31).bind fun t232 => (fuglemanref20_Check.j0 k (!t232) a0_0 a0_1 a0_2 a0_3 a0_4 a0_5 l0_6 l0_7)) else (fuglemanref20_Check.j0 k true a0_0 a0_1 a0_2 a0_3 a0_4 a0_5 l0_6 l0_7)) = some (r1, r2) := H
  have A12 := Aside0.mk A120
  clear A120
  by_cases c13 : t231 = true
  case neg =>
   replace c13 := Bool.eq_false_iff.mpr c13
   subst c13
   rw [if_neg (show ¬ (false = true) by decide)] at H
   have H' := Aside0.mk H
   clear H
   have z16 := bk8 BK226
   go_wp2_with (first | ((with_reducible refine gate_callee (f := 23) rfl ?_); refine goesK (some 10) Try.func23 #[.int .i64 a0_0, .int .i64 4, .int .i64 50] ?_; (with_reducible refine (fuglemanref20_in.calls a0_0 4 50 true _ A4.out).mono ?_); rintro e w' ⟨rfl, ⟨nd, rfl⟩⟩; refine ⟨_, rfl, ?_⟩) | (go_at_call 23; (with_reducible refine (fuglemanref20_in.calls a0_1 1 10000 true _ A6.out).mono ?_); rintro e w' ⟨rfl, ⟨nd, rfl⟩⟩) | (go_at_call 23; (with_reducible refine (fuglemanref20_in.calls a0_2 1 50 true _ A8.out).mono ?_); rintro e w' ⟨rfl, ⟨nd, rfl⟩⟩) | (go_at_call 23; (with_reducible refine (fuglemanref20_in.calls a0_3 0 3 true _ A10.out).mono ?_); rintro e w' ⟨rfl, ⟨nd, rfl⟩⟩) | (go_at_call 23; (with_reducible refine (fuglemanref20_in.calls a0_4 1 65535 false _ A12.out).mono ?_); rintro e w' ⟨rfl, ⟨nd, rfl⟩⟩))
   go_meet
   case rel => exact ⟨_, (true), (by first | rfl | (simp; done) | (simp [*]; done)), H', ⟨by first | omega | exact Nat.le_refl _⟩, (sK0 BK226), (sB0 HB)⟩
  subst c13
  rw [if_pos rfl] at H
  replace H := Option.bind_eq_some_iff.mp H
  obtain ⟨t232, A140, H⟩ := H
  replace H : (fuglemanref20_Check.j0 k (!t232) a0_0 a0_1 a0_2 a0_3 a0_4 a0_5 l0_6 l0_7) = some (r1, r2) := H
  have A14 := Aside0.mk A140
  clear A140
  have H' := Aside0.mk H
  clear H
  have z15 := bk8 BK226
  go_wp2_with (first | ((with_reducible refine gate_callee (f := 23) rfl ?_); refine goesK (some 10) Try.func23 #[.int .i64 a0_0, .int .i64 4, .int .i64 50] ?_; (with_reducible refine (fuglemanref20_in.calls a0_0 4 50 true _ A4.out).mono ?_); rintro e w' ⟨rfl, ⟨nd, rfl⟩⟩; refine ⟨_, rfl, ?_⟩) | (go_at_call 23; (with_reducible refine (fuglemanref20_in.calls a0_1 1 10000 true _ A6.out).mono ?_); rintro e w' ⟨rfl, ⟨nd, rfl⟩⟩) | (go_at_call 23; (with_reducible refine (fuglemanref20_in.calls a0_2 1 50 true _ A8.out).mono ?_); rintro e w' ⟨rfl, ⟨nd, rfl⟩⟩) | (go_at_call 23; (with_reducible refine (fuglemanref20_in.calls a0_3 0 3 true _ A10.out).mono ?_); rintro e w' ⟨rfl, ⟨nd, rfl⟩⟩) | (go_at_call 23; (with_reducible refine (fuglemanref20_in.calls a0_4 1 65535 true _ A12.out).mono ?_); rintro e w' ⟨rfl, ⟨nd, rfl⟩⟩) | (go_at_call 23; (with_reducible refine (fuglemanref20_in.calls a0_5 0 31 t232 _ A14.out).mono ?_); rintro e w' ⟨rfl, ⟨nd, rfl⟩⟩))
  go_meet
  case rel => exact ⟨_, (!t232), (by first | rfl | (simp; done) | (simp [*]; done)), H', ⟨by first | omega | exact Nat.le_refl _⟩, (sK0 BK226), (sB0 HB)⟩
 clear HC2
 (try clear c5); (try clear c7); (try clear c9); (try clear c11); (try clear c13)
 obtain ⟨kq, x41_1, rfl, HA, HJ1, BK226, HB⟩ := hcut
 cases kq with
 | zero => exact absurd HA.out (by simp [fuglemanref20_Check.j0])
 | succ kj1 =>
  have H := HA.out
  clear HA
  simp only [fuglemanref20_Check.j0] at H
  by_cases c21 : x41_1 = true
  ·subst c21
   rw [if_pos rfl] at H
   simp only [Option.some.injEq, Prod.mk.injEq] at H
   obtain ⟨rfl, rfl⟩ := H
   go_wp2
   go_ret2
   exact sEnd HB
  ·replace c21 := Bool.eq_false_iff.mpr c21
   subst c21
   rw [if_neg (show ¬ (false = true) by decide)] at H
   replace H := Option.bind_eq_some_iff.mp H
   obtain ⟨⟨t233, t234⟩, A220, H⟩ := H
   replace H : (if t233 = 0 then ((fuglemanref20_in.f (l0_7.length : Int) 1 32).bind fun t235 => (if t235 = true then (fuglemanref20_Check.l0 kj1 0 a0_0 a0_1 a0_2 a0_3 a0_4 a0_5 l0_6 l0_7) else (some (2, 100)))) else (some (t233, wrap64 (1 + t234)))) = some (r1, r2) := H
   have A22 := Aside0.mk A220
   clear A220
   by_cases c23 : t233 = 0
   ·rw [if_pos c23] at H
    have c23b0 : (t233 == 0) = true := beq_iff_eq.mpr c23
    have c23b1 : (t233 != 0) = false := bne_eq_false_iff_eq.mpr c23
    clear c23
    replace H := Option.bind_eq_some_iff.mp H
    obtain ⟨t235, A240, H⟩ := H
    replace H : (if t235 = true then (fuglemanref20_Check.l0 kj1 0 a0_0 a0_1 a0_2 a0_3 a0_4 a0_5 l0_6 l0_7) else (some (2, 100))) = some (r1, r2) := H
    have A24 := Aside0.mk A240
    clear A240
    by_cases c25 : t235 = true
    ·subst c25
     rw [if_pos rfl] at H
     have H' := Aside0.mk H
     clear H
     have z26 := bk8 BK226
     go_wp2_with (first | ((with_reducible refine gate_callee (f := 24) rfl ?_); refine goesK (some 45) Try.func24 #[.slice A0_6 l0_6.length c0_6] ?_; (with_reducible refine (fuglemanref16_Check.calls kj1 _ _ l0_6 t233 t234 _ ?side1 ?side2 A22.out).mono ?_); (case side1 => exact sC HR0_6 HB); (case side2 => exact HC0_6.out); rintro e w27 ⟨rfl, hb⟩; refine ⟨_, rfl, ?_⟩; replace BK226 := sK BK226 hb; replace HB := sB HB hb; (try clear hb); have z28 := bk8 BK226) | ((with_reducible refine gate_callee (f := 23) rfl ?_); refine goesK (some 56) Try.func23 #[.int .i64 (l0_7.length : Int), .int .i64 1, .int .i64 32] ?_; (with_reducible refine (fuglemanref20_in.calls (l0_7.length : Int) 1 32 true _ A24.out).mono ?_); rintro e w' ⟨rfl, ⟨nd, rfl⟩⟩; refine ⟨_, rfl, ?_⟩))
     go_loopg [6] kj1 (fun kq v6 w' => ∃ (x6_2 : Int), v6 = .int .i64 x6_2 ∧ Aside0 (fuglemanref20_Check.l0 kq x6_2 a0_0 a0_1 a0_2 a0_3 a0_4 a0_5 l0_6 l0_7 = some (r1, r2)) ∧ Aside0 (kq ≤ kj1) ∧ Aside0 (w'.heap[gb226]? = some (.cells #[.int .i64 a0_0, .int .i64 a0_1, .int .i64 a0_2, .int .i64 a0_3, .int .i64 a0_4, .int .i64 a0_5, (.slice A0_6 l0_6.length c0_6), (.slice A0_7 l0_7.length c0_7)] 25 (0, 0))) ∧ Aside0 (Below w.heap.size w w'))
     case atStart => exact ⟨(0), (by first | rfl | (simp; done) | (simp [*]; done)), H', ⟨Nat.le_refl _⟩, (sK0 BK226), (sB0 HB)⟩
     case round =>
      clear H'
      (try clear c5); (try clear c7); (try clear c9); (try clear c11); (try clear c13); (try clear c21); (try clear c23); (try clear c23b0); (try clear c23b1); (try clear c25)
      obtain ⟨x6_2, rfl, HA, HK2, BK226, HB⟩ := hrel
      cases gk with
      | zero => exact absurd HA.out (by simp [fuglemanref20_Check.l0])
      | succ k2 =>
       have H := HA.out
       clear HA
       simp only [fuglemanref20_Check.l0] at H
       by_cases c29 : x6_2 < (l0_7.length : Int)
       ·rw [if_pos c29] at H
        have c29b0 : decide (x6_2 < (l0_7.length : Int)) = true := decide_eq_true c29
        clear c29
        replace H := Option.bind_eq_some_iff.mp H
        obtain ⟨t236, A300, H⟩ := H
        replace H : (if t236 = 0 then (fuglemanref20_Check.l0 k2 (wrap64 (x6_2 + 1)) a0_0 a0_1 a0_2 a0_3 a0_4 a0_5 l0_6 l0_7) else (some (t236, wrap64 (100 + x6_2)))) = some (r1, r2) := H
        have A30 := Aside0.mk A300
        clear A300
        by_cases c31 : t236 = 0
        ·rw [if_pos c31] at H
         have c31b0 : (t236 == 0) = true := beq_iff_eq.mpr c31
         have c31b1 : (t236 != 0) = false := bne_eq_false_iff_eq.mpr c31
         clear c31
         have H' := Aside0.mk H
         clear H
         have z32 := bk8 BK226
         go_wp2_with (first | ((with_reducible refine gate_callee (f := 25) rfl ?_); refine goesK (some 67) Try.func25 #[.agg #[.int .i64 a0_0, .int .i64 a0_1, .int .i64 a0_2, .int .i64 a0_3, .int .i64 a0_4, .int .i64 a0_5, .slice A0_6 l0_6.length c0_6, .slice A0_7 l0_7.length c0_7], .int .i64 x6_2] ?_; (with_reducible refine (fuglemanref20_station.calls k2 a0_0 a0_1 a0_2 a0_3 a0_4 a0_5 _ _ l0_6 _ _ l0_7 x6_2 t236 _ ?side1 ?side2 ?side3 ?side4 A30.out).mono ?_); (case side1 => exact sC HR0_6 HB); (case side2 => exact HC0_6.out); (case side3 => exact sC HR0_7 HB); (case side4 => exact HC0_7.out); rintro e w33 ⟨rfl, hb⟩; refine ⟨_, rfl, ?_⟩; replace BK226 := sK BK226 hb; replace HB := sB HB hb; (try clear hb)))
         go_roundg k2
         case measure => have := HJ1.out; have := HK2.out; omega
         case rel => exact ⟨(wrap64 (x6_2 + 1)), (by first | rfl | (simp; done) | (simp [*]; done)), H', ⟨by have := HJ1.out; have := HK2.out; omega⟩, (sK0 BK226), (sB0 HB)⟩
        ·rw [if_neg c31] at H
         have c31b0 : (t236 == 0) = false := beq_eq_false_iff_ne.mpr c31
         have c31b1 : (t236 != 0) = true := bne_iff_ne.mpr c31
         simp only [Option.some.injEq, Prod.mk.injEq] at H
         obtain ⟨rfl, rfl⟩ := H
         have z34 := bk8 BK226
         go_wp2_with (first | ((with_reducible refine gate_callee (f := 25) rfl ?_); refine goesK (some 67) Try.func25 #[.agg #[.int .i64 a0_0, .int .i64 a0_1, .int .i64 a0_2, .int .i64 a0_3, .int .i64 a0_4, .int .i64 a0_5, .slice A0_6 l0_6.length c0_6, .slice A0_7 l0_7.length c0_7], .int .i64 x6_2] ?_; (with_reducible refine (fuglemanref20_station.calls k2 a0_0 a0_1 a0_2 a0_3 a0_4 a0_5 _ _ l0_6 _ _ l0_7 x6_2 t236 _ ?side1 ?side2 ?side3 ?side4 A30.out).mono ?_); (case side1 => exact sC HR0_6 HB); (case side2 => exact HC0_6.out); (case side3 => exact sC HR0_7 HB); (case side4 => exact HC0_7.out); rintro e w35 ⟨rfl, hb⟩; refine ⟨_, rfl, ?_⟩; replace BK226 := sK BK226 hb; replace HB := sB HB hb; (try clear hb)))
         go_ret2
         exact sEnd HB
       ·rw [if_neg c29] at H
        have c29b0 : decide (x6_2 < (l0_7.length : Int)) = false := decide_eq_false c29
        clear c29
        simp only [Option.some.injEq, Prod.mk.injEq] at H
        obtain ⟨rfl, rfl⟩ := H
        have z36 := bk8 BK226
        go_wp2
        go_ret2
        exact sEnd HB
    ·replace c25 := Bool.eq_false_iff.mpr c25
     subst c25
     rw [if_neg (show ¬ (false = true) by decide)] at H
     simp only [Option.some.injEq, Prod.mk.injEq] at H
     obtain ⟨rfl, rfl⟩ := H
     have z37 := bk8 BK226
     go_wp2_with (first | ((with_reducible refine gate_callee (f := 24) rfl ?_); refine goesK (some 45) Try.func24 #[.slice A0_6 l0_6.length c0_6] ?_; (with_reducible refine (fuglemanref16_Check.calls kj1 _ _ l0_6 t233 t234 _ ?side1 ?side2 A22.out).mono ?_); (case side1 => exact sC HR0_6 HB); (case side2 => exact HC0_6.out); rintro e w38 ⟨rfl, hb⟩; refine ⟨_, rfl, ?_⟩; replace BK226 := sK BK226 hb; replace HB := sB HB hb; (try clear hb); have z39 := bk8 BK226) | ((with_reducible refine gate_callee (f := 23) rfl ?_); refine goesK (some 56) Try.func23 #[.int .i64 (l0_7.length : Int), .int .i64 1, .int .i64 32] ?_; (with_reducible refine (fuglemanref20_in.calls (l0_7.length : Int) 1 32 false _ A24.out).mono ?_); rintro e w' ⟨rfl, ⟨nd, rfl⟩⟩; refine ⟨_, rfl, ?_⟩))
     go_ret2
     exact sEnd HB
   ·rw [if_neg c23] at H
    have c23b0 : (t233 == 0) = false := beq_eq_false_iff_ne.mpr c23
    have c23b1 : (t233 != 0) = true := bne_iff_ne.mpr c23
    simp only [Option.some.injEq, Prod.mk.injEq] at H
    obtain ⟨rfl, rfl⟩ := H
    have z40 := bk8 BK226
    go_wp2_with (first | ((with_reducible refine gate_callee (f := 24) rfl ?_); refine goesK (some 45) Try.func24 #[.slice A0_6 l0_6.length c0_6] ?_; (with_reducible refine (fuglemanref16_Check.calls kj1 _ _ l0_6 t233 t234 _ ?side1 ?side2 A22.out).mono ?_); (case side1 => exact sC HR0_6 HB); (case side2 => exact HC0_6.out); rintro e w41 ⟨rfl, hb⟩; refine ⟨_, rfl, ?_⟩; replace BK226 := sK BK226 hb; replace HB := sB HB hb; (try clear hb)))
    go_ret2
    exact sEnd HB

/-! ### fuglemanlaw20_ConfigChecks: function 3 -/
def fuglemanlaw20_ConfigChecks.f (k : Nat) (a0_0 a0_1 a0_2 a0_3 a0_4 a0_5 : Int) (l0_6 : List (S63)) (l0_7 : List (S37)) : Option (Bool) := (fuglemanlaw20_awake.f k).bind fun t238 => (if t238 = true then ((fuglemanlaw20_Small.f k a0_0 a0_1 a0_2 a0_3 a0_4 a0_5 l0_6 l0_7).bind fun t239 => (if t239 = true then ((config_Check.f k a0_0 a0_1 a0_2 a0_3 a0_4 a0_5 l0_6 l0_7).bind fun bt240 => ((fuglemanref20_Check.f k a0_0 a0_1 a0_2 a0_3 a0_4 a0_5 l0_6 l0_7).bind fun bt242 => (if bt240.1 = bt242.1 then (some (bt240.2 == bt242.2)) else (some false)))) else (some true))) else (some false))
theorem fuglemanlaw20_ConfigChecks.mono : ∀ a0 a1 a2 a3 a4 a5 a6 a7 k, LeO (fuglemanlaw20_ConfigChecks.f k a0 a1 a2 a3 a4 a5 a6 a7) (fuglemanlaw20_ConfigChecks.f (k + 1) a0 a1 a2 a3 a4 a5 a6 a7) := by
 intro a0 a1 a2 a3 a4 a5 a6 a7 k
 unfold fuglemanlaw20_ConfigChecks.f
 repeat' first
   | (with_reducible exact config_Check.mono _ _ _ _ _ _ _ _ _)
   | (with_reducible exact fuglemanlaw20_Small.mono _ _ _ _ _ _ _ _ _)
   | (with_reducible exact fuglemanlaw20_awake.mono _)
   | (with_reducible exact fuglemanref20_Check.mono _ _ _ _ _ _ _ _ _)
   | (with_reducible exact LeO.refl _)
   | (with_reducible exact LeO.none _)
   | (with_reducible refine LeO.ite ?_ ?_)
   | (with_reducible refine LeO.bind ?_ (fun _ => ?_))
   | exact config_Check.mono _ _ _ _ _ _ _ _ _
   | exact fuglemanlaw20_Small.mono _ _ _ _ _ _ _ _ _
   | exact fuglemanlaw20_awake.mono _
   | exact fuglemanref20_Check.mono _ _ _ _ _ _ _ _ _
   | exact LeO.none _
   | refine LeO.ite ?_ ?_
   | refine LeO.bind ?_ (fun _ => ?_)
set_option maxHeartbeats 8000000 in
set_option maxRecDepth 100000 in
theorem fuglemanlaw20_ConfigChecks.calls (k : Nat) (a0_0 a0_1 a0_2 a0_3 a0_4 a0_5 : Int) (A0_6 : Option Addr) (c0_6 : Nat) (l0_6 : List (S63)) (A0_7 : Option Addr) (c0_7 : Nat) (l0_7 : List (S37)) (r : Bool) (w : World) (hr0_6 : Kd.C k63 w A0_6 l0_6.length l0_6) (hc0_6 : l0_6.length ≤ c0_6) (hr0_7 : Kd.C k37 w A0_7 l0_7.length l0_7) (hc0_7 : l0_7.length ≤ c0_7) (h : fuglemanlaw20_ConfigChecks.f k a0_0 a0_1 a0_2 a0_3 a0_4 a0_5 l0_6 l0_7 = some r) :
  Calls Try.prog 3 #[.agg #[.int .i64 a0_0, .int .i64 a0_1, .int .i64 a0_2, .int .i64 a0_3, .int .i64 a0_4, .int .i64 a0_5, .slice A0_6 l0_6.length c0_6, .slice A0_7 l0_7.length c0_7]] w fun e w' => e = .returned (.bool r) ∧ Below w.heap.size w w' := by
 have hu25 := Try.underlying25
 have HR0_6 := Aside0.mk hr0_6
 have HC0_6 := Aside0.mk hc0_6
 clear hr0_6 hc0_6
 have HR0_7 := Aside0.mk hr0_7
 have HC0_7 := Aside0.mk hc0_7
 clear hr0_7 hc0_7
 have HB := Aside0.mk (Below.refl w.heap.size w)
 have H : ((fuglemanlaw20_awake.f k).bind fun t238 => (if t238 = true then ((fuglemanlaw20_Small.f k a0_0 a0_1 a0_2 a0_3 a0_4 a0_5 l0_6 l0_7).bind fun t239 => (if t239 = true then ((config_Check.f k a0_0 a0_1 a0_2 a0_3 a0_4 a0_5 l0_6 l0_7).bind fun bt240 => ((fuglemanref20_Check.f k a0_0 a0_1 a0_2 a0_3 a0_4 a0_5 l0_6 l0_7).bind fun bt242 => (if bt240.1 = bt242.1 then (some (bt240.2 == bt242.2)) else (some false)))) else (some true))) else (some false))) = some r := h
 clear h
 replace H := Option.bind_eq_some_iff.mp H
 obtain ⟨t238, A20, H⟩ := H
 replace H : (if t238 = true then ((fuglemanlaw20_Small.f k a0_0 a0_1 a0_2 a0_3 a0_4 a0_5 l0_6 l0_7).bind fun t239 => (if t239 = true then ((config_Check.f k a0_0 a0_1 a0_2 a0_3 a0_4 a0_5 l0_6 l0_7).bind fun bt240 => ((fuglemanref20_Check.f k a0_0 a0_1 a0_2 a0_3 a0_4 a0_5 l0_6 l0_7).bind fun bt242 => (if bt240.1 = bt242.1 then (some (bt240.2 == bt242.2)) else (some false)))) else (some true))) else (some false)) = some r := H
 have A2 := Aside0.mk A20
 clear A20
 by_cases c3 : t238 = true
 case neg =>
  replace c3 := Bool.eq_false_iff.mpr c3
  subst c3
  rw [if_neg (show ¬ (false = true) by decide)] at H
  obtain rfl := Option.some.inj H
  go_enter Try.func3, Try.ntmps3
  go_wp2_with (first | ((with_reducible refine gate_dst (N := 1) rfl ?_); refine boxK (N := 1) (#[.int .i64 a0_0, .int .i64 a0_1, .int .i64 a0_2, .int .i64 a0_3, .int .i64 a0_4, .int .i64 a0_5, .slice A0_6 l0_6.length c0_6, .slice A0_7 l0_7.length c0_7]) 25 ?_; intro gb237 hg w29 hbox hb; have BK237 := Aside0.mk (hbox); have GW237 := sG hg HB; have GE237 := sG hg HB; replace HB := sB HB hb; clear hb hbox hg) | ((with_reducible refine gate_callee (f := 6) rfl ?_); refine goesK (some 7) Try.func6 #[] ?_; (with_reducible refine (fuglemanlaw20_awake.calls k  false _ A2.out).mono ?_); rintro e w30 ⟨rfl, hb⟩; refine ⟨_, rfl, ?_⟩; replace BK237 := sK BK237 hb; replace HB := sB HB hb; (try clear hb)))
  go_ret
  exact sEnd HB
 subst c3
 rw [if_pos rfl] at H
 replace H := Option.bind_eq_some_iff.mp H
 obtain ⟨t239, A40, H⟩ := H
 replace H : (if t239 = true then ((config_Check.f k a0_0 a0_1 a0_2 a0_3 a0_4 a0_5 l0_6 l0_7).bind fun bt240 => ((fuglemanref20_Check.f k a0_0 a0_1 a0_2 a0_3 a0_4 a0_5 l0_6 l0_7).bind fun bt242 => (if bt240.1 = bt242.1 then (some (bt240.2 == bt242.2)) else (some false)))) else (some true)) = some r := H
 have A4 := Aside0.mk A40
 clear A40
 by_cases c5 : t239 = true
 case neg =>
  replace c5 := Bool.eq_false_iff.mpr c5
  subst c5
  rw [if_neg (show ¬ (false = true) by decide)] at H
  obtain rfl := Option.some.inj H
  go_enter Try.func3, Try.ntmps3
  go_wp2_with (first | ((with_reducible refine gate_dst (N := 1) rfl ?_); refine boxK (N := 1) (#[.int .i64 a0_0, .int .i64 a0_1, .int .i64 a0_2, .int .i64 a0_3, .int .i64 a0_4, .int .i64 a0_5, .slice A0_6 l0_6.length c0_6, .slice A0_7 l0_7.length c0_7]) 25 ?_; intro gb237 hg w25 hbox hb; have BK237 := Aside0.mk (hbox); have GW237 := sG hg HB; have GE237 := sG hg HB; replace HB := sB HB hb; clear hb hbox hg) | ((with_reducible refine gate_callee (f := 6) rfl ?_); refine goesK (some 7) Try.func6 #[] ?_; (with_reducible refine (fuglemanlaw20_awake.calls k  true _ A2.out).mono ?_); rintro e w26 ⟨rfl, hb⟩; refine ⟨_, rfl, ?_⟩; replace BK237 := sK BK237 hb; replace HB := sB HB hb; (try clear hb); have z27 := bk8 BK237) | ((with_reducible refine gate_callee (f := 7) rfl ?_); refine goesK (some 10) Try.func7 #[.agg #[.int .i64 a0_0, .int .i64 a0_1, .int .i64 a0_2, .int .i64 a0_3, .int .i64 a0_4, .int .i64 a0_5, .slice A0_6 l0_6.length c0_6, .slice A0_7 l0_7.length c0_7]] ?_; (with_reducible refine (fuglemanlaw20_Small.calls k a0_0 a0_1 a0_2 a0_3 a0_4 a0_5 _ _ l0_6 _ _ l0_7 false _ ?side1 ?side2 ?side3 ?side4 A4.out).mono ?_); (case side1 => exact sC HR0_6 HB); (case side2 => exact HC0_6.out); (case side3 => exact sC HR0_7 HB); (case side4 => exact HC0_7.out); rintro e w28 ⟨rfl, hb⟩; refine ⟨_, rfl, ?_⟩; replace BK237 := sK BK237 hb; replace HB := sB HB hb; (try clear hb)))
  go_ret
  exact sEnd HB
 subst c5
 rw [if_pos rfl] at H
 replace H := Option.bind_eq_some_iff.mp H
 obtain ⟨⟨t240, t241⟩, A60, H⟩ := H
 replace H : ((fuglemanref20_Check.f k a0_0 a0_1 a0_2 a0_3 a0_4 a0_5 l0_6 l0_7).bind fun bt242 => (if t240 = bt242.1 then (some (t241 == bt242.2)) else (some false))) = some r := H
 have A6 := Aside0.mk A60
 clear A60
 replace H := Option.bind_eq_some_iff.mp H
 obtain ⟨⟨t242, t243⟩, A70, H⟩ := H
 replace H : (if t240 = t242 then (some (t241 == t243)) else (some false)) = some r := H
 have A7 := Aside0.mk A70
 clear A70
 by_cases c8 : t240 = t242
 case neg =>
  rw [if_neg c8] at H
  have c8b0 : (t240 == t242) = false := beq_eq_false_iff_ne.mpr c8
  have c8b1 : (t240 != t242) = true := bne_iff_ne.mpr c8
  obtain rfl := Option.some.inj H
  go_enter Try.func3, Try.ntmps3
  go_wp2_with (first | ((with_reducible refine gate_dst (N := 1) rfl ?_); refine boxK (N := 1) (#[.int .i64 a0_0, .int .i64 a0_1, .int .i64 a0_2, .int .i64 a0_3, .int .i64 a0_4, .int .i64 a0_5, .slice A0_6 l0_6.length c0_6, .slice A0_7 l0_7.length c0_7]) 25 ?_; intro gb237 hg w17 hbox hb; have BK237 := Aside0.mk (hbox); have GW237 := sG hg HB; have GE237 := sG hg HB; replace HB := sB HB hb; clear hb hbox hg) | ((with_reducible refine gate_callee (f := 6) rfl ?_); refine goesK (some 7) Try.func6 #[] ?_; (with_reducible refine (fuglemanlaw20_awake.calls k  true _ A2.out).mono ?_); rintro e w18 ⟨rfl, hb⟩; refine ⟨_, rfl, ?_⟩; replace BK237 := sK BK237 hb; replace HB := sB HB hb; (try clear hb); have z19 := bk8 BK237) | ((with_reducible refine gate_callee (f := 7) rfl ?_); refine goesK (some 10) Try.func7 #[.agg #[.int .i64 a0_0, .int .i64 a0_1, .int .i64 a0_2, .int .i64 a0_3, .int .i64 a0_4, .int .i64 a0_5, .slice A0_6 l0_6.length c0_6, .slice A0_7 l0_7.length c0_7]] ?_; (with_reducible refine (fuglemanlaw20_Small.calls k a0_0 a0_1 a0_2 a0_3 a0_4 a0_5 _ _ l0_6 _ _ l0_7 true _ ?side1 ?side2 ?side3 ?side4 A4.out).mono ?_); (case side1 => exact sC HR0_6 HB); (case side2 => exact HC0_6.out); (case side3 => exact sC HR0_7 HB); (case side4 => exact HC0_7.out); rintro e w20 ⟨rfl, hb⟩; refine ⟨_, rfl, ?_⟩; replace BK237 := sK BK237 hb; replace HB := sB HB hb; (try clear hb); have z21 := bk8 BK237) | ((with_reducible refine gate_callee (f := 8) rfl ?_); refine goesK (some 14) Try.func8 #[.agg #[.int .i64 a0_0, .int .i64 a0_1, .int .i64 a0_2, .int .i64 a0_3, .int .i64 a0_4, .int .i64 a0_5, .slice A0_6 l0_6.length c0_6, .slice A0_7 l0_7.length c0_7]] ?_; (with_reducible refine (config_Check.calls k a0_0 a0_1 a0_2 a0_3 a0_4 a0_5 _ _ l0_6 _ _ l0_7 t240 t241 _ ?side1 ?side2 ?side3 ?side4 A6.out).mono ?_); (case side1 => exact sC HR0_6 HB); (case side2 => exact HC0_6.out); (case side3 => exact sC HR0_7 HB); (case side4 => exact HC0_7.out); rintro e w22 ⟨rfl, hb⟩; refine ⟨_, rfl, ?_⟩; replace BK237 := sK BK237 hb; replace HB := sB HB hb; (try clear hb); have z23 := bk8 BK237) | ((with_reducible refine gate_callee (f := 9) rfl ?_); refine goesK (some 19) Try.func9 #[.agg #[.int .i64 a0_0, .int .i64 a0_1, .int .i64 a0_2, .int .i64 a0_3, .int .i64 a0_4, .int .i64 a0_5, .slice A0_6 l0_6.length c0_6, .slice A0_7 l0_7.length c0_7]] ?_; (with_reducible refine (fuglemanref20_Check.calls k a0_0 a0_1 a0_2 a0_3 a0_4 a0_5 _ _ l0_6 _ _ l0_7 t242 t243 _ ?side1 ?side2 ?side3 ?side4 A7.out).mono ?_); (case side1 => exact sC HR0_6 HB); (case side2 => exact HC0_6.out); (case side3 => exact sC HR0_7 HB); (case side4 => exact HC0_7.out); rintro e w24 ⟨rfl, hb⟩; refine ⟨_, rfl, ?_⟩; replace BK237 := sK BK237 hb; replace HB := sB HB hb; (try clear hb)))
  go_ret
  exact sEnd HB
 rw [if_pos c8] at H
 have c8b0 : (t240 == t242) = true := beq_iff_eq.mpr c8
 have c8b1 : (t240 != t242) = false := bne_eq_false_iff_eq.mpr c8
 clear c8
 obtain rfl := Option.some.inj H
 go_enter Try.func3, Try.ntmps3
 go_wp2_with (first | ((with_reducible refine gate_dst (N := 1) rfl ?_); refine boxK (N := 1) (#[.int .i64 a0_0, .int .i64 a0_1, .int .i64 a0_2, .int .i64 a0_3, .int .i64 a0_4, .int .i64 a0_5, .slice A0_6 l0_6.length c0_6, .slice A0_7 l0_7.length c0_7]) 25 ?_; intro gb237 hg w9 hbox hb; have BK237 := Aside0.mk (hbox); have GW237 := sG hg HB; have GE237 := sG hg HB; replace HB := sB HB hb; clear hb hbox hg) | ((with_reducible refine gate_callee (f := 6) rfl ?_); refine goesK (some 7) Try.func6 #[] ?_; (with_reducible refine (fuglemanlaw20_awake.calls k  true _ A2.out).mono ?_); rintro e w10 ⟨rfl, hb⟩; refine ⟨_, rfl, ?_⟩; replace BK237 := sK BK237 hb; replace HB := sB HB hb; (try clear hb); have z11 := bk8 BK237) | ((with_reducible refine gate_callee (f := 7) rfl ?_); refine goesK (some 10) Try.func7 #[.agg #[.int .i64 a0_0, .int .i64 a0_1, .int .i64 a0_2, .int .i64 a0_3, .int .i64 a0_4, .int .i64 a0_5, .slice A0_6 l0_6.length c0_6, .slice A0_7 l0_7.length c0_7]] ?_; (with_reducible refine (fuglemanlaw20_Small.calls k a0_0 a0_1 a0_2 a0_3 a0_4 a0_5 _ _ l0_6 _ _ l0_7 true _ ?side1 ?side2 ?side3 ?side4 A4.out).mono ?_); (case side1 => exact sC HR0_6 HB); (case side2 => exact HC0_6.out); (case side3 => exact sC HR0_7 HB); (case side4 => exact HC0_7.out); rintro e w12 ⟨rfl, hb⟩; refine ⟨_, rfl, ?_⟩; replace BK237 := sK BK237 hb; replace HB := sB HB hb; (try clear hb); have z13 := bk8 BK237) | ((with_reducible refine gate_callee (f := 8) rfl ?_); refine goesK (some 14) Try.func8 #[.agg #[.int .i64 a0_0, .int .i64 a0_1, .int .i64 a0_2, .int .i64 a0_3, .int .i64 a0_4, .int .i64 a0_5, .slice A0_6 l0_6.length c0_6, .slice A0_7 l0_7.length c0_7]] ?_; (with_reducible refine (config_Check.calls k a0_0 a0_1 a0_2 a0_3 a0_4 a0_5 _ _ l0_6 _ _ l0_7 t240 t241 _ ?side1 ?side2 ?side3 ?side4 A6.out).mono ?_); (case side1 => exact sC HR0_6 HB); (case side2 => exact HC0_6.out); (case side3 => exact sC HR0_7 HB); (case side4 => exact HC0_7.out); rintro e w14 ⟨rfl, hb⟩; refine ⟨_, rfl, ?_⟩; replace BK237 := sK BK237 hb; replace HB := sB HB hb; (try clear hb); have z15 := bk8 BK237) | ((with_reducible refine gate_callee (f := 9) rfl ?_); refine goesK (some 19) Try.func9 #[.agg #[.int .i64 a0_0, .int .i64 a0_1, .int .i64 a0_2, .int .i64 a0_3, .int .i64 a0_4, .int .i64 a0_5, .slice A0_6 l0_6.length c0_6, .slice A0_7 l0_7.length c0_7]] ?_; (with_reducible refine (fuglemanref20_Check.calls k a0_0 a0_1 a0_2 a0_3 a0_4 a0_5 _ _ l0_6 _ _ l0_7 t242 t243 _ ?side1 ?side2 ?side3 ?side4 A7.out).mono ?_); (case side1 => exact sC HR0_6 HB); (case side2 => exact HC0_6.out); (case side3 => exact sC HR0_7 HB); (case side4 => exact HC0_7.out); rintro e w16 ⟨rfl, hb⟩; refine ⟨_, rfl, ?_⟩; replace BK237 := sK BK237 hb; replace HB := sB HB hb; (try clear hb)))
 go_ret
 exact sEnd HB

end Go.Proofs.Ytedmikeamgebjaa.R
