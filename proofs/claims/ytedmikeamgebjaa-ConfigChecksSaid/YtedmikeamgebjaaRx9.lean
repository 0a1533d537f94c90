-- Written by a program out of the translation; not trusted: Lean checks it.
import Derived.Test.YtedmikeamgebjaaK
import Derived.Test.YtedmikeamgebjaaK2
import Derived.Test.YtedmikeamgebjaaRx0
namespace Go.Proofs.Ytedmikeamgebjaa.R
open Go.Proofs.YtedmikeamgebjaaW.PrintK Go.RowKit Go.Proofs.YtedmikeamgebjaaW.PrintWords Go.Proofs.YtedmikeamgebjaaW.PrintLast Go.Proofs.YtedmikeamgebjaaW.PrintMore
attribute [local go_sem] max2_int min2_int max_two min_two max_three min_three max_four min_four   -- for this text's walks alone
set_option linter.unusedVariables false
set_option linter.unusedSimpArgs false

/-! ### fuglemanref12_Right: function 55 -/
def fuglemanref12_Right.f (a0_0 a0_1 a0_2 a0_3 a0_4 : Int) : Option Bool := rightF ⟨a0_0, a0_1, a0_2, a0_3, a0_4⟩
theorem fuglemanref12_Right.calls (a0_0 a0_1 a0_2 a0_3 a0_4 : Int) (r : Bool) (w : World) (h : fuglemanref12_Right.f a0_0 a0_1 a0_2 a0_3 a0_4 = some r) :
  Calls Try.prog 55 #[.agg #[.int .i64 a0_0, .int .i64 a0_1, .int .i64 a0_2, .int .i64 a0_3, .int .i64 a0_4]] w fun e w' => e = .returned (.bool r) ∧ Below w.heap.size w w' := rightF_calls h w

/-! ### fuglemanref14_All: function 42 -/
def toP (x : S54) : P.S54 := ⟨x.f0, x.f1, x.f2, x.f3, x.f4⟩
def frP (x : P.S90) : S90 := ⟨x.f0, x.f1, x.f2⟩
def fuglemanref14_All.f (l0 : List S54) : Option (List S90 × Int × Int) :=
 if (l0.map fun x => toInsP (toP x)).all Ins.okB = true then some ((resA (allP (l0.map fun x => toInsP (toP x)))).1.map frP, (resA (allP (l0.map fun x => toInsP (toP x)))).2.1, (resA (allP (l0.map fun x => toInsP (toP x)))).2.2) else none
theorem fuglemanref14_All.calls (A0 : Option Addr) (c0 : Nat) (l0 : List S54) (r1 : List S90) (r2 r3 : Int) (w : World) (hr0 : Kd.C k54 w A0 l0.length l0) (hc0 : l0.length ≤ c0) (h : fuglemanref14_All.f l0 = some (r1, r2, r3)) :
  Calls Try.prog 42 #[.slice A0 l0.length c0] w fun e w' => ∃ v0_ : Value, e = .returned (.tuple #[v0_, .int .i64 r2, .int .i64 r3]) ∧ Kd.R k90 90 w' w.heap.size (fun _ => True) v0_ r1 ∧ Below w.heap.size w w' := by
 unfold fuglemanref14_All.f at h
 by_cases hok : (l0.map fun x => toInsP (toP x)).all Ins.okB = true
 case neg =>
  rw [if_neg hok] at h
  cases h
 rw [if_pos hok] at h
 obtain ⟨K, hK⟩ := all_f (l0.map toP) (fun x hx => by
  obtain ⟨y, hy, rfl⟩ := List.mem_map.1 hx
  exact Ins.okB_iff.1 (List.all_eq_true.1 hok _ (List.mem_map.2 ⟨y, hy, rfl⟩)))
 rw [List.map_map] at hK
 have hC := C_map (d' := P.k54) toP rfl (fun w x cs hk => by obtain rfl := k54_open hk; exact P.k54_mk w (toP x)) hr0
 have hcall := P.fuglemanref14_All.calls K A0 c0 (l0.map toP) _ _ _ w hC (by rw [List.length_map]; exact hc0) hK
 rw [List.length_map] at hcall
 simp only [Option.some.injEq, Prod.mk.injEq] at h
 obtain ⟨rfl, rfl, rfl⟩ := h
 refine hcall.mono ?_
 rintro e w' ⟨v0, he, hR, hb⟩
 exact ⟨v0, he, R_map frP rfl (fun w base ok x cs hm => by obtain rfl := P.k90_openM hm; exact k90_mkM w base ok (frP x)) hR, hb⟩

end Go.Proofs.Ytedmikeamgebjaa.R
