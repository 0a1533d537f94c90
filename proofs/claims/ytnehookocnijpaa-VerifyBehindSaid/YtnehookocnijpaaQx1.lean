-- Written by a program out of the translation; not trusted: Lean checks it.
import Derived.Test.YtnehookocnijpaaQx0
namespace Go.Proofs.Ytnehookocnijpaa.Q
open Go.RowKit Go.Proofs.YtnehookocnijpaaW.PrintWords Go.Proofs.YtnehookocnijpaaW.PrintLast Go.Proofs.YtnehookocnijpaaW.PrintMore
attribute [local go_sem] max2_int min2_int max_two min_two max_three min_three max_four min_four   -- for this text's walks alone
set_option linter.unusedVariables false
set_option linter.unusedSimpArgs false

/-! ### fuglemanlaw14_awake: function 28 -/
def fuglemanlaw14_awake.f : Option Bool := some true
theorem fuglemanlaw14_awake.calls (r : Bool) (w : World) (h : fuglemanlaw14_awake.f = some r) : Calls Try.prog 28 #[] w fun e w' => e = .returned (.bool r) ∧ Below w.heap.size w w' := by
  obtain rfl := Option.some.inj h
  exact (v_awake w).mono fun e w' h => ⟨h.1, h.2.toBelow⟩

/-! ### verify_Check: function 29 -/
def toIns (x : S65) : Ins := ⟨x.f0, x.f1, x.f2, x.f3, x.f4⟩
def verify_Check.f (l0 : List S65) : Option (Int × Int) := checkF (l0.map toIns)
theorem rsn_of_C {w : World} {A0 : Option Addr} {c0 : Nat} {l0 : List S65} (hr0 : Kd.C k65 w A0 l0.length l0) (hc0 : l0.length ≤ c0) : RSn w 5 encI (.slice A0 l0.length c0) (l0.map toIns) := by
  refine ⟨A0, c0, by rw [List.length_map], by simpa using hc0, by rw [List.length_map]; exact hr0.2.1, fun hne => ?_⟩
  have hpos : 0 < l0.length := by
    rcases l0 with _ | ⟨x, l⟩
    · simp at hne
    · simp
  obtain ⟨ad, rfl, hcell⟩ := hr0.2.2 hpos
  have key : ∀ (i : Nat) (x : S65), l0[i]? = some x → ∀ j, j < 5 → w.cell? (ad.add (i * 5 + j)) = (encI (toIns x))[j]? := by
    intro i x hx j hj
    obtain ⟨c, hc1, hc2, hc3⟩ := hcell i x hx
    rw [k65_open hc2] at hc3
    have : j < (encI (toIns x)).length := hj
    rw [List.getElem?_eq_getElem this]
    exact hc3 j _ (List.getElem?_eq_getElem this)
  have h0 := key 0 _ (List.getElem?_eq_getElem hpos) 0 (by omega)
  have ha0 : ad.add (0 * 5 + 0) = ad := by simp [Addr.add]
  rw [ha0] at h0
  have hspot : ad.spot = none := World.cell?_spot (h0.trans rfl)
  obtain ⟨b, off, spot⟩ := ad
  simp only at hspot
  subst hspot
  refine ⟨b, off, rfl, World.block_lt_of_cell? _ _ (h0.trans rfl), fun i x hx j hj => ?_⟩
  rw [List.getElem?_map] at hx
  obtain ⟨y, hy, rfl⟩ := Option.map_eq_some_iff.1 hx
  rw [← key i y hy j hj]
  congr 1
  unfold Addr.add
  split
  · rename_i h; simp [h]
  · rfl
theorem verify_Check.calls (A0 : Option Addr) (c0 : Nat) (l0 : List S65) (r1 : Int) (r2 : Int) (w : World) (hr0 : Kd.C k65 w A0 l0.length l0) (hc0 : l0.length ≤ c0) (h : verify_Check.f l0 = some (r1, r2)) :
    Calls Try.prog 29 #[.slice A0 l0.length c0] w fun e w' => e = .returned (.tuple #[.int .i64 r1, .int .i64 r2]) ∧ Below w.heap.size w w' := checkF_calls h (rsn_of_C hr0 hc0)

/-! ### fuglemanref12_Right: function 32 -/
def fuglemanref12_Right.f (a0_0 : Int) (a0_1 : Int) (a0_2 : Int) (a0_3 : Int) (a0_4 : Int) : Option Bool := rightF ⟨a0_0, a0_1, a0_2, a0_3, a0_4⟩
theorem fuglemanref12_Right.calls (a0_0 : Int) (a0_1 : Int) (a0_2 : Int) (a0_3 : Int) (a0_4 : Int) (r : Bool) (w : World) (h : fuglemanref12_Right.f a0_0 a0_1 a0_2 a0_3 a0_4 = some r) :
    Calls Try.prog 32 #[.agg #[.int .i64 a0_0, .int .i64 a0_1, .int .i64 a0_2, .int .i64 a0_3, .int .i64 a0_4]] w fun e w' => e = .returned (.bool r) ∧ Below w.heap.size w w' := rightF_calls h w

end Go.Proofs.Ytnehookocnijpaa.Q
