/- For every program the law VerifyChecks returns true, and what came in reads as it did. Conditions: none. -/
import Derived.Test.YtnehookocnijpaaRows
import Derived.Test.YtnehookocnijpaaVLaw5
import Derived.Test.YtnehookocnijpaaReads
set_option linter.unusedVariables false
set_option linter.unusedSimpArgs false
namespace Go.Proofs.Ytnehookocnijpaa
open Go.RowKit Go.ChangeShapes Go.WideShapes
instance : Inhabited Ins := ⟨⟨0, 0, 0, 0, 0⟩⟩
theorem cells65 : Try.prog.cellsOf 65 = 5 := by kernel_rfl
theorem cells3 : Try.prog.cellsOf 3 = 1 := by kernel_rfl
theorem cells2 : Try.prog.cellsOf 2 = 1 := by kernel_rfl
theorem RSl.toN {α : Type} {w : World} {m : Nat} {enc : α → List Value} {v : Value} {l : List α} (h : RSl w m enc v l) : RSn w m enc v l := by
  obtain ⟨ao, cap, h1, h2, h3, h4⟩ := h
  exact ⟨ao, cap, h1, h2, Nat.le_trans h2 h3, h4⟩
theorem trod_ins {H : Type} {enc : TypeId × Value → H} {w : World} {base : Nat} {spare : Nat → Bool} {held : Bool} (n : Nat) (cs : List Value) (y : DataW H × List MemPlace)
    (h : DataW.trod enc Try.prog w base spare held n 65 cs = some y) : ∃ x : Ins, cs = encI x ∧ x.Ok := by
  obtain ⟨c0, c1, c2, c3, c4, rfl⟩ := list5 (trod_len Try.underlying65 h 5 cells65)
  obtain ⟨n0, y0, h0⟩ := trod_field Try.underlying65 h 0 _ rfl 1 cells3
  obtain ⟨n1, y1, h1⟩ := trod_field Try.underlying65 h 1 _ rfl 1 cells3
  obtain ⟨n2, y2, h2⟩ := trod_field Try.underlying65 h 2 _ rfl 1 cells3
  obtain ⟨n3, y3, h3⟩ := trod_field Try.underlying65 h 3 _ rfl 1 cells3
  obtain ⟨n4, y4, h4⟩ := trod_field Try.underlying65 h 4 _ rfl 1 cells2
  obtain ⟨a, e0, _, wa⟩ := DataW.trod_int Try.underlying3 h0
  obtain ⟨b, e1, _, wb⟩ := DataW.trod_int Try.underlying3 h1
  obtain ⟨c, e2, _, wc⟩ := DataW.trod_int Try.underlying3 h2
  obtain ⟨d, e3, _, wd⟩ := DataW.trod_int Try.underlying3 h3
  obtain ⟨e, e4, _, we⟩ := DataW.trod_int Try.underlying2 h4
  simp at e0 e1 e2 e3 e4
  subst e0 e1 e2 e3 e4
  exact ⟨⟨a, b, c, d, e⟩, rfl, ⟨bounds_i64 wa, bounds_i64 wb, bounds_i64 wc, bounds_i64 wd, bounds_i64 we⟩⟩
end Go.Proofs.Ytnehookocnijpaa
namespace Go.Proofs.Ytnehookocnijpaa
open Go.ChangeShapes Go.WideShapes Go.ChangeAt Go.RowKit
open Go.ChangeMaps (open_string shut_string)
namespace VerifyChecksLaw
theorem own : ownKnob Try.prog.godebug = none := by kernel_rfl
theorem laidOut : laidOutB Try.prog = true := by kernel_rfl

set_option maxRecDepth 100000 in
theorem lifted (os : Os) (started : os.Started) (H : Type) (enc : TypeId × Value → H) :
    ReturnsInHanded {} Try.checked os 5 .any (Rows.verifyChecksSpec.pre6 enc Try.prog Try.f5 Rows.verifyChecksRow.domain false) (Rows.verifyChecksSpec.post enc Try.prog Try.f5 false true false false) := by
  refine returnsInHanded_of_change (C := Try.checked) own started (by kernel_rfl) Try.func5
    (ChangeSpec.witness6 (enc := enc) (C := Try.checked) false ⟨#[], #[.slice none 0 0], []⟩ 8 (by kernel_rfl) (by kernel_rfl) (by kernel_rfl) (by kernel_rfl)) ?_
  intro W base args ds gs before hval0 hW hcnd _
  have hval : ∀ (j : Nat) t v, Try.f5.params[j]? = some t → args[j]? = some v → Value.okWide Try.prog W .any base t v := hval0
  have hW' := hW
  obtain ⟨p, q, hA0, hV, rfl, hfz, hnd⟩ := hW
  have hA : DataW.TrodAll enc Try.prog W 0 (fun _ => true) true Try.f5.params.toList args.toList ds p := hA0
  rw [Try.params5] at hA hval
  obtain ⟨v0, vs0, d0, ds0, p0, q0, hargs, rfl, rfl, h0, r0⟩ := trodAll_cons hA
  obtain ⟨rfl, rfl, rfl⟩ := trodAll_nil r0
  obtain rfl : args = #[v0] := by cases args; simp_all
  obtain ⟨rfl, rfl⟩ := trodVars_none hV
  have k0 := h0
  have lt0 : ∀ x ∈ p0, x.block < W.heap.size := by obtain ⟨m, hm⟩ := k0; exact DataW.trod_lt m _ _ _ hm
  obtain ⟨b0, len0, cap0, rfl⟩ := okWide_slice Try.underlying53 (hval 0 53 v0 rfl rfl)
  obtain ⟨l0, hl0, hok0⟩ : ∃ l : List (Ins), RSl W 5 encI (.slice b0 len0 cap0) l ∧ ∀ x ∈ l, Ins.Ok x := by
    obtain ⟨fuel, hf⟩ := h0
    obtain ⟨v, l, hcs, hl, hok⟩ := open_rsl (enc := encI) (Ok := Ins.Ok) Try.underlying53 cells65 (by omega) trod_ins hf
    simp [Value.cells] at hcs
    rw [← hcs] at hl
    exact ⟨l, hl, hok⟩
  clear hA0 hval0
  refine (checks_walk _ l0 W hl0.toN hok0).mono fun e W' ⟨he, hm⟩ => ?_
  have bel := hm.toBelow
  subst he
  exact ⟨_, rfl, _, _, _, [], _, [], hW', trodAll_mk1 (shut_bool Try.underlying4 _), (trodAll_cons_mk (Below.trod laidOut (by kernel_rfl) (of_decide_eq_true (by kernel_rfl)) k0 bel lt0) trodAll_mk0), rfl, bel.frame _, fun h => by cases h⟩
end VerifyChecksLaw

theorem verifyChecks_holds : Rows.VerifyChecksSaid :=
  OpenClaim.holds_of_wide 5 Try.f5 rfl rfl rfl rfl rfl rfl rfl ⟨rfl, rfl, rfl, rfl, rfl⟩ rfl rfl rfl rfl rfl (by kernel_rfl) Try.func5 (by kernel_rfl)
    (of_decide_eq_true (by kernel_rfl)) (by unfold Func.isWrapper; first | (rw [if_pos (by decide +kernel)]; kernel_rfl) | (rw [if_neg (by decide +kernel)]; exact ⟨rfl, rfl⟩))
    (fun os started H enc _ => VerifyChecksLaw.lifted os started H enc)
end Go.Proofs.Ytnehookocnijpaa
