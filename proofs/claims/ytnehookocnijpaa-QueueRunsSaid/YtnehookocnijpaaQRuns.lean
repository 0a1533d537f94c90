/- For every number of places and every list of acts the law QueueRuns returns true, and what came in reads as it did. Conditions: none. -/
import Derived.Test.YtnehookocnijpaaRows
import Derived.Test.YtnehookocnijpaaQRunsW
import Derived.Test.YtnehookocnijpaaReads
set_option linter.unusedVariables false
set_option linter.unusedSimpArgs false
namespace Go.Proofs.Ytnehookocnijpaa
open Go.ChangeShapes Go.WideShapes Go.ChangeAt Go.RowKit
open Go.ChangeMaps (open_string shut_string)
namespace QueueRunsLaw

theorem own : ownKnob Try.prog.godebug = none := by kernel_rfl
theorem laidOut : laidOutB Try.prog = true := by kernel_rfl
theorem cells29 : Try.prog.cellsOf 29 = 3 := by kernel_rfl
theorem cells5 : Try.prog.cellsOf 5 = 1 := by kernel_rfl
theorem cells4 : Try.prog.cellsOf 4 = 1 := by kernel_rfl
theorem cells9 : Try.prog.cellsOf 9 = 1 := by kernel_rfl

theorem trod_act {H : Type} {enc : TypeId × Value → H} {w : World} {base : Nat} {spare : Nat → Bool} {held : Bool} (n : Nat) (cs : List Value) (y : DataW H × List MemPlace)
    (h : DataW.trod enc Try.prog w base spare held n 29 cs = some y) : ∃ x : Int × Bool × ByteArray, cs = encAct x ∧ (0 ≤ x.1 ∧ x.1 ≤ 255) := by
  obtain ⟨c0, c1, c2, rfl⟩ := list3 (trod_len Try.underlying29 h 3 cells29)
  obtain ⟨n0, y0, h0⟩ := trod_field Try.underlying29 h 0 _ rfl 1 cells5
  obtain ⟨n1, y1, h1⟩ := trod_field Try.underlying29 h 1 _ rfl 1 cells4
  obtain ⟨n2, y2, h2⟩ := trod_field Try.underlying29 h 2 _ rfl 1 cells9
  obtain ⟨a, e0, _, wa⟩ := DataW.trod_int Try.underlying5 h0
  obtain ⟨b, e1, _⟩ := DataW.trod_bool Try.underlying4 h1
  obtain ⟨s, e2, _⟩ := DataW.trod_string Try.underlying9 h2
  simp at e0 e1 e2
  subst e0 e1 e2
  exact ⟨(a, b, s), rfl, bounds_u8 wa⟩

set_option maxRecDepth 100000 in
theorem lifted (os : Os) (started : os.Started) (H : Type) (enc : TypeId × Value → H) :
    ReturnsInHanded {} Try.checked os 3 .any (Rows.queueRunsSpec.pre6 enc Try.prog Try.f3 Rows.queueRunsRow.domain false) (Rows.queueRunsSpec.post enc Try.prog Try.f3 false true false false) := by
  refine returnsInHanded_of_change (C := Try.checked) own started (by kernel_rfl) Try.func3
    (ChangeSpec.witness6 (enc := enc) (C := Try.checked) false ⟨#[], #[.int .i64 0, .slice none 0 0], []⟩ 8 (by kernel_rfl) (by kernel_rfl) (by kernel_rfl) (by kernel_rfl)) ?_
  intro W base args ds gs before hval0 hW hcnd _
  have hval : ∀ (j : Nat) t v, Try.f3.params[j]? = some t → args[j]? = some v → Value.okWide Try.prog W .any base t v := hval0
  have hW' := hW
  obtain ⟨p, q, hA0, hV, rfl, hfz, hnd⟩ := hW
  have hA : DataW.TrodAll enc Try.prog W 0 (fun _ => true) true Try.f3.params.toList args.toList ds p := hA0
  rw [Try.params3] at hA hval
  obtain ⟨v0, vs0, d0, ds0, p0, q0, hargs, rfl, rfl, h0, r0⟩ := trodAll_cons hA
  obtain ⟨v1, vs1, d1, ds1, p1, q1, rfl, rfl, rfl, h1, r1⟩ := trodAll_cons r0
  obtain ⟨rfl, rfl, rfl⟩ := trodAll_nil r1
  obtain rfl : args = #[v0, v1] := by cases args; simp_all
  obtain ⟨rfl, rfl⟩ := trodVars_none hV
  obtain ⟨a0, rfl, rfl, rfl, w0⟩ := open_int Try.underlying3 (hval 0 3 v0 rfl rfl) h0
  have k1 := h1
  have lt1 : ∀ x ∈ p1, x.block < W.heap.size := by obtain ⟨m, hm⟩ := k1; exact DataW.trod_lt m _ _ _ hm
  obtain ⟨b1, len1, cap1, rfl⟩ := okWide_slice Try.underlying22 (hval 1 22 v1 rfl rfl)
  obtain ⟨l, hl, hok⟩ : ∃ l : List (Int × Bool × ByteArray), RSl W 3 encAct (.slice b1 len1 cap1) l ∧ ∀ x ∈ l, 0 ≤ x.1 ∧ x.1 ≤ 255 := by
    obtain ⟨fuel, hf⟩ := h1
    obtain ⟨v, l, hcs, hl, hok⟩ := open_rsl (enc := encAct) (Ok := fun x => 0 ≤ x.1 ∧ x.1 ≤ 255) Try.underlying22 cells29 (by omega) trod_act hf
    simp [Value.cells] at hcs
    rw [← hcs] at hl
    exact ⟨l, hl, hok⟩
  clear hA0 hval0
  refine (queueRuns_walk a0 _ l W hl hok).mono fun e W' ⟨he, hm⟩ => ?_
  have bel := hm.toBelow
  subst he
  exact ⟨_, rfl, _, _, _, [], _, [], hW', trodAll_mk1 (shut_bool Try.underlying4 _), (trodAll_cons_mk (shut_int Try.underlying3 w0) (trodAll_cons_mk (Below.trod laidOut (by kernel_rfl) (of_decide_eq_true (by kernel_rfl)) k1 bel lt1) trodAll_mk0)), rfl, bel.frame _, fun h => by cases h⟩

end QueueRunsLaw

theorem queueRuns_holds : Rows.QueueRunsSaid :=
  OpenClaim.holds_of_wide 3 Try.f3 rfl rfl rfl rfl rfl rfl rfl ⟨rfl, rfl, rfl, rfl, rfl⟩ rfl rfl rfl rfl rfl (by kernel_rfl) Try.func3 (by kernel_rfl)
    (of_decide_eq_true (by kernel_rfl)) (by unfold Func.isWrapper; first | (rw [if_pos (by decide +kernel)]; kernel_rfl) | (rw [if_neg (by decide +kernel)]; exact ⟨rfl, rfl⟩))
    (fun os started H enc _ => QueueRunsLaw.lifted os started H enc)
end Go.Proofs.Ytnehookocnijpaa
