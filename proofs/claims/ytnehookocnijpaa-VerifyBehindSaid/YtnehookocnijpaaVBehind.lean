/- For all programs the law VerifyBehind returns true, and what came in reads as it did. Conditions: none. -/
import Derived.Test.YtnehookocnijpaaRows
import Derived.Test.YtnehookocnijpaaVBehPure
import Derived.Test.YtnehookocnijpaaReads
set_option linter.unusedVariables false
set_option linter.unusedSimpArgs false
namespace Go.Proofs.Ytnehookocnijpaa
open Go.RowKit Go.ChangeShapes Go.WideShapes Go.Proofs.YtnehookocnijpaaW.PrintWords Go.Proofs.YtnehookocnijpaaW.PrintLast Go.Proofs.YtnehookocnijpaaW.PrintMore
instance : Inhabited Ins := ⟨⟨0, 0, 0, 0, 0⟩⟩
theorem cells65 : Try.prog.cellsOf 65 = 5 := by kernel_rfl
theorem cells3 : Try.prog.cellsOf 3 = 1 := by kernel_rfl
theorem cells2 : Try.prog.cellsOf 2 = 1 := by kernel_rfl
theorem RSl.toN {α : Type} {w : World} {m : Nat} {enc : α → List Value} {v : Value} {l : List α} (h : RSl w m enc v l) : RSn w m enc v l := by
  obtain ⟨ao, cap, h1, h2, h3, h4⟩ := h
  exact ⟨ao, cap, h1, h2, Nat.le_trans h2 h3, h4⟩
theorem trod_ins {H : Type} {enc : TypeId × Value → H} {w : World} {base : Nat} {spare : Nat → Bool} {held : Bool} (n : Nat) (cs : List Value) (y : DataW H × List MemPlace)
    (h : DataW.trod enc Try.prog w base spare held n 65 cs = some y) : ∃ x : Ins, cs = encI x ∧ x.Ok := by
  obtain ⟨c0, c1, c2, c3, c4, rfl⟩ := list5 (trod_len Try.underlying65 h 5 cells65)
  obtain ⟨n0, y0, h0⟩ := trod_field Try.underlying65 h 0 _ rfl 1 cells3
  obtain ⟨n1, y1, h1⟩ := trod_field Try.underlying65 h 1 _ rfl 1 cells3
  obtain ⟨n2, y2, h2⟩ := trod_field Try.underlying65 h 2 _ rfl 1 cells3
  obtain ⟨n3, y3, h3⟩ := trod_field Try.underlying65 h 3 _ rfl 1 cells3
  obtain ⟨n4, y4, h4⟩ := trod_field Try.underlying65 h 4 _ rfl 1 cells2
  obtain ⟨a, e0, _, wa⟩ := DataW.trod_int Try.underlying3 h0
  obtain ⟨b, e1, _, wb⟩ := DataW.trod_int Try.underlying3 h1
  obtain ⟨c, e2, _, wc⟩ := DataW.trod_int Try.underlying3 h2
  obtain ⟨d, e3, _, wd⟩ := DataW.trod_int Try.underlying3 h3
  obtain ⟨e, e4, _, we⟩ := DataW.trod_int Try.underlying2 h4
  simp at e0 e1 e2 e3 e4
  subst e0 e1 e2 e3 e4
  exact ⟨⟨a, b, c, d, e⟩, rfl, ⟨bounds_i64 wa, bounds_i64 wb, bounds_i64 wc, bounds_i64 wd, bounds_i64 we⟩⟩
def toSQ (i : Ins) : Q.S65 := ⟨i.op, i.kind, i.area, i.at_, i.n⟩
theorem map_toSQ (l : List Ins) : (l.map toSQ).map Q.toIns = l := by
  rw [List.map_map]
  exact List.map_id' l
theorem C_of_rsnQ {w : World} {v : Value} {l : List Ins} (h : RSn w 5 encI v l) : ∃ A c, v = .slice A (l.map toSQ).length c ∧ (l.map toSQ).length ≤ c ∧ Kd.C Q.k65 w A (l.map toSQ).length (l.map toSQ) := by
  obtain ⟨A, c, rfl, h1, h2, h3⟩ := h
  refine ⟨A, c, by rw [List.length_map], by rw [List.length_map]; exact h1, rfl, by rw [List.length_map]; exact h2, fun hpos => ?_⟩
  obtain ⟨b, off, rfl, hb, hc⟩ := h3 (by rintro rfl; simp at hpos)
  refine ⟨_, rfl, fun j p hp => ?_⟩
  rw [List.getElem?_map] at hp
  obtain ⟨i, hi, rfl⟩ := Option.map_eq_some_iff.1 hp
  refine ⟨encI i, rfl, Q.k65_mk w (toSQ i), fun m u hu => ?_⟩
  have hm : m < 5 := by
    have := (List.getElem?_eq_some_iff.1 hu).1
    simpa [encI] using this
  have e : (⟨b, off, none⟩ : Addr).add (j * 5 + m) = ⟨b, off + (j * 5 + m), none⟩ := by
    unfold Addr.add
    split
    · rename_i h; simp [h]
    · rfl
  show w.cell? ((⟨b, off, none⟩ : Addr).add (j * 5 + m)) = some u
  rw [e, hc j i hi m hm, hu]
theorem behind_walk (v0 v1 : Value) (l0 l1 : List Ins) (w : World) (h0 : RSn w 5 encI v0 l0) (h1 : RSn w 5 encI v1 l1) (k0 : ∀ i ∈ l0, i.Ok) (k1 : ∀ i ∈ l1, i.Ok) : Calls Try.prog 6 #[v0, v1] w fun e w' => e = .returned (.bool true) ∧ Mod [] w w' := by
  obtain ⟨A0, c0, rfl, hc0, hC0⟩ := C_of_rsnQ h0
  obtain ⟨A1, c1, rfl, hc1, hC1⟩ := C_of_rsnQ h1
  obtain ⟨K, hK⟩ := behind_f (l0.map toSQ) (l1.map toSQ) (by
    intro x hx
    obtain ⟨i, hi, rfl⟩ := List.mem_map.1 hx
    exact k0 i hi) (by
    intro x hx
    obtain ⟨i, hi, rfl⟩ := List.mem_map.1 hx
    exact k1 i hi)
  exact (Q.fuglemanlaw14_VerifyBehind.calls K A0 c0 _ A1 c1 _ true w hC0 hc0 hC1 hc1 hK).mono fun e w' h => ⟨h.1, Mod.below h.2⟩
end Go.Proofs.Ytnehookocnijpaa
namespace Go.Proofs.Ytnehookocnijpaa
open Go.ChangeShapes Go.WideShapes Go.ChangeAt Go.RowKit
open Go.ChangeMaps (open_string shut_string)
namespace VerifyBehindLaw
theorem own : ownKnob Try.prog.godebug = none := by kernel_rfl
theorem laidOut : laidOutB Try.prog = true := by kernel_rfl

set_option maxRecDepth 100000 in
theorem lifted (os : Os) (started : os.Started) (H : Type) (enc : TypeId × Value → H) :
    ReturnsInHanded {} Try.checked os 6 .any (Rows.verifyBehindSpec.pre6 enc Try.prog Try.f6 Rows.verifyBehindRow.domain false) (Rows.verifyBehindSpec.post enc Try.prog Try.f6 false true false false) := by
  refine returnsInHanded_of_change (C := Try.checked) own started (by kernel_rfl) Try.func6
    (ChangeSpec.witness6 (enc := enc) (C := Try.checked) false ⟨#[], #[.slice none 0 0, .slice none 0 0], []⟩ 8 (by kernel_rfl) (by kernel_rfl) (by kernel_rfl) (by kernel_rfl)) ?_
  intro W base args ds gs before hval0 hW hcnd _
  have hval : ∀ (j : Nat) t v, Try.f6.params[j]? = some t → args[j]? = some v → Value.okWide Try.prog W .any base t v := hval0
  have hW' := hW
  obtain ⟨p, q, hA0, hV, rfl, hfz, hnd⟩ := hW
  have hA : DataW.TrodAll enc Try.prog W 0 (fun _ => true) true Try.f6.params.toList args.toList ds p := hA0
  rw [Try.params6] at hA hval
  obtain ⟨v0, vs0, d0, ds0, p0, q0, hargs, rfl, rfl, h0, r0⟩ := trodAll_cons hA
  obtain ⟨v1, vs1, d1, ds1, p1, q1, rfl, rfl, rfl, h1, r1⟩ := trodAll_cons r0
  obtain ⟨rfl, rfl, rfl⟩ := trodAll_nil r1
  obtain rfl : args = #[v0, v1] := by cases args; simp_all
  obtain ⟨rfl, rfl⟩ := trodVars_none hV
  have k0 := h0
  have lt0 : ∀ x ∈ p0, x.block < W.heap.size := by obtain ⟨m, hm⟩ := k0; exact DataW.trod_lt m _ _ _ hm
  obtain ⟨b0, len0, cap0, rfl⟩ := okWide_slice Try.underlying53 (hval 0 53 v0 rfl rfl)
  obtain ⟨l0, hl0, hok0⟩ : ∃ l : List (Ins), RSl W 5 encI (.slice b0 len0 cap0) l ∧ ∀ x ∈ l, Ins.Ok x := by
    obtain ⟨fuel, hf⟩ := h0
    obtain ⟨v, l, hcs, hl, hok⟩ := open_rsl (enc := encI) (Ok := Ins.Ok) Try.underlying53 cells65 (by omega) trod_ins hf
    simp [Value.cells] at hcs
    rw [← hcs] at hl
    exact ⟨l, hl, hok⟩
  have k1 := h1
  have lt1 : ∀ x ∈ p1, x.block < W.heap.size := by obtain ⟨m, hm⟩ := k1; exact DataW.trod_lt m _ _ _ hm
  obtain ⟨b1, len1, cap1, rfl⟩ := okWide_slice Try.underlying53 (hval 1 53 v1 rfl rfl)
  obtain ⟨l1, hl1, hok1⟩ : ∃ l : List (Ins), RSl W 5 encI (.slice b1 len1 cap1) l ∧ ∀ x ∈ l, Ins.Ok x := by
    obtain ⟨fuel, hf⟩ := h1
    obtain ⟨v, l, hcs, hl, hok⟩ := open_rsl (enc := encI) (Ok := Ins.Ok) Try.underlying53 cells65 (by omega) trod_ins hf
    simp [Value.cells] at hcs
    rw [← hcs] at hl
    exact ⟨l, hl, hok⟩
  clear hA0 hval0
  refine (behind_walk _ _ l0 l1 W hl0.toN hl1.toN hok0 hok1).mono fun e W' ⟨he, hm⟩ => ?_
  have bel := hm.toBelow
  subst he
  exact ⟨_, rfl, _, _, _, [], _, [], hW', trodAll_mk1 (shut_bool Try.underlying4 _), (trodAll_cons_mk (Below.trod laidOut (by kernel_rfl) (of_decide_eq_true (by kernel_rfl)) k0 bel lt0) (trodAll_cons_mk (Below.trod laidOut (by kernel_rfl) (of_decide_eq_true (by kernel_rfl)) k1 bel lt1) trodAll_mk0)), rfl, bel.frame _, fun h => by cases h⟩
end VerifyBehindLaw

theorem verifyBehind_holds : Rows.VerifyBehindSaid :=
  OpenClaim.holds_of_wide 6 Try.f6 rfl rfl rfl rfl rfl rfl rfl ⟨rfl, rfl, rfl, rfl, rfl⟩ rfl rfl rfl rfl rfl (by kernel_rfl) Try.func6 (by kernel_rfl)
    (of_decide_eq_true (by kernel_rfl)) (by unfold Func.isWrapper; first | (rw [if_pos (by decide +kernel)]; kernel_rfl) | (rw [if_neg (by decide +kernel)]; exact ⟨rfl, rfl⟩))
    (fun os started H enc _ => VerifyBehindLaw.lifted os started H enc)
end Go.Proofs.Ytnehookocnijpaa
