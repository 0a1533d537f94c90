/- A cluster that came in, as plain data. -/
import Derived.Test.YtedmikeamgebjaaRx0
import Derived.Test.YtedmikeamgebjaaReads
import Derived.Test.YtedmikeamgebjaaRows
set_option linter.unusedVariables false
set_option linter.unusedSimpArgs false
namespace Go.Proofs.Ytedmikeamgebjaa.R
open Go.RowKit Go.Deep Go.ChangeShapes Go.WideShapes Go.Proofs.YtedmikeamgebjaaW.PrintWords Go.Proofs.YtedmikeamgebjaaW.PrintLast Go.Proofs.YtedmikeamgebjaaW.PrintMore

section
variable {H : Type} {enc0 : TypeId × Value → H} {P : Program} {w : World} {base : Nat} {spare : Nat → Bool} {held : Bool}
theorem open_C {α : Type} (z : α) {d : Kd α} {Ok : α → Prop} {t e : TypeId} {fuel : Nat} {cs : List Value} {x : DataW H × List MemPlace}
    (ht : P.underlying t = some (.slice e)) (hm : P.cellsOf e = d.sz) (hel : ∀ n cs y, DataW.trod enc0 P w base spare held n e cs = some y → ∃ x, d.K w x cs ∧ Ok x)
    (h : DataW.trod enc0 P w base spare held fuel t cs = some x) : ∃ A c l, cs = [.slice A l.length c] ∧ l.length ≤ c ∧ Kd.C d w A l.length l ∧ ∀ x ∈ l, Ok x := by
  haveI : Inhabited α := ⟨z⟩
  rcases open_slice ht h with ⟨rfl, _⟩ | ⟨a, len, cap, mm, n, D, Pl, rfl, hb, hl, hc, hmm, _, hx⟩
  · exact ⟨none, 0, [], rfl, Nat.le_refl _, ⟨rfl, Nat.zero_le _, fun h => absurd h (Nat.lt_irrefl _)⟩, fun x hx => by cases hx⟩
  · have hlm : len ≤ mm := by rw [hmm]; split <;> omega
    have key : ∀ i, i < len → ∃ x : α × List Value, (∀ j, j < d.sz → w.cell? ((a.add (i * d.sz)).add j) = x.2[j]?) ∧ d.K w x.1 x.2 ∧ Ok x.1 ∧ x.2.length = d.sz := by
      intro i hi
      obtain ⟨cs', h1, h2⟩ := hx i (by omega)
      obtain ⟨x, hK, hok⟩ := hel _ _ _ h2
      rw [hm] at h1
      obtain ⟨h3, h4⟩ := cells?_get h1
      exact ⟨(x, cs'), h4, hK, hok, h3⟩
    obtain ⟨f, hf⟩ := choose_lt key
    have hlen : ((List.range len).map fun i => (f i).1).length = len := by simp
    refine ⟨some a, cap, (List.range len).map fun i => (f i).1, by rw [hlen], by rw [hlen]; exact hl, ⟨rfl, by rw [hlen]; exact Nat.le_trans hl hc, fun _ => ⟨a, rfl, fun j p hj => ?_⟩⟩, ?_⟩
    · have hjl : j < len := by
        rcases Nat.lt_or_ge j len with h | h
        · exact h
        · rw [List.getElem?_eq_none (by simpa using h)] at hj; cases hj
      have hp : p = (f j).1 := by simpa [hjl] using hj.symm
      subst hp
      refine ⟨(f j).2, (hf j hjl).2.2.2, (hf j hjl).2.1, fun i u hi => ?_⟩
      have hid : i < d.sz := by
        rw [← (hf j hjl).2.2.2]
        exact (List.getElem?_eq_some_iff.1 hi).1
      have := (hf j hjl).1 i hid
      rw [Deep.add_add] at this
      rw [this, hi]
    · intro x hx
      simp only [List.mem_map, List.mem_range] at hx
      obtain ⟨i, hi, rfl⟩ := hx
      exact (hf i hi).2.2.1
end
theorem cells2 : Try.prog.cellsOf 2 = 1 := by kernel_rfl
theorem cells3 : Try.prog.cellsOf 3 = 1 := by kernel_rfl
theorem cells4 : Try.prog.cellsOf 4 = 1 := by kernel_rfl
theorem cells22 : Try.prog.cellsOf 22 = 1 := by kernel_rfl
theorem cells23 : Try.prog.cellsOf 23 = 1 := by kernel_rfl
theorem cells34 : Try.prog.cellsOf 34 = 1 := by kernel_rfl
theorem cells35 : Try.prog.cellsOf 35 = 1 := by kernel_rfl
theorem cells54 : Try.prog.cellsOf 54 = 5 := by kernel_rfl
theorem cells56 : Try.prog.cellsOf 56 = 2 := by kernel_rfl
theorem cells63 : Try.prog.cellsOf 63 = 4 := by kernel_rfl
theorem cells37 : Try.prog.cellsOf 37 = 6 := by kernel_rfl
theorem cells25 : Try.prog.cellsOf 25 = 8 := by kernel_rfl
def InsOk (x : S54) : Prop := Ins.Ok ⟨x.f0, x.f1, x.f2, x.f3, x.f4⟩
section
variable {H : Type} {enc0 : TypeId × Value → H} {w : World} {base : Nat} {spare : Nat → Bool} {held : Bool}
theorem trod54 (n : Nat) (cs : List Value) (y : DataW H × List MemPlace) (h : DataW.trod enc0 Try.prog w base spare held n 54 cs = some y) : ∃ x : S54, k54.K w x cs ∧ InsOk x := by
  obtain ⟨c0, c1, c2, c3, c4, rfl⟩ := list5 (trod_len Try.underlying54 h 5 cells54)
  obtain ⟨n0, y0, h0⟩ := trod_field Try.underlying54 h 0 _ rfl 1 cells3
  obtain ⟨n1, y1, h1⟩ := trod_field Try.underlying54 h 1 _ rfl 1 cells3
  obtain ⟨n2, y2, h2⟩ := trod_field Try.underlying54 h 2 _ rfl 1 cells3
  obtain ⟨n3, y3, h3⟩ := trod_field Try.underlying54 h 3 _ rfl 1 cells3
  obtain ⟨n4, y4, h4⟩ := trod_field Try.underlying54 h 4 _ rfl 1 cells2
  obtain ⟨a, e0, _, wa⟩ := DataW.trod_int Try.underlying3 h0
  obtain ⟨b, e1, _, wb⟩ := DataW.trod_int Try.underlying3 h1
  obtain ⟨c, e2, _, wc⟩ := DataW.trod_int Try.underlying3 h2
  obtain ⟨d, e3, _, wd⟩ := DataW.trod_int Try.underlying3 h3
  obtain ⟨e, e4, _, we⟩ := DataW.trod_int Try.underlying2 h4
  simp at e0 e1 e2 e3 e4
  subst e0 e1 e2 e3 e4
  exact ⟨⟨a, b, c, d, e⟩, k54_mk w ⟨a, b, c, d, e⟩, ⟨bounds_i64 wa, bounds_i64 wb, bounds_i64 wc, bounds_i64 wd, bounds_i64 we⟩⟩
theorem trod56 (n : Nat) (cs : List Value) (y : DataW H × List MemPlace) (h : DataW.trod enc0 Try.prog w base spare held n 56 cs = some y) : ∃ x : S56, k56.K w x cs ∧ True := by
  obtain ⟨c0, c1, rfl⟩ := list2 (trod_len Try.underlying56 h 2 cells56)
  obtain ⟨n0, y0, h0⟩ := trod_field Try.underlying56 h 0 _ rfl 1 cells3
  obtain ⟨n1, y1, h1⟩ := trod_field Try.underlying56 h 1 _ rfl 1 cells3
  obtain ⟨a, e0, _, wa⟩ := DataW.trod_int Try.underlying3 h0
  obtain ⟨b, e1, _, wb⟩ := DataW.trod_int Try.underlying3 h1
  simp at e0 e1
  subst e0 e1
  exact ⟨⟨a, b⟩, k56_mk w ⟨a, b⟩, trivial⟩
theorem trod63 (n : Nat) (cs : List Value) (y : DataW H × List MemPlace) (h : DataW.trod enc0 Try.prog w base spare held n 63 cs = some y) : ∃ x : S63, k63.K w x cs ∧ True := by
  obtain ⟨c0, c1, c2, c3, rfl⟩ := list4 (trod_len Try.underlying63 h 4 cells63)
  obtain ⟨n0, y0, h0⟩ := trod_field Try.underlying63 h 0 _ rfl 1 cells3
  obtain ⟨n1, y1, h1⟩ := trod_field Try.underlying63 h 1 _ rfl 1 cells3
  obtain ⟨n2, y2, h2⟩ := trod_field Try.underlying63 h 2 _ rfl 1 cells3
  obtain ⟨n3, y3, h3⟩ := trod_field Try.underlying63 h 3 _ rfl 1 cells4
  obtain ⟨a, e0, _, wa⟩ := DataW.trod_int Try.underlying3 h0
  obtain ⟨b, e1, _, wb⟩ := DataW.trod_int Try.underlying3 h1
  obtain ⟨c, e2, _, wc⟩ := DataW.trod_int Try.underlying3 h2
  obtain ⟨d, e3, _⟩ := DataW.trod_bool Try.underlying4 h3
  simp at e0 e1 e2 e3
  subst e0 e1 e2 e3
  exact ⟨⟨a, b, c, d⟩, k63_mk w ⟨a, b, c, d⟩, trivial⟩
def StOk (x : S37) : Prop := ∀ i ∈ x.f3, InsOk i
theorem trod37 (n : Nat) (cs : List Value) (y : DataW H × List MemPlace) (h : DataW.trod enc0 Try.prog w base spare held n 37 cs = some y) : ∃ x : S37, k37.K w x cs ∧ StOk x := by
  obtain ⟨c0, c1, c2, c3, c4, c5, rfl⟩ := list6 (trod_len Try.underlying37 h 6 cells37)
  obtain ⟨n0, y0, h0⟩ := trod_field Try.underlying37 h 0 _ rfl 1 cells3
  obtain ⟨n1, y1, h1⟩ := trod_field Try.underlying37 h 1 _ rfl 1 cells3
  obtain ⟨n2, y2, h2⟩ := trod_field Try.underlying37 h 2 _ rfl 1 cells3
  obtain ⟨n3, y3, h3⟩ := trod_field Try.underlying37 h 3 _ rfl 1 cells34
  obtain ⟨n4, y4, h4⟩ := trod_field Try.underlying37 h 4 _ rfl 1 cells35
  obtain ⟨n5, y5, h5⟩ := trod_field Try.underlying37 h 5 _ rfl 1 cells35
  obtain ⟨a, e0, _, wa⟩ := DataW.trod_int Try.underlying3 h0
  obtain ⟨b, e1, _, wb⟩ := DataW.trod_int Try.underlying3 h1
  obtain ⟨c, e2, _, wc⟩ := DataW.trod_int Try.underlying3 h2
  obtain ⟨A3, q3, l3, e3, g3, r3, o3⟩ := open_C z54 (d := k54) Try.underlying34 cells54 trod54 h3
  obtain ⟨A4, q4, l4, e4, g4, r4, -⟩ := open_C z56 (d := k56) Try.underlying35 cells56 trod56 h4
  obtain ⟨A5, q5, l5, e5, g5, r5, -⟩ := open_C z56 (d := k56) Try.underlying35 cells56 trod56 h5
  simp at e0 e1 e2 e3 e4 e5
  subst e0 e1 e2 e3 e4 e5
  exact ⟨⟨a, b, c, l3, l4, l5⟩, k37_mk w ⟨a, b, c, l3, l4, l5⟩ g3 r3 g4 r4 g5 r5, o3⟩
theorem trod25 (n : Nat) (cs : List Value) (y : DataW H × List MemPlace) (h : DataW.trod enc0 Try.prog w base spare held n 25 cs = some y) :
    ∃ a0 a1 a2 a3 a4 a5 A6 q6 l6 A7 q7 l7, cs = [.int .i64 a0, .int .i64 a1, .int .i64 a2, .int .i64 a3, .int .i64 a4, .int .i64 a5, .slice A6 l6.length q6, .slice A7 l7.length q7] ∧
      l6.length ≤ q6 ∧ Kd.C k63 w A6 l6.length l6 ∧ l7.length ≤ q7 ∧ Kd.C k37 w A7 l7.length l7 ∧ ∀ s ∈ l7, StOk s := by
  obtain ⟨c0, c1, c2, c3, c4, c5, c6, c7, rfl⟩ : ∃ a b c d e f g h, cs = [a, b, c, d, e, f, g, h] := by
    match cs, trod_len Try.underlying25 h 8 cells25 with
    | [a, b, c, d, e, f, g, h], _ => exact ⟨a, b, c, d, e, f, g, h, rfl⟩
  obtain ⟨n0, y0, h0⟩ := trod_field Try.underlying25 h 0 _ rfl 1 cells3
  obtain ⟨n1, y1, h1⟩ := trod_field Try.underlying25 h 1 _ rfl 1 cells3
  obtain ⟨n2, y2, h2⟩ := trod_field Try.underlying25 h 2 _ rfl 1 cells3
  obtain ⟨n3, y3, h3⟩ := trod_field Try.underlying25 h 3 _ rfl 1 cells3
  obtain ⟨n4, y4, h4⟩ := trod_field Try.underlying25 h 4 _ rfl 1 cells3
  obtain ⟨n5, y5, h5⟩ := trod_field Try.underlying25 h 5 _ rfl 1 cells3
  obtain ⟨n6, y6, h6⟩ := trod_field Try.underlying25 h 6 _ rfl 1 cells22
  obtain ⟨n7, y7, h7⟩ := trod_field Try.underlying25 h 7 _ rfl 1 cells23
  obtain ⟨a0, e0, _, _⟩ := DataW.trod_int Try.underlying3 h0
  obtain ⟨a1, e1, _, _⟩ := DataW.trod_int Try.underlying3 h1
  obtain ⟨a2, e2, _, _⟩ := DataW.trod_int Try.underlying3 h2
  obtain ⟨a3, e3, _, _⟩ := DataW.trod_int Try.underlying3 h3
  obtain ⟨a4, e4, _, _⟩ := DataW.trod_int Try.underlying3 h4
  obtain ⟨a5, e5, _, _⟩ := DataW.trod_int Try.underlying3 h5
  obtain ⟨A6, q6, l6, e6, g6, r6, -⟩ := open_C z63 (d := k63) Try.underlying22 cells63 trod63 h6
  obtain ⟨A7, q7, l7, e7, g7, r7, o7⟩ := open_C z37 (d := k37) Try.underlying23 cells37 trod37 h7
  simp at e0 e1 e2 e3 e4 e5 e6 e7
  subst e0 e1 e2 e3 e4 e5 e6 e7
  exact ⟨a0, a1, a2, a3, a4, a5, A6, q6, l6, A7, q7, l7, rfl, g6, r6, g7, r7, o7⟩
end
end Go.Proofs.Ytedmikeamgebjaa.R
