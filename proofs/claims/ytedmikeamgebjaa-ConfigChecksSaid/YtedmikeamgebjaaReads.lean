/- What came in, as plain data: slices whose elements are of one width. -/
import Derived.Test.YtedmikeamgebjaaBase
import Derived.ProofKit
import Derived.OpenShut
import Derived.ChangeOld
import Derived.Deep.Slices
set_option linter.unusedVariables false
set_option linter.unusedSimpArgs false
namespace Go.Proofs.Ytedmikeamgebjaa
open Go.RowKit Go.Deep

/-- The value v is a slice whose elements read as l, each of m cells. -/
def RSl {α : Type} (w : World) (m : Nat) (enc : α → List Value) (v : Value) (l : List α) : Prop :=
  ∃ ao cap, v = .slice ao l.length cap ∧ l.length ≤ cap ∧ cap ≤ maxLen ∧
    (l ≠ [] → ∃ b off, ao = some ⟨b, off, none⟩ ∧ b < w.heap.size ∧ ∀ i x, l[i]? = some x → ∀ j, j < m → w.cell? ⟨b, off + (i * m + j), none⟩ = (enc x)[j]?)

theorem RSl.mod {α : Type} {w w' : World} {m : Nat} {enc : α → List Value} {v : Value} {l : List α} (h : RSl w m enc v l) (hm : Mod [] w w') : RSl w' m enc v l := by
  obtain ⟨ao, cap, h1, h2, h3, h4⟩ := h
  refine ⟨ao, cap, h1, h2, h3, fun hl => ?_⟩
  obtain ⟨b, off, h5, h6, h7⟩ := h4 hl
  refine ⟨b, off, h5, Nat.lt_of_lt_of_le h6 hm.size, fun i x hx j hj => ?_⟩
  rw [← h7 i x hx j hj]
  exact World.cell?_of_block (w := w) (hm.block b h6 (by simp))

section
variable {H : Type} {enc0 : TypeId × Value → H} {P : Program} {w : World} {base : Nat} {spare : Nat → Bool} {held : Bool}
theorem cells?_get {a : Addr} {n : Nat} {cs : List Value} (h : w.cells? base a n = some cs) : cs.length = n ∧ ∀ j, j < n → w.cell? (a.add j) = cs[j]? := by
  unfold World.cells? at h
  split at h
  · have hl := mapM_some_length h
    exact ⟨by simpa using hl, fun j hj => by have := mapM_some_get h j j (by simp [hj]); exact this⟩
  · cases h
theorem open_rsl {α : Type} [Inhabited α] {m : Nat} {enc : α → List Value} {Ok : α → Prop} {t e : TypeId} {fuel : Nat} {cs : List Value} {x : DataW H × List MemPlace}
    (ht : P.underlying t = some (.slice e)) (hm : P.cellsOf e = m) (hm0 : 0 < m) (hel : ∀ n cs y, DataW.trod enc0 P w base spare held n e cs = some y → ∃ x, cs = enc x ∧ Ok x)
    (h : DataW.trod enc0 P w base spare held fuel t cs = some x) : ∃ v l, cs = [v] ∧ RSl w m enc v l ∧ ∀ x ∈ l, Ok x := by
  rcases open_slice ht h with ⟨rfl, _⟩ | ⟨a, len, cap, mm, n, D, Pl, rfl, hb, hl, hc, hmm, _, hx⟩
  · exact ⟨_, [], rfl, ⟨none, 0, rfl, by simp, by simp, by simp⟩, by simp⟩
  · have hlm : len ≤ mm := by rw [hmm]; split <;> omega
    have key : ∀ i, i < len → ∃ x, (∀ j, j < m → w.cell? ((a.add (i * m)).add j) = (enc x)[j]?) ∧ Ok x ∧ (enc x).length = m := by
      intro i hi
      obtain ⟨cs', h1, h2⟩ := hx i (by omega)
      obtain ⟨x, rfl, hok⟩ := hel _ _ _ h2
      rw [hm] at h1
      obtain ⟨h3, h4⟩ := cells?_get h1
      exact ⟨x, h4, hok, h3⟩
    obtain ⟨f, hf⟩ := choose_lt key
    refine ⟨_, (List.range len).map f, rfl, ⟨some a, cap, by simp, by simpa using hl, hc, fun hne => ?_⟩, ?_⟩
    · have hpos : 0 < len := by
        rcases Nat.eq_zero_or_pos len with h0 | h0
        · subst h0; simp at hne
        · exact h0
      have h0 := (hf 0 hpos).1 0 hm0
      have hel0 := (hf 0 hpos).2.2
      rw [Deep.add_add] at h0
      simp only [Nat.zero_mul, Nat.add_zero] at h0
      have ha0 : a.add 0 = a := by simp [Addr.add]
      rw [ha0, List.getElem?_eq_getElem (by omega)] at h0
      have hspot : a.spot = none := World.cell?_spot h0
      obtain ⟨b, off, spot⟩ := a
      simp only at hspot
      subst hspot
      refine ⟨b, off, rfl, World.block_lt_of_cell? _ _ h0, fun i x hi j hj => ?_⟩
      have hil : i < len := by
        rcases Nat.lt_or_ge i len with h | h
        · exact h
        · rw [List.getElem?_eq_none (by simpa using h)] at hi; cases hi
      have hxi : x = f i := by simpa [hil] using hi.symm
      subst hxi
      have := (hf i hil).1 j hj
      rw [Deep.add_add] at this
      rw [← this]
      congr 1
      unfold Addr.add
      split
      · rename_i h; simp [h]
      · rfl
    · intro x hx
      simp only [List.mem_map, List.mem_range] at hx
      obtain ⟨i, hi, rfl⟩ := hx
      exact (hf i hi).2.1
theorem trod_field {t : TypeId} {fs : Array Field} {fuel : Nat} {cs : List Value} {x : DataW H × List MemPlace} (ht : P.underlying t = some (.struct fs)) (h : DataW.trod enc0 P w base spare held fuel t cs = some x)
    (i : Nat) (f : Field) (hf : fs[i]? = some f) (m : Nat) (hm : P.cellsOf f.type = m) : ∃ n y, DataW.trod enc0 P w base spare held n f.type ((cs.drop f.offset).take m) = some y := by
  obtain ⟨xs, n, _, _, _, hl, hx⟩ := DataW.trod_struct ht h
  have hi : i < xs.length := by
    rw [hl]
    exact (Array.getElem?_eq_some_iff.1 hf).1
  have := hx i f hf
  rw [hm, List.getElem?_eq_getElem hi] at this
  exact ⟨n, _, this⟩
theorem trod_len {t : TypeId} {fs : Array Field} {fuel : Nat} {cs : List Value} {x : DataW H × List MemPlace} (ht : P.underlying t = some (.struct fs)) (h : DataW.trod enc0 P w base spare held fuel t cs = some x)
    (m : Nat) (hm : P.cellsOf t = m) : cs.length = m := by
  obtain ⟨xs, n, _, _, hl, _⟩ := DataW.trod_struct ht h
  rw [hl, hm]
end
theorem list1 {l : List Value} (h : l.length = 1) : ∃ a, l = [a] := by
  match l, h with | [a], _ => exact ⟨a, rfl⟩
theorem list2 {l : List Value} (h : l.length = 2) : ∃ a b, l = [a, b] := by
  match l, h with | [a, b], _ => exact ⟨a, b, rfl⟩
theorem list3 {l : List Value} (h : l.length = 3) : ∃ a b c, l = [a, b, c] := by
  match l, h with | [a, b, c], _ => exact ⟨a, b, c, rfl⟩
theorem list4 {l : List Value} (h : l.length = 4) : ∃ a b c d, l = [a, b, c, d] := by
  match l, h with | [a, b, c, d], _ => exact ⟨a, b, c, d, rfl⟩
theorem list5 {l : List Value} (h : l.length = 5) : ∃ a b c d e, l = [a, b, c, d, e] := by
  match l, h with | [a, b, c, d, e], _ => exact ⟨a, b, c, d, e, rfl⟩
theorem list6 {l : List Value} (h : l.length = 6) : ∃ a b c d e f, l = [a, b, c, d, e, f] := by
  match l, h with | [a, b, c, d, e, f], _ => exact ⟨a, b, c, d, e, f, rfl⟩
end Go.Proofs.Ytedmikeamgebjaa
