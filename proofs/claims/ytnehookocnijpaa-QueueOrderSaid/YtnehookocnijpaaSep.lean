/- Things in memory that lie apart: each with the blocks that it has. -/
import Derived.Test.YtnehookocnijpaaBase
set_option linter.unusedVariables false
set_option linter.unusedSimpArgs false
namespace Go.Proofs.Ytnehookocnijpaa
open Go.RowKit

/-- A thing in memory: its blocks, and what holds of it. -/
structure Res where
  foot : List Nat
  holds : World → Prop
  lt : ∀ {w : World}, holds w → ∀ x ∈ foot, x < w.heap.size
  stable : ∀ {w w' : World} {B : List Nat}, holds w → Mod B w w' → (∀ x ∈ foot, x ∉ B) → holds w'

/-- The things hold, and no two of them have a block in common. -/
def Sep (w : World) : List Res → Prop
  | [] => True
  | R :: Rs => R.holds w ∧ (∀ S ∈ Rs, ∀ x ∈ R.foot, x ∉ S.foot) ∧ Sep w Rs

def feet (Rs : List Res) : List Nat := Rs.flatMap Res.foot
theorem mem_feet {Rs : List Res} {x : Nat} : x ∈ feet Rs ↔ ∃ R ∈ Rs, x ∈ R.foot := by simp [feet]

theorem Sep.lt {w : World} : ∀ {Rs : List Res}, Sep w Rs → ∀ x ∈ feet Rs, x < w.heap.size
  | [], _, x, hx => by simp [feet] at hx
  | R :: Rs, ⟨h1, _, h3⟩, x, hx => by
    simp only [feet, List.flatMap_cons, List.mem_append] at hx
    rcases hx with hx | hx
    · exact R.lt h1 x hx
    · exact Sep.lt h3 x hx
theorem Sep.stay {w w' : World} {B : List Nat} (m : Mod B w w') : ∀ {Rs : List Res}, Sep w Rs → (∀ x ∈ feet Rs, x ∉ B) → Sep w' Rs
  | [], _, _ => trivial
  | R :: Rs, ⟨h1, h2, h3⟩, hb => by
    simp only [feet, List.flatMap_cons, List.mem_append] at hb
    exact ⟨R.stable h1 m (fun x hx => hb x (.inl hx)), h2, Sep.stay m h3 (fun x hx => hb x (.inr hx))⟩
theorem Sep.keep {w w' : World} (m : Mod [] w w') {Rs : List Res} (h : Sep w Rs) : Sep w' Rs := h.stay m (by simp)
theorem Sep.mem {w : World} {R : Res} : ∀ {Rs : List Res}, Sep w Rs → R ∈ Rs → R.holds w
  | S :: Rs, ⟨h1, _, h3⟩, hm => by
    rcases List.mem_cons.1 hm with rfl | hm
    · exact h1
    · exact Sep.mem h3 hm
theorem Sep.left {w : World} : ∀ {A C : List Res}, Sep w (A ++ C) → Sep w A
  | [], _, _ => trivial
  | R :: A, C, ⟨h1, h2, h3⟩ => ⟨h1, fun S hS => h2 S (List.mem_append_left _ hS), Sep.left h3⟩
theorem Sep.right {w : World} : ∀ {A C : List Res}, Sep w (A ++ C) → Sep w C
  | [], _, h => h
  | R :: A, C, ⟨_, _, h3⟩ => Sep.right (A := A) h3
theorem Sep.apart {w : World} : ∀ {A C : List Res}, Sep w (A ++ C) → ∀ x ∈ feet A, x ∉ feet C
  | [], _, _, x, hx => by simp [feet] at hx
  | R :: A, C, ⟨h1, h2, h3⟩, x, hx => by
    simp only [feet, List.flatMap_cons, List.mem_append] at hx
    rcases hx with hx | hx
    · intro hc
      obtain ⟨S, hS, hxS⟩ := mem_feet.1 hc
      exact h2 S (List.mem_append_right _ hS) x hx hxS
    · exact Sep.apart (A := A) h3 x hx
theorem Sep.join {w : World} : ∀ {A C : List Res}, Sep w A → Sep w C → (∀ x ∈ feet A, x ∉ feet C) → Sep w (A ++ C)
  | [], _, _, h, _ => h
  | R :: A, C, ⟨h1, h2, h3⟩, hC, hd => by
    refine ⟨h1, fun S hS x hx => ?_, Sep.join h3 hC fun x hx => hd x (by simp only [feet, List.flatMap_cons, List.mem_append]; exact .inr hx)⟩
    rcases List.mem_append.1 hS with hS | hS
    · exact h2 S hS x hx
    · intro hxS
      exact hd x (by simp only [feet, List.flatMap_cons, List.mem_append]; exact .inl hx) (mem_feet.2 ⟨S, hS, hxS⟩)
/-- The things in front have turned, and have only new blocks beside their own; the others are as they were. -/
theorem Sep.turn {w w' : World} {A A' C : List Res} {B : List Nat} (h : Sep w (A ++ C)) (m : Mod B w w') (hB : ∀ x ∈ B, x ∈ feet A ∨ w.heap.size ≤ x) (h' : Sep w' A') (hg : ∀ x ∈ feet A', x ∈ feet A ∨ w.heap.size ≤ x) : Sep w' (A' ++ C) := by
  have hC := h.right
  have hap := h.apart
  have hlt := hC.lt
  have out : ∀ x ∈ feet C, x ∉ feet A := fun x hx ha => hap x ha hx
  refine Sep.join h' (hC.stay m fun x hx hb => ?_) fun x hx hc => ?_
  · rcases hB x hb with h1 | h1
    · exact out x hx h1
    · have := hlt x hx; omega
  · rcases hg x hx with h1 | h1
    · exact hap x h1 hc
    · have := hlt x hc; omega
theorem Sep.perm {w : World} {A C : List Res} (hp : A.Perm C) : Sep w A → Sep w C := by
  induction hp with
  | nil => exact id
  | cons R p ih => exact fun ⟨h1, h2, h3⟩ => ⟨h1, fun S hS => h2 S (p.mem_iff.2 hS), ih h3⟩
  | swap R S l => exact fun ⟨h1, h2, h3, h4, h5⟩ => ⟨h3, fun T hT x hx => by
      rcases List.mem_cons.1 hT with e | hT
      · subst e; exact fun hR => h2 R (by simp) x hR hx
      · exact h4 T hT x hx, h1, fun T hT => h2 T (List.mem_cons_of_mem _ hT), h5⟩
  | trans _ _ ih1 ih2 => exact fun h => ih2 (ih1 h)
/-- A thing more, of new blocks. -/
theorem Sep.new {w w' : World} {A C : List Res} (h : Sep w C) (m : Mod [] w w') (h' : Sep w' A) (hg : ∀ x ∈ feet A, w.heap.size ≤ x) : Sep w' (A ++ C) :=
  Sep.turn (A := []) (B := []) h m (by simp) h' (fun x hx => .inr (hg x hx))

/-- A block known whole. -/
def Res.blk (b : Nat) (T : TypeId) (cs : List Value) : Res where
  foot := [b]
  holds w := Blk w b T cs
  lt h x hx := by simp at hx; subst hx; exact h.lt
  stable h m hb := h.mod m (hb _ (by simp))
/-- A slice of ours. -/
def Res.sl (T : TypeId) (m : Nat) (v : Value) (n : Nat) (xs : List Value) (ob : Option Nat) : Res where
  foot := ob.toList
  holds w := Sl w T m v n xs ob
  lt h x hx := h.lt x (by simpa using hx)
  stable h mm hb := h.mod mm (fun g hg => hb g (by simp [hg]))
end Go.Proofs.Ytnehookocnijpaa
