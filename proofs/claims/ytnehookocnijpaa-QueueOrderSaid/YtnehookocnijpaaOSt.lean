/- QueueOrder: the walk. -/
import Derived.Test.YtnehookocnijpaaOPull
import Derived.Test.YtnehookocnijpaaQL
import Derived.Test.YtnehookocnijpaaReads
import Derived.Deep.LoopGhost
set_option linter.unusedVariables false
set_option linter.unusedSimpArgs false
namespace Go.Proofs.Ytnehookocnijpaa
open Go.RowKit

def encB (b : Bool) : List Value := [.bool b]
/-- What has come, what went out, what waits. -/
structure OInv (n : Nat) (a : AQ Int) (i0 i1 u0 u1 : List Int) : Prop where
  e0 : i0 = u0 ++ a.lo
  e1 : i1 = u1 ++ a.hi
  le : a.lo.length + a.hi.length ≤ n
theorem head_tail (l : List Int) : l.head?.toList ++ l.tail = l := by cases l <;> rfl
theorem OInv.pull {n : Nat} {a : AQ Int} {i0 i1 u0 u1 : List Int} (h : OInv n a i0 i1 u0 u1) (b : Bool) : OInv n (a.take b) i0 i1 (pulled a b false u0) (pulled a b true u1) := by
  have hle := h.le
  cases b
  · refine ⟨?_, ?_, ?_⟩
    · rw [h.e0]; simp [pulled, AQ.take, AQ.lane, head_tail]
    · rw [h.e1]; simp [pulled, AQ.take]
    · simp [AQ.take]; omega
  · refine ⟨?_, ?_, ?_⟩
    · rw [h.e0]; simp [pulled, AQ.take]
    · rw [h.e1]; simp [pulled, AQ.take, AQ.lane, head_tail]
    · simp [AQ.take]; omega
theorem take_ft (a : AQ Int) (b : Bool) : (a.take b).ft = a.ft := by cases b <;> rfl
theorem OInv.put_lo {n : Nat} {a : AQ Int} {i0 i1 u0 u1 : List Int} (h : OInv n a i0 i1 u0 u1) (hlt : a.lo.length + a.hi.length < n) (x : Int) : OInv n (a.put n x false) (i0 ++ [x]) i1 u0 u1 := by
  refine ⟨?_, ?_, ?_⟩
  · rw [h.e0]; simp [AQ.put, hlt]
  · rw [h.e1]; simp [AQ.put, hlt]
  · simp [AQ.put, hlt]; omega
theorem OInv.put_hi {n : Nat} {a : AQ Int} {i0 i1 u0 u1 : List Int} (h : OInv n a i0 i1 u0 u1) (hlt : a.lo.length + a.hi.length < n) (x : Int) : OInv n (a.put n x true) i0 (i1 ++ [x]) u0 u1 := by
  refine ⟨?_, ?_, ?_⟩
  · rw [h.e0]; simp [AQ.put, hlt]
  · rw [h.e1]; simp [AQ.put, hlt]
  · simp [AQ.put, hlt]; omega
theorem OInv.put_no {n : Nat} {a : AQ Int} {i0 i1 u0 u1 : List Int} (h : OInv n a i0 i1 u0 u1) (hlt : ¬ a.lo.length + a.hi.length < n) (x : Int) (b : Bool) : OInv n (a.put n x b) i0 i1 u0 u1 := by
  have := h.le
  refine ⟨?_, ?_, ?_⟩
  · rw [h.e0]; simp [AQ.put, hlt]
  · rw [h.e1]; simp [AQ.put, hlt]
  · simp [AQ.put, hlt]; omega

abbrev rV (V q : Nat) : Res := Res.blk V 44 [.pointer (some ⟨q, 0, none⟩)]
/-- All that the law has in memory. -/
structure OSt (w wr : World) (n V q c I O : Nat) (a : AQ Int) (i0 i1 u0 u1 : List Int) (oi0 oi1 ou0 ou1 : Option Nat) : Prop where
  sep : Sep wr [rV V q, Res.q q c n a, Res.p2 O u0 u1 ou0 ou1, Res.p2 I i0 i1 oi0 oi1]
  new : ∀ x ∈ feet [rV V q, Res.q q c n a, Res.p2 O u0 u1 ou0 ou1, Res.p2 I i0 i1 oi0 oi1], w.heap.size ≤ x
  mod : Mod [] w wr
theorem OSt.rq {w wr : World} {n V q c I O : Nat} {a : AQ Int} {i0 i1 u0 u1 : List Int} {oi0 oi1 ou0 ou1 : Option Nat} (h : OSt w wr n V q c I O a i0 i1 u0 u1 oi0 oi1 ou0 ou1) : ∃ s, QInt.QRep wr q c n a s := h.sep.2.2.1
theorem OSt.v {w wr : World} {n V q c I O : Nat} {a : AQ Int} {i0 i1 u0 u1 : List Int} {oi0 oi1 ou0 ou1 : Option Nat} (h : OSt w wr n V q c I O a i0 i1 u0 u1 oi0 oi1 ou0 ou1) : wr.cell? ⟨V, 0, none⟩ = some (.pointer (some ⟨q, 0, none⟩)) := by
  have := h.sep.1
  exact Blk.cell this 0
theorem OSt.keep {w wr W : World} {n V q c I O : Nat} {a : AQ Int} {i0 i1 u0 u1 : List Int} {oi0 oi1 ou0 ou1 : Option Nat} (h : OSt w wr n V q c I O a i0 i1 u0 u1 oi0 oi1 ou0 ou1) (m : Mod [] wr W) : OSt w W n V q c I O a i0 i1 u0 u1 oi0 oi1 ou0 ou1 :=
  ⟨h.sep.keep m, h.new, h.mod.trans m⟩
theorem OSt.turnq {w wr W : World} {n V q c I O : Nat} {a a2 : AQ Int} {i0 i1 u0 u1 : List Int} {oi0 oi1 ou0 ou1 : Option Nat} (h : OSt w wr n V q c I O a i0 i1 u0 u1 oi0 oi1 ou0 ou1) (hq : ∃ s, QInt.QRep W q c n a2 s) (m : Mod [q, c] wr W) : OSt w W n V q c I O a2 i0 i1 u0 u1 oi0 oi1 ou0 ou1 := by
  refine ⟨?_, h.new, Mod.then h.mod m fun x hx => .inr (h.new x ?_)⟩
  · refine Sep.perm (List.Perm.swap _ _ _) (Sep.turn (A := [Res.q q c n a]) (A' := [Res.q q c n a2]) (C := [rV V q, Res.p2 O u0 u1 ou0 ou1, Res.p2 I i0 i1 oi0 oi1]) (Sep.perm (List.Perm.swap _ _ _) h.sep) m ?_ ⟨hq, by simp, trivial⟩ ?_)
    · simp [feet, Res.q]
    · simp [feet, Res.q]
  · simp only [feet, List.flatMap_cons, List.mem_append, Res.q]
    exact .inr (.inl hx)
theorem OSt.pull {w wr W : World} {n V q c I O : Nat} {a : AQ Int} {i0 i1 u0 u1 : List Int} {oi0 oi1 ou0 ou1 : Option Nat} {b : Bool} {e : Ending} (h : OSt w wr n V q c I O a i0 i1 u0 u1 oi0 oi1 ou0 ou1) (hp : PullPost wr V q c n O a b u0 u1 ou0 ou1 e W) :
    ∃ p0 p1, OSt w W n V q c I O (a.take b) i0 i1 (pulled a b false u0) (pulled a b true u1) oi0 oi1 p0 p1 := by
  obtain ⟨_, p0, p1, hs, hg, hm⟩ := hp
  have hsz := h.mod.size
  have hmem : ∀ x ∈ [q, c] ++ pfoot O ou0 ou1, x ∈ feet [rV V q, Res.q q c n a, Res.p2 O u0 u1 ou0 ou1] := by
    intro x hx
    simp only [feet, List.flatMap_cons, List.mem_append, Res.q, Res.p2, List.flatMap_nil, List.append_nil] at hx ⊢
    rcases hx with hx | hx
    · exact .inr (.inl hx)
    · exact .inr (.inr hx)
  have hmem2 : ∀ x ∈ feet [rV V q, Res.q q c n a, Res.p2 O u0 u1 ou0 ou1], w.heap.size ≤ x := fun x hx => h.new x (by
    simp only [feet, List.flatMap_cons, List.mem_append, List.flatMap_nil, List.append_nil] at hx ⊢
    rcases hx with hx | hx | hx
    · exact .inl hx
    · exact .inr (.inl hx)
    · exact .inr (.inr (.inl hx)))
  refine ⟨p0, p1, Sep.turn (A := [rV V q, Res.q q c n a, Res.p2 O u0 u1 ou0 ou1]) (A' := [rV V q, Res.q q c n (a.take b), Res.p2 O (pulled a b false u0) (pulled a b true u1) p0 p1]) (C := [Res.p2 I i0 i1 oi0 oi1]) h.sep hm (fun x hx => .inl (hmem x hx)) hs ?_, ?_, Mod.then h.mod hm fun x hx => .inr (hmem2 x (hmem x hx))⟩
  · intro x hx
    simp only [feet, List.flatMap_cons, List.mem_append, Res.q, Res.p2, List.flatMap_nil, List.append_nil] at hx ⊢
    rcases hx with hx | hx | hx
    · exact .inl (.inl hx)
    · exact .inl (.inr (.inl hx))
    · rcases hg x hx with h1 | h1
      · exact .inl (.inr (.inr h1))
      · exact .inr h1
  · intro x hx
    simp only [feet, List.flatMap_cons, List.mem_append, Res.q, Res.p2, List.flatMap_nil, List.append_nil] at hx
    have hN := h.new
    simp only [feet, List.flatMap_cons, List.mem_append, Res.q, Res.p2, List.flatMap_nil, List.append_nil] at hN
    rcases hx with hx | hx | hx | hx
    · exact hN x (.inl hx)
    · exact hN x (.inr (.inl hx))
    · rcases hg x hx with h1 | h1
      · exact hN x (.inr (.inr (.inl h1)))
      · omega
    · exact hN x (.inr (.inr (.inr hx)))
theorem OSt.sep3 {w wr : World} {n V q c I O : Nat} {a : AQ Int} {i0 i1 u0 u1 : List Int} {oi0 oi1 ou0 ou1 : Option Nat} (h : OSt w wr n V q c I O a i0 i1 u0 u1 oi0 oi1 ou0 ou1) : Sep wr [rV V q, Res.q q c n a, Res.p2 O u0 u1 ou0 ou1] :=
  Sep.left (A := [rV V q, Res.q q c n a, Res.p2 O u0 u1 ou0 ou1]) (C := [Res.p2 I i0 i1 oi0 oi1]) h.sep
theorem OSt.pi {w wr : World} {n V q c I O : Nat} {a : AQ Int} {i0 i1 u0 u1 : List Int} {oi0 oi1 ou0 ou1 : Option Nat} (h : OSt w wr n V q c I O a i0 i1 u0 u1 oi0 oi1 ou0 ou1) : ∃ v0 v1, P2 wr I i0 i1 v0 v1 oi0 oi1 := h.sep.2.2.2.2.2.2.1
theorem OSt.po {w wr : World} {n V q c I O : Nat} {a : AQ Int} {i0 i1 u0 u1 : List Int} {oi0 oi1 ou0 ou1 : Option Nat} (h : OSt w wr n V q c I O a i0 i1 u0 u1 oi0 oi1 ou0 ou1) : ∃ v0 v1, P2 wr O u0 u1 v0 v1 ou0 ou1 := h.sep.2.2.2.2.1
theorem OSt.turni {w wr W : World} {n V q c I O : Nat} {a : AQ Int} {i0 i1 u0 u1 j0 j1 : List Int} {oi0 oi1 ou0 ou1 p0 p1 : Option Nat} (h : OSt w wr n V q c I O a i0 i1 u0 u1 oi0 oi1 ou0 ou1)
    (hp : ∃ v0 v1, P2 W I j0 j1 v0 v1 p0 p1) (hg : ∀ y ∈ pfoot I p0 p1, y ∈ pfoot I oi0 oi1 ∨ wr.heap.size ≤ y) (m : Mod (pfoot I oi0 oi1) wr W) : OSt w W n V q c I O a j0 j1 u0 u1 p0 p1 ou0 ou1 := by
  have hsz := h.mod.size
  have pm : ∀ (R S T U : Res), [R, S, T, U].Perm [U, R, S, T] := fun R S T U => (List.perm_append_comm (l₁ := [R, S, T]) (l₂ := [U]))
  have hN := h.new
  simp only [feet, List.flatMap_cons, List.mem_append, Res.q, Res.p2, List.flatMap_nil, List.append_nil] at hN
  refine ⟨Sep.perm (pm _ _ _ _).symm (Sep.turn (A := [Res.p2 I i0 i1 oi0 oi1]) (A' := [Res.p2 I j0 j1 p0 p1]) (C := [rV V q, Res.q q c n a, Res.p2 O u0 u1 ou0 ou1]) (Sep.perm (pm _ _ _ _) h.sep) m ?_ ⟨hp, by simp, trivial⟩ ?_), ?_, Mod.then h.mod m fun x hx => .inr (hN x (.inr (.inr (.inr hx))))⟩
  · intro x hx; simp only [feet, List.flatMap_cons, Res.p2, List.flatMap_nil, List.append_nil]; exact .inl hx
  · intro x hx; simp only [feet, List.flatMap_cons, Res.p2, List.flatMap_nil, List.append_nil] at hx ⊢; exact hg x hx
  · intro x hx
    simp only [feet, List.flatMap_cons, List.mem_append, Res.q, Res.p2, List.flatMap_nil, List.append_nil] at hx
    rcases hx with hx | hx | hx | hx
    · exact hN x (.inl hx)
    · exact hN x (.inr (.inl hx))
    · exact hN x (.inr (.inr (.inl hx)))
    · rcases hg x hx with h1 | h1
      · exact hN x (.inr (.inr (.inr h1)))
      · omega

def ORel (w : World) (n V q c I O len : Nat) (v11 v40 : Value) (wr : World) : Prop :=
  ∃ (k d : Nat) (a : AQ Int) (i0 i1 u0 u1 : List Int) (oi0 oi1 ou0 ou1 : Option Nat), k ≤ len ∧ v40 = .int .i64 (k : Int) ∧ v11 = .int .i64 (d : Int) ∧
    OSt w wr n V q c I O a i0 i1 u0 u1 oi0 oi1 ou0 ou1 ∧ OInv n a i0 i1 u0 u1 ∧ i0.length + i1.length + d = k ∧ a.ft = decide ((0 : Int) < (d : Int))

end Go.Proofs.Ytnehookocnijpaa
