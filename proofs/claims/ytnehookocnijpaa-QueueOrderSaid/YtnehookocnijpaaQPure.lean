/- The queue as plain data: cells that hang on one another, and the two lists that they are. No program here. -/
import Derived.Test.YtnehookocnijpaaBase
set_option linter.unusedVariables false
set_option linter.unusedSimpArgs false
namespace Go.Proofs.Ytnehookocnijpaa
open Go.RowKit

/-- What a queue has: its cells (a thing, and which is behind it), the first free one, the lanes, the fault. -/
structure QS (α : Type) where
  cs : List (α × Int)
  free : Int
  f0 : Int
  l0 : Int
  n0 : Int
  f1 : Int
  l1 : Int
  n1 : Int
  fault : Bool

/-- From p on the cells F hang on one another; behind the last there is none. -/
def Chain {α : Type} (cs : List (α × Int)) : Int → List Nat → Prop
  | p, [] => p = -1
  | p, i :: r => p = (i : Int) ∧ ∃ x nx, cs[i]? = some (x, nx) ∧ Chain cs nx r

/-- A lane: from f to l the cells L, with the things xs. -/
def LaneR {α : Type} (cs : List (α × Int)) : Int → Int → List Nat → List α → Prop
  | _, _, [], [] => True
  | f, l, [i], [x] => f = (i : Int) ∧ l = (i : Int) ∧ ∃ nx, cs[i]? = some (x, nx)
  | f, l, i :: j :: r, x :: y :: xs => f = (i : Int) ∧ cs[i]? = some (x, (j : Int)) ∧ LaneR cs (j : Int) l (j :: r) (y :: xs)
  | _, _, _, _ => False

structure QInv {α : Type} (s : QS α) (lo hi : List α) (F L0 L1 : List Nat) : Prop where
  nodup : (F ++ (L0 ++ L1)).Nodup
  lt : ∀ i ∈ F ++ (L0 ++ L1), i < s.cs.length
  len : F.length + (L0.length + L1.length) = s.cs.length
  chain : Chain s.cs s.free F
  lane0 : LaneR s.cs s.f0 s.l0 L0 lo
  lane1 : LaneR s.cs s.f1 s.l1 L1 hi
  n0 : s.n0 = (lo.length : Int)
  n1 : s.n1 = (hi.length : Int)

theorem LaneR.length {α : Type} {cs : List (α × Int)} : ∀ {L : List Nat} {xs : List α} {f l : Int}, LaneR cs f l L xs → L.length = xs.length
  | [], [], _, _, _ => rfl
  | [_], [_], _, _, _ => rfl
  | i :: j :: r, x :: y :: xs, f, l, h => by
    have := LaneR.length h.2.2
    simp at this ⊢; omega
  | [], _ :: _, _, _, h => h.elim
  | [_], [], _, _, h => h.elim
  | [_], _ :: _ :: _, _, _, h => h.elim
  | _ :: _ :: _, [], _, _, h => h.elim
  | _ :: _ :: _, [_], _, _, h => h.elim

theorem Chain.keep {α : Type} {cs : List (α × Int)} {k : Nat} {v : α × Int} : ∀ {F : List Nat} {p : Int}, Chain cs p F → k ∉ F → Chain (cs.set k v) p F
  | [], _, h, _ => h
  | i :: r, p, ⟨h1, x, nx, h2, h3⟩, hk => by
    refine ⟨h1, x, nx, ?_, Chain.keep h3 (by simp at hk; exact hk.2)⟩
    rw [List.getElem?_set_ne (by simp at hk; exact fun e => hk.1 e)]; exact h2

theorem LaneR.keep {α : Type} {cs : List (α × Int)} {k : Nat} {v : α × Int} : ∀ {L : List Nat} {xs : List α} {f l : Int}, LaneR cs f l L xs → k ∉ L → LaneR (cs.set k v) f l L xs
  | [], [], _, _, _, _ => trivial
  | [i], [x], _, _, ⟨h1, h2, nx, h3⟩, hk => ⟨h1, h2, nx, by rw [List.getElem?_set_ne (by simp at hk; exact fun e => hk e)]; exact h3⟩
  | i :: j :: r, x :: y :: xs, f, l, ⟨h1, h2, h3⟩, hk => by
    simp only [List.mem_cons, not_or] at hk
    refine ⟨h1, ?_, LaneR.keep h3 (by simp only [List.mem_cons, not_or]; exact hk.2)⟩
    rw [List.getElem?_set_ne (fun e => hk.1 e)]; exact h2
  | [], _ :: _, _, _, h, _ => h.elim
  | [_], [], _, _, h, _ => h.elim
  | [_], _ :: _ :: _, _, _, h, _ => h.elim
  | _ :: _ :: _, [], _, _, h, _ => h.elim
  | _ :: _ :: _, [_], _, _, h, _ => h.elim

/-- The last cell of a lane that isn't empty. -/
theorem LaneR.last {α : Type} {cs : List (α × Int)} : ∀ {L : List Nat} {xs : List α} {f l : Int}, LaneR cs f l L xs → L ≠ [] →
    ∃ k ∈ L, l = (k : Int) ∧ ∃ x nx, cs[k]? = some (x, nx)
  | [], [], _, _, _, h => (h rfl).elim
  | [i], [x], _, _, ⟨_, h2, nx, h3⟩, _ => ⟨i, by simp, h2, x, nx, h3⟩
  | i :: j :: r, x :: y :: xs, f, l, ⟨_, _, h3⟩, _ => by
    obtain ⟨k, hk, hl, hx⟩ := LaneR.last h3 (by simp)
    exact ⟨k, List.mem_cons_of_mem _ hk, hl, hx⟩
  | [], _ :: _, _, _, h, _ => h.elim
  | [_], [], _, _, h, _ => h.elim
  | [_], _ :: _ :: _, _, _, h, _ => h.elim
  | _ :: _ :: _, [], _, _, h, _ => h.elim
  | _ :: _ :: _, [_], _, _, h, _ => h.elim

theorem LaneR.head {α : Type} {cs : List (α × Int)} : ∀ {L : List Nat} {xs : List α} {f l : Int}, LaneR cs f l L xs → L ≠ [] →
    ∃ k L' x xs' nx, L = k :: L' ∧ xs = x :: xs' ∧ f = (k : Int) ∧ cs[k]? = some (x, nx) ∧ LaneR cs nx l L' xs'
  | [], [], _, _, _, h => (h rfl).elim
  | [i], [x], _, _, ⟨h1, h2, nx, h3⟩, _ => ⟨i, [], x, [], nx, rfl, rfl, h1, h3, trivial⟩
  | i :: j :: r, x :: y :: xs, f, l, ⟨h1, h2, h3⟩, _ => ⟨i, j :: r, x, y :: xs, j, rfl, rfl, h1, h2, h3⟩
  | [], _ :: _, _, _, h, _ => h.elim
  | [_], [], _, _, h, _ => h.elim
  | [_], _ :: _ :: _, _, _, h, _ => h.elim
  | _ :: _ :: _, [], _, _, h, _ => h.elim
  | _ :: _ :: _, [_], _, _, h, _ => h.elim

/-- A thing more at the end of a lane: its cell k is set, then the last one leads to it. -/
theorem LaneR.snoc {α : Type} {cs : List (α × Int)} {k : Nat} {z : α} {m : Int} (hk : cs[k]? = some (z, m)) :
    ∀ {L : List Nat} {xs : List α} {f l : Int} {e : Nat} {x : α} {nx : Int}, LaneR cs f l L xs → L ≠ [] → L.Nodup → k ∉ L → l = (e : Int) → cs[e]? = some (x, nx) →
      LaneR (cs.set e (x, (k : Int))) f (k : Int) (L ++ [k]) (xs ++ [z])
  | [], [], _, _, _, _, _, _, h, _, _, _, _ => (h rfl).elim
  | [i], [y], f, l, e, x, nx, ⟨h1, h2, n, h3⟩, _, _, hm, he, hx => by
    obtain rfl : i = e := by omega
    rw [h3] at hx
    simp only [Option.some.injEq, Prod.mk.injEq] at hx
    obtain ⟨rfl, rfl⟩ := hx
    have hi : i < cs.length := by
      rcases Nat.lt_or_ge i cs.length with h | h
      · exact h
      · simp [List.getElem?_eq_none h] at h3
    refine ⟨h1, by simp [List.getElem?_set_self hi], rfl, rfl, m, ?_⟩
    rw [List.getElem?_set_ne (by simp at hm; exact fun h => hm h.symm)]; exact hk
  | i :: j :: r, y :: y' :: ys, f, l, e, x, nx, ⟨h1, h2, h3⟩, _, hd, hm, he, hx => by
    have hd' : (j :: r).Nodup := (List.nodup_cons.1 hd).2
    have hm' : k ∉ j :: r := fun h => hm (List.mem_cons_of_mem _ h)
    obtain ⟨e', he', hl', _⟩ := LaneR.last h3 (by simp)
    obtain rfl : e' = e := by omega
    have hie : i ≠ e' := fun h => (List.nodup_cons.1 hd).1 (h ▸ he')
    exact ⟨h1, by rw [List.getElem?_set_ne (Ne.symm hie)]; exact h2, LaneR.snoc hk h3 (by simp) hd' hm' he hx⟩
  | [], _ :: _, _, _, _, _, _, h, _, _, _, _, _ => h.elim
  | [_], [], _, _, _, _, _, h, _, _, _, _, _ => h.elim
  | [_], _ :: _ :: _, _, _, _, _, _, h, _, _, _, _, _ => h.elim
  | _ :: _ :: _, [], _, _, _, _, _, h, _, _, _, _, _ => h.elim
  | _ :: _ :: _, [_], _, _, _, _, _, h, _, _, _, _, _ => h.elim

theorem LaneR.one {α : Type} {cs : List (α × Int)} {k : Nat} {z : α} {m : Int} (hk : cs[k]? = some (z, m)) : LaneR cs (k : Int) (k : Int) [k] [z] := ⟨rfl, rfl, m, hk⟩

variable {α : Type}

theorem QInv.full {s : QS α} {lo hi : List α} {F L0 L1 : List Nat} (h : QInv s lo hi F L0 L1) (hf : s.free = -1) : F = [] ∧ lo.length + hi.length = s.cs.length := by
  have hF : F = [] := by
    cases F with
    | nil => rfl
    | cons i r => have := h.chain.1; omega
  subst hF
  have := h.lane0.length; have := h.lane1.length; have := h.len
  exact ⟨rfl, by simp at *; omega⟩

theorem QInv.notFull {s : QS α} {lo hi : List α} {F L0 L1 : List Nat} (h : QInv s lo hi F L0 L1) (hf : s.free ≠ -1) :
    ∃ k F' x nx, F = k :: F' ∧ s.free = (k : Int) ∧ k < s.cs.length ∧ s.cs[k]? = some (x, nx) ∧ Chain s.cs nx F' ∧ k ∉ F' ∧ k ∉ L0 ∧ k ∉ L1 ∧ lo.length + hi.length < s.cs.length := by
  cases F with
  | nil => exact (hf h.chain).elim
  | cons k F' =>
    obtain ⟨h1, x, nx, h2, h3⟩ := h.chain
    have hn := h.nodup
    simp only [List.cons_append, List.nodup_cons, List.mem_append, not_or] at hn
    have := h.lane0.length; have := h.lane1.length; have := h.len
    exact ⟨k, F', x, nx, rfl, h1, h.lt k (by simp), h2, h3, hn.1.1, hn.1.2.1, hn.1.2.2, by simp at *; omega⟩

/-- A queue's state is these two lists. -/
def QIs (s : QS α) (lo hi : List α) : Prop := ∃ F L0 L1, QInv s lo hi F L0 L1

theorem nodup_put0 {k : Nat} {F L0 L1 : List Nat} (h : (k :: F ++ (L0 ++ L1)).Nodup) : (F ++ ((L0 ++ [k]) ++ L1)).Nodup := by
  have p : (k :: F ++ (L0 ++ L1)).Perm (F ++ ((L0 ++ [k]) ++ L1)) := by
    have e : F ++ ((L0 ++ [k]) ++ L1) = (F ++ L0) ++ k :: L1 := by simp
    rw [e]
    exact (List.perm_cons k |>.2 (by simp)).trans (List.perm_middle.symm)
  exact p.nodup_iff.1 h
theorem nodup_put1 {k : Nat} {F L0 L1 : List Nat} (h : (k :: F ++ (L0 ++ L1)).Nodup) : (F ++ (L0 ++ (L1 ++ [k]))).Nodup := by
  have p : (k :: F ++ (L0 ++ L1)).Perm (F ++ (L0 ++ (L1 ++ [k]))) := by
    have e : F ++ (L0 ++ (L1 ++ [k])) = (F ++ (L0 ++ L1)) ++ k :: [] := by simp
    rw [e]
    exact (List.perm_cons k |>.2 (by simp)).trans (List.perm_middle.symm)
  exact p.nodup_iff.1 h
theorem nodup_take0 {k : Nat} {F L0 L1 : List Nat} (h : (F ++ ((k :: L0) ++ L1)).Nodup) : ((k :: F) ++ (L0 ++ L1)).Nodup := by
  have p : (F ++ ((k :: L0) ++ L1)).Perm ((k :: F) ++ (L0 ++ L1)) := by
    simp
  exact p.nodup_iff.1 h
theorem nodup_take1 {k : Nat} {F L0 L1 : List Nat} (h : (F ++ (L0 ++ (k :: L1))).Nodup) : ((k :: F) ++ (L0 ++ L1)).Nodup := by
  have p : (F ++ (L0 ++ (k :: L1))).Perm ((k :: F) ++ (L0 ++ L1)) := by
    have := List.perm_middle (a := k) (l₁ := F ++ L0) (l₂ := L1)
    simpa using this
  exact p.nodup_iff.1 h

/-! ### Put -/
theorem get_lt {cs : List (α × Int)} {k : Nat} {v : α × Int} (h : cs[k]? = some v) : k < cs.length := by
  rcases Nat.lt_or_ge k cs.length with h' | h'
  · exact h'
  · simp [List.getElem?_eq_none h'] at h

theorem put_full {s : QS α} {lo hi : List α} (h : QIs s lo hi) (b : Bool) : QIs { s with fault := b } lo hi := by
  obtain ⟨F, L0, L1, h⟩ := h
  exact ⟨F, L0, L1, h.nodup, h.lt, h.len, h.chain, h.lane0, h.lane1, h.n0, h.n1⟩

theorem put_lo_first {s : QS α} {hi : List α} (h : QIs s [] hi) {k : Nat} {x y : α} {nx : Int} (hf : s.free = (k : Int)) (hk : s.cs[k]? = some (y, nx)) :
    QIs { s with cs := s.cs.set k (x, -1), free := nx, f0 := (k : Int), l0 := (k : Int), n0 := 1 } [x] hi := by
  obtain ⟨F, L0, L1, h⟩ := h
  have hl := get_lt hk
  obtain ⟨k', F', x', nx', rfl, h1, h2, h3, h4, h5, h6, h7, _⟩ := h.notFull (by omega)
  obtain rfl : k' = k := by omega
  rw [h3] at hk; simp only [Option.some.injEq, Prod.mk.injEq] at hk; obtain ⟨rfl, rfl⟩ := hk
  have e0 : L0 = [] := by have := h.lane0.length; cases L0 <;> simp_all
  subst e0
  refine ⟨F', [k'], L1, by simpa using nodup_put0 h.nodup, ?_, ?_, h4.keep h5, LaneR.one (m := -1) (by simp [List.getElem?_set_self hl]), h.lane1.keep h7, rfl, h.n1⟩
  · intro i hi; simp at hi; have := h.lt i (by simp; grind); simpa using this
  · have := h.len; simp at *; omega

theorem put_hi_first {s : QS α} {lo : List α} (h : QIs s lo []) {k : Nat} {x y : α} {nx : Int} (hf : s.free = (k : Int)) (hk : s.cs[k]? = some (y, nx)) :
    QIs { s with cs := s.cs.set k (x, -1), free := nx, f1 := (k : Int), l1 := (k : Int), n1 := 1 } lo [x] := by
  obtain ⟨F, L0, L1, h⟩ := h
  have hl := get_lt hk
  obtain ⟨k', F', x', nx', rfl, h1, h2, h3, h4, h5, h6, h7, _⟩ := h.notFull (by omega)
  obtain rfl : k' = k := by omega
  rw [h3] at hk; simp only [Option.some.injEq, Prod.mk.injEq] at hk; obtain ⟨rfl, rfl⟩ := hk
  have e0 : L1 = [] := by have := h.lane1.length; cases L1 <;> simp_all
  subst e0
  refine ⟨F', L0, [k'], by simpa using nodup_put1 h.nodup, ?_, ?_, h4.keep h5, h.lane0.keep h6, LaneR.one (m := -1) (by simp [List.getElem?_set_self hl]), h.n0, rfl⟩
  · intro i hi; simp at hi; have := h.lt i (by simp; grind); simpa using this
  · have := h.len; simp at *; omega

theorem lane_ne {cs : List (α × Int)} {f l : Int} {L : List Nat} {xs : List α} (h : LaneR cs f l L xs) (hx : xs ≠ []) : L ≠ [] := by
  have := h.length
  rintro rfl
  cases xs <;> simp_all

theorem put_lo_later {s : QS α} {lo hi : List α} (h : QIs s lo hi) (hlo : lo ≠ []) {k : Nat} {x y : α} {nx : Int} (hf : s.free = (k : Int)) (hk : s.cs[k]? = some (y, nx)) :
    ∃ e z m, s.l0 = ((e : Nat) : Int) ∧ e < s.cs.length ∧ e ≠ k ∧ s.cs[e]? = some (z, m) ∧
    QIs { s with cs := (s.cs.set k (x, -1)).set e (z, (k : Int)), free := nx, l0 := (k : Int), n0 := s.n0 + 1 } (lo ++ [x]) hi := by
  obtain ⟨F, L0, L1, h⟩ := h
  have hl := get_lt hk
  obtain ⟨k', F', x', nx', rfl, h1, h2, h3, h4, h5, h6, h7, _⟩ := h.notFull (by omega)
  obtain rfl : k' = k := by omega
  rw [h3] at hk; simp only [Option.some.injEq, Prod.mk.injEq] at hk; obtain ⟨rfl, rfl⟩ := hk
  obtain ⟨e, he, hle, z, m, hz⟩ := h.lane0.last (lane_ne h.lane0 hlo)
  have hek : e ≠ k' := fun hh => h6 (hh ▸ he)
  have hn := h.nodup
  have heF : e ∉ F' := fun hh => by
    simp only [List.cons_append, List.nodup_cons, List.nodup_append] at hn
    exact hn.2.2.2 e hh e (by simp [he]) rfl
  have heL : e ∉ L1 := fun hh => by
    simp only [List.cons_append, List.nodup_cons, List.nodup_append] at hn
    exact hn.2.2.1.2.2 e he e hh rfl
  have hd0 : L0.Nodup := by
    simp only [List.cons_append, List.nodup_cons, List.nodup_append] at hn
    exact hn.2.2.1.1
  refine ⟨e, z, m, hle, get_lt hz, hek, hz, F', L0 ++ [k'], L1, nodup_put0 h.nodup, ?_, ?_, (h4.keep h5).keep heF, ?_, (h.lane1.keep h7).keep heL, ?_, h.n1⟩
  · intro i hi; simp at hi; have := h.lt i (by simp; grind); simpa using this
  · have := h.len; simp at *; omega
  · refine LaneR.snoc (m := -1) ?_ (h.lane0.keep h6) (lane_ne h.lane0 hlo) hd0 h6 hle (nx := m) ?_
    · simp [List.getElem?_set_self hl]
    · rw [List.getElem?_set_ne (Ne.symm hek)]; exact hz
  · have := h.n0; simp; omega

theorem put_hi_later {s : QS α} {lo hi : List α} (h : QIs s lo hi) (hlo : hi ≠ []) {k : Nat} {x y : α} {nx : Int} (hf : s.free = (k : Int)) (hk : s.cs[k]? = some (y, nx)) :
    ∃ e z m, s.l1 = ((e : Nat) : Int) ∧ e < s.cs.length ∧ e ≠ k ∧ s.cs[e]? = some (z, m) ∧
    QIs { s with cs := (s.cs.set k (x, -1)).set e (z, (k : Int)), free := nx, l1 := (k : Int), n1 := s.n1 + 1 } lo (hi ++ [x]) := by
  obtain ⟨F, L0, L1, h⟩ := h
  have hl := get_lt hk
  obtain ⟨k', F', x', nx', rfl, h1, h2, h3, h4, h5, h6, h7, _⟩ := h.notFull (by omega)
  obtain rfl : k' = k := by omega
  rw [h3] at hk; simp only [Option.some.injEq, Prod.mk.injEq] at hk; obtain ⟨rfl, rfl⟩ := hk
  obtain ⟨e, he, hle, z, m, hz⟩ := h.lane1.last (lane_ne h.lane1 hlo)
  have hek : e ≠ k' := fun hh => h7 (hh ▸ he)
  have hn := h.nodup
  have heF : e ∉ F' := fun hh => by
    simp only [List.cons_append, List.nodup_cons, List.nodup_append] at hn
    exact hn.2.2.2 e hh e (by simp [he]) rfl
  have heL : e ∉ L0 := fun hh => by
    simp only [List.cons_append, List.nodup_cons, List.nodup_append] at hn
    exact hn.2.2.1.2.2 e hh e he rfl
  have hd0 : L1.Nodup := by
    simp only [List.cons_append, List.nodup_cons, List.nodup_append] at hn
    exact hn.2.2.1.2.1
  refine ⟨e, z, m, hle, get_lt hz, hek, hz, F', L0, L1 ++ [k'], nodup_put1 h.nodup, ?_, ?_, (h4.keep h5).keep heF, (h.lane0.keep h6).keep heL, ?_, h.n0, ?_⟩
  · intro i hi; simp at hi; have := h.lt i (by simp; grind); simpa using this
  · have := h.len; simp at *; omega
  · refine LaneR.snoc (m := -1) ?_ (h.lane1.keep h7) (lane_ne h.lane1 hlo) hd0 h7 hle (nx := m) ?_
    · simp [List.getElem?_set_self hl]
    · rw [List.getElem?_set_ne (Ne.symm hek)]; exact hz
  · have := h.n1; simp; omega

/-! ### Take -/
theorem head_lo {s : QS α} {x : α} {lo hi : List α} (h : QIs s (x :: lo) hi) :
    ∃ k nx, s.f0 = ((k : Nat) : Int) ∧ k < s.cs.length ∧ s.cs[k]? = some (x, nx) ∧
      ∀ z : α, QIs { s with cs := s.cs.set k (z, s.free), free := (k : Int), f0 := nx, n0 := s.n0 - 1 } lo hi := by
  obtain ⟨F, L0, L1, h⟩ := h
  obtain ⟨k, L', x', xs', nx, rfl, hx, hf, hk, hL⟩ := h.lane0.head (lane_ne h.lane0 (by simp))
  simp only [List.cons.injEq] at hx; obtain ⟨rfl, rfl⟩ := hx
  have hn := h.nodup
  have hl := get_lt hk
  refine ⟨k, nx, hf, hl, hk, fun z => ⟨k :: F, L', L1, nodup_take0 hn, ?_, ?_, ⟨rfl, z, s.free, by simp [List.getElem?_set_self hl], ?_⟩, hL.keep ?_, h.lane1.keep ?_, ?_, h.n1⟩⟩
  · intro i hi; simp at hi; have := h.lt i (by simp; grind); simpa using this
  · have := h.len; simp at *; omega
  · refine h.chain.keep fun hh => ?_
    simp only [List.nodup_append] at hn
    exact hn.2.2 k hh k (by simp) rfl
  · intro hh; simp only [List.cons_append, List.nodup_append, List.nodup_cons, List.mem_append, not_or] at hn; exact hn.2.1.1.1 hh
  · intro hh; simp only [List.cons_append, List.nodup_append, List.nodup_cons, List.mem_append, not_or] at hn; exact hn.2.1.1.2 hh
  · have := h.n0; simp at *; omega

theorem head_hi {s : QS α} {x : α} {lo hi : List α} (h : QIs s lo (x :: hi)) :
    ∃ k nx, s.f1 = ((k : Nat) : Int) ∧ k < s.cs.length ∧ s.cs[k]? = some (x, nx) ∧
      ∀ z : α, QIs { s with cs := s.cs.set k (z, s.free), free := (k : Int), f1 := nx, n1 := s.n1 - 1 } lo hi := by
  obtain ⟨F, L0, L1, h⟩ := h
  obtain ⟨k, L', x', xs', nx, rfl, hx, hf, hk, hL⟩ := h.lane1.head (lane_ne h.lane1 (by simp))
  simp only [List.cons.injEq] at hx; obtain ⟨rfl, rfl⟩ := hx
  have hn := h.nodup
  have hl := get_lt hk
  have hk0 : k ∉ F ∧ k ∉ L0 ∧ k ∉ L' := by
    have := nodup_take1 hn
    simp only [List.cons_append, List.nodup_cons, List.mem_append, not_or] at this
    exact this.1
  refine ⟨k, nx, hf, hl, hk, fun z => ⟨k :: F, L0, L', nodup_take1 hn, ?_, ?_, ⟨rfl, z, s.free, by simp [List.getElem?_set_self hl], ?_⟩, h.lane0.keep hk0.2.1, hL.keep hk0.2.2, h.n0, ?_⟩⟩
  · intro i hi; simp at hi; have := h.lt i (by simp; grind); simpa using this
  · have := h.len; simp at *; omega
  · exact h.chain.keep hk0.1
  · have := h.n1; simp at *; omega

/-! ### Clear -/
theorem chain_up (cs : List (α × Int)) (n : Nat) (i : Nat) (hin : i ≤ n) (hn : n ≤ cs.length) (h : ∀ j, i ≤ j → j < n → ∃ x, cs[j]? = some (x, if j + 1 = n then -1 else ((j + 1 : Nat) : Int))) :
    Chain cs (if i = n then -1 else (i : Int)) (List.range' i (n - i)) := by
  induction hm : n - i generalizing i with
  | zero => have : i = n := by omega
            simp [this, List.range', Chain]
  | succ m ih =>
    have hi : i < n := by omega
    rw [if_neg (by omega)]
    obtain ⟨x, hx⟩ := h i (Nat.le_refl _) hi
    refine ⟨rfl, x, _, hx, ?_⟩
    exact ih (i + 1) (by omega) (fun j hj hj' => h j (by omega) hj') (by omega)

theorem clear_is (s : QS α) (hc : Chain s.cs s.free (List.range' 0 s.cs.length)) (h0 : s.n0 = 0) (h1 : s.n1 = 0) : QIs s [] [] := by
  refine ⟨List.range' 0 s.cs.length, [], [], by simpa using List.nodup_range', by simp, by simp, hc, trivial, trivial, by simpa using h0, by simpa using h1⟩

/-! ### The queue as two lists -/
structure AQ (α : Type) where
  lo : List α
  hi : List α
  ft : Bool
def AQ.put (n : Nat) (s : AQ α) (x : α) (h : Bool) : AQ α :=
  if s.lo.length + s.hi.length < n then (if h then { s with hi := s.hi ++ [x] } else { s with lo := s.lo ++ [x] }) else { s with ft := true }
def AQ.putE (n : Nat) (s : AQ α) : Int := if s.lo.length + s.hi.length < n then 0 else 8
def AQ.lane (s : AQ α) (h : Bool) : List α := if h then s.hi else s.lo
def AQ.take (s : AQ α) (h : Bool) : AQ α := if h then { s with hi := s.hi.tail } else { s with lo := s.lo.tail }

end Go.Proofs.Ytnehookocnijpaa
