/- Words of our own: blocks known whole, and what a call may have turned. -/
import Derived.WalkKit
import Derived.WalkSpells
import Derived.WalkLawsBesides
import Derived.Deep.RegionHeld3
import Derived.Deep.QuietTactic
import Derived.BigQuiet
import Derived.StillTailTactics
import Derived.Deep.AppendLies
import Derived.Deep.Draws
import Derived.Lib.Hide
set_option linter.unusedVariables false
set_option linter.unusedSimpArgs false
namespace Go.Proofs.Ytedmikeamgebjaa
open Go.RowKit

/-- Block b is a row of the cells cs, of element type T, not frozen. -/
def Blk (w : World) (b : Nat) (T : TypeId) (cs : List Value) : Prop := w.heap[b]? = some (.cells cs.toArray T (0, 0))

theorem Blk.cell {w : World} {b : Nat} {T : TypeId} {cs : List Value} (h : Blk w b T cs) (i : Nat) : w.cell? ⟨b, i, none⟩ = cs[i]? := by
  unfold Blk at h
  simp [World.cell?, h]
theorem Blk.frozen {w : World} {b : Nat} {T : TypeId} {cs : List Value} (h : Blk w b T cs) (i : Nat) : w.frozen? ⟨b, i, none⟩ = false := by
  unfold Blk at h
  simp [World.frozen?, h]
theorem Blk.lt {w : World} {b : Nat} {T : TypeId} {cs : List Value} (h : Blk w b T cs) : b < w.heap.size := by
  unfold Blk at h
  exact (Array.getElem?_eq_some_iff.1 h).1
theorem Blk.drew {w : World} {b : Nat} {T : TypeId} {cs : List Value} (h : Blk w b T cs) : Blk w.drew b T cs := h
theorem Blk.drewN {w : World} {b : Nat} {T : TypeId} {cs : List Value} (h : Blk w b T cs) (n : Nat) : Blk (w.drewN n) b T cs := h
theorem Blk.set {w : World} {b : Nat} {T : TypeId} {cs : List Value} (h : Blk w b T cs) (i : Nat) (v : Value) : Blk (w.setCell ⟨b, i, none⟩ v) b T (cs.set i v) := by
  unfold Blk at h ⊢
  simp [World.setCell, Array.getElem?_modify, h]
theorem Blk.other {w : World} {b : Nat} {T : TypeId} {cs : List Value} (h : Blk w b T cs) {a : Addr} (v : Value) (hne : a.block ≠ b) : Blk (w.setCell a v) b T cs := by
  unfold Blk at h ⊢
  simp [World.setCell, Array.getElem?_modify, h, hne]
theorem Blk.alloc {w : World} {b : Nat} {T : TypeId} {cs : List Value} (h : Blk w b T cs) (o : Obj) : Blk (w.alloc o) b T cs := by
  have := h.lt
  unfold Blk at h ⊢
  rw [Below.heap_alloc _ _ _ this]; exact h
theorem Blk.eq {w : World} {b : Nat} {T : TypeId} {cs cs' : List Value} (h : Blk w b T cs) (e : cs = cs') : Blk w b T cs' := e ▸ h
theorem Blk.new (w : World) (T : TypeId) (cs : Array Value) : Blk (w.alloc (.cells cs T (0, 0))) w.heap.size T cs.toList := by
  show (w.heap.push _)[w.heap.size]? = _
  simp

/-- w' has w's blocks but for those in B, and may have more. -/
structure Mod (B : List Nat) (w w' : World) : Prop where
  os : w'.os = w.os
  tape : w'.tape = w.tape
  output : w'.output = w.output
  size : w.heap.size ≤ w'.heap.size
  block : ∀ k, k < w.heap.size → k ∉ B → w'.heap[k]? = w.heap[k]?
theorem Mod.refl (B : List Nat) (w : World) : Mod B w w := ⟨rfl, rfl, rfl, Nat.le_refl _, fun _ _ _ => rfl⟩
theorem Mod.trans {B : List Nat} {a b c : World} (h : Mod B a b) (k : Mod B b c) : Mod B a c :=
  ⟨k.os.trans h.os, k.tape.trans h.tape, k.output.trans h.output, Nat.le_trans h.size k.size, fun i hi hb => (k.block i (Nat.lt_of_lt_of_le hi h.size) hb).trans (h.block i hi hb)⟩
/-- What is new may be turned, too. -/
theorem Mod.then {B C : List Nat} {a b c : World} (h : Mod B a b) (k : Mod C b c) (hc : ∀ x ∈ C, x ∈ B ∨ a.heap.size ≤ x) : Mod B a c :=
  ⟨k.os.trans h.os, k.tape.trans h.tape, k.output.trans h.output, Nat.le_trans h.size k.size, fun i hi hb => (k.block i (Nat.lt_of_lt_of_le hi h.size) (fun hx => by rcases hc i hx with h1 | h1; exact hb h1; omega)).trans (h.block i hi hb)⟩
theorem Mod.mono {B C : List Nat} {w w' : World} (h : Mod B w w') (hs : ∀ x ∈ B, x ∈ C) : Mod C w w' := ⟨h.os, h.tape, h.output, h.size, fun k hk hb => h.block k hk (fun hx => hb (hs k hx))⟩
theorem Mod.drew {B : List Nat} {a w : World} (h : Mod B a w) : Mod B a w.drew := ⟨h.os, h.tape, h.output, h.size, h.block⟩
theorem Mod.drewN {B : List Nat} {a w : World} (h : Mod B a w) (n : Nat) : Mod B a (w.drewN n) := ⟨h.os, h.tape, h.output, h.size, h.block⟩
theorem Mod.alloc {B : List Nat} {a w : World} (h : Mod B a w) (o : Obj) : Mod B a (w.alloc o) :=
  ⟨h.os, h.tape, h.output, by simp; have := h.size; omega, fun k hk hb => by have := h.size; rw [Below.heap_alloc _ _ _ (by omega)]; exact h.block k hk hb⟩
theorem Mod.setCell {B : List Nat} {a w : World} (h : Mod B a w) {p : Addr} (v : Value) (hp : p.block ∈ B ∨ a.heap.size ≤ p.block) : Mod B a (w.setCell p v) :=
  ⟨h.os, h.tape, h.output, by simp; exact h.size, fun k hk hb => by
    rw [Below.heap_setCell _ _ _ _ (by rintro rfl; rcases hp with h1 | h1; exact hb h1; omega)]; exact h.block k hk hb⟩
theorem Mod.below {w w' : World} (h : Below w.heap.size w w') : Mod [] w w' := ⟨h.os, h.tape, h.output, h.size, fun k hk _ => h.block k hk⟩
theorem Mod.toBelow {w w' : World} (h : Mod [] w w') : Below w.heap.size w w' := ⟨h.os, h.tape, h.output, h.size, fun k hk => h.block k hk (by simp)⟩
theorem Mod.cell {B : List Nat} {w w' : World} (m : Mod B w w') {a : Addr} {v : Value} (h : w.cell? a = some v) (hb : a.block ∉ B) : w'.cell? a = some v := by
  have hl := World.block_lt_of_cell? w a h
  rw [World.cell?_of_block (w := w) (m.block _ hl hb)]; exact h
theorem Blk.mod {w w' : World} {b : Nat} {T : TypeId} {cs : List Value} {B : List Nat} (h : Blk w b T cs) (m : Mod B w w') (hb : b ∉ B) : Blk w' b T cs := by
  have := h.lt
  unfold Blk at h ⊢
  rw [m.block b this hb]; exact h

/-! ### Rows of equal parts -/
/-- From place o on the values vs are set. -/
def setAt (l : List Value) (o : Nat) : List Value → List Value
  | [] => l
  | v :: vs => setAt (l.set o v) (o + 1) vs
theorem setAt_length (vs : List Value) : ∀ (l : List Value) (o : Nat), (setAt l o vs).length = l.length := by
  induction vs with
  | nil => intro l o; rfl
  | cons v vs ih => intro l o; rw [setAt, ih, List.length_set]
theorem setAt_right (vs : List Value) : ∀ (a b : List Value) (o : Nat), setAt (a ++ b) (a.length + o) vs = a ++ setAt b o vs := by
  induction vs with
  | nil => intro a b o; rfl
  | cons v vs ih => intro a b o; rw [setAt, setAt, List.set_append_right _ _ (by omega), Nat.add_sub_cancel_left, Nat.add_assoc, ih]
theorem setAt_left (vs : List Value) : ∀ (a b : List Value), a.length = vs.length → setAt (a ++ b) 0 vs = vs ++ b := by
  induction vs with
  | nil => intro a b h; have := List.length_eq_zero_iff.1 h; subst this; rfl
  | cons v vs ih =>
    intro a b h
    cases a with
    | nil => simp at h
    | cons x a =>
      rw [setAt]
      simp only [List.cons_append, List.set_cons_zero]
      have := setAt_right vs [v] (a ++ b) 0
      simp only [List.length_singleton, Nat.add_zero, List.cons_append, List.nil_append] at this
      rw [this, ih a b (by simpa using h)]
variable {β : Type}
theorem flat_length (f : β → List Value) (m : Nat) (hm : ∀ x, (f x).length = m) (l : List β) : (l.flatMap f).length = l.length * m := by
  induction l with
  | nil => simp
  | cons x l ih => simp [hm, ih, Nat.succ_mul, Nat.add_comm]
theorem flat_get (f : β → List Value) (m : Nat) (hm : ∀ x, (f x).length = m) : ∀ (l : List β) (i j : Nat) (x : β), l[i]? = some x → j < m → (l.flatMap f)[i * m + j]? = (f x)[j]?
  | [], _, _, _, h, _ => by simp at h
  | y :: l, 0, j, x, h, hj => by
    simp at h; subst h
    simp only [List.flatMap_cons, Nat.zero_mul, Nat.zero_add]
    rw [List.getElem?_append_left (by rw [hm]; exact hj)]
  | y :: l, i + 1, j, x, h, hj => by
    simp only [List.flatMap_cons]
    rw [List.getElem?_append_right (by rw [hm, Nat.succ_mul]; omega), hm, show (i + 1) * m + j - m = i * m + j by rw [Nat.succ_mul]; omega]
    exact flat_get f m hm l i j x (by simpa using h) hj
theorem flat_set (f : β → List Value) (m : Nat) (hm : ∀ x, (f x).length = m) : ∀ (l : List β) (i : Nat) (x : β), i < l.length → setAt (l.flatMap f) (i * m) (f x) = (l.set i x).flatMap f
  | [], _, _, h => by simp at h
  | y :: l, 0, x, h => by
    simp only [List.flatMap_cons, Nat.zero_mul, List.set_cons_zero]
    exact setAt_left _ _ _ (by rw [hm, hm])
  | y :: l, i + 1, x, h => by
    simp only [List.flatMap_cons, List.set_cons_succ]
    rw [show (i + 1) * m = (f y).length + i * m by rw [hm, Nat.succ_mul]; omega, setAt_right, flat_set f m hm l i x (by simpa using h)]
theorem flat_set_one (f : β → List Value) (m : Nat) (hm : ∀ x, (f x).length = m) : ∀ (l : List β) (i j : Nat) (x y : β) (v : Value), l[i]? = some x → j < m → f y = (f x).set j v →
    (l.flatMap f).set (i * m + j) v = (l.set i y).flatMap f
  | [], _, _, _, _, _, h, _, _ => by simp at h
  | z :: l, 0, j, x, y, v, h, hj, hy => by
    simp at h; subst h
    simp only [List.flatMap_cons, Nat.zero_mul, Nat.zero_add, List.set_cons_zero]
    rw [List.set_append_left _ _ (by rw [hm]; exact hj), hy]
  | z :: l, i + 1, j, x, y, v, h, hj, hy => by
    simp only [List.flatMap_cons, List.set_cons_succ]
    rw [List.set_append_right _ _ (by rw [hm, Nat.succ_mul]; omega), hm, show (i + 1) * m + j - m = i * m + j by rw [Nat.succ_mul]; omega, flat_set_one f m hm l i j x y v (by simpa using h) hj hy]

/-! ### make([]T, n), n a variable: the world as it lies -/
theorem wpList_make_blk {P : Program} (w : World) {ops : Array Oper} {rest : List Oper} {o : Oper} {a : Act} {Q : Exit → Act → World → Prop}
    (hg : o.guard = none) (l c : Operand) (t : TypeId) (hop : o.op = Op.makeSlice t l c)
    (e : TypeId) (i : TypeInfo) (z : Value) (size bytes : Nat) (h1 : P.underlying t = some (.slice e)) (h2 : P.info? e = some i) (h3 : i.zero = some z) (h4 : i.size = size) (h5 : i.bytes = bytes)
    (kl kc : IntKind) (L C : Int) (n : Nat) (hl : a.eval l = .int kl L) (hc : a.eval c = .int kc C) (hL : L = (n : Int)) (hC : C = (n : Int)) (b2 : bytes * n ≤ 281474976710656) (b3 : n ≤ 9223372036854775807)
    (hK : wpList P ops Q rest (a.put o.dst (.slice (some ⟨w.heap.size, 0, none⟩) n n)) (w.alloc (.cells (madeCells z.cells (n * size)) e))) :
    wpList P ops Q (o :: rest) a w := by
  refine wpList_plain hg fun K hK' => ?_
  subst h4 h5 hL hC
  have hb : ((i.bytes : Int)) * (n : Int) ≤ 281474976710656 := by
    have : ((i.bytes * n : Nat) : Int) ≤ 281474976710656 := by omega
    rwa [Int.natCast_mul] at this
  have hrun := run_make (P := P) w t e i z h1 h2 h3 kl kc n n (by omega) (by omega) hb (by omega)
  simp only [Int.toNat_natCast] at hrun
  unfold Oper.wp
  simp [execOp, hop, hl, hc, hrun, Result.andThen]
  exact hK' _ _ hK
theorem madeCells_flat (z : List Value) (n : Nat) : (madeCells z.toArray (n * z.length)).toList = (List.replicate n ()).flatMap fun _ => z := by
  apply List.ext_getElem?
  intro k
  by_cases hz : z.length = 0
  · have : z = [] := List.length_eq_zero_iff.1 hz
    subst this
    simp [madeCells]
  by_cases hk : k < n * z.length
  · have hd : k / z.length < n := Nat.div_lt_of_lt_mul (by rw [Nat.mul_comm]; exact hk)
    have hm : k % z.length < z.length := Nat.mod_lt _ (by omega)
    have e := flat_get (fun _ : Unit => z) z.length (fun _ => rfl) (List.replicate n ()) (k / z.length) (k % z.length) () (by simp [hd]) hm
    rw [Nat.mul_comm (k / z.length), Nat.div_add_mod] at e
    rw [e]
    simp [madeCells, hk, hm, List.getElem?_eq_getElem]
  · rw [List.getElem?_eq_none (by simp [madeCells]; omega), List.getElem?_eq_none (by rw [flat_length _ z.length (fun _ => rfl)]; simp; omega)]

/-! ### Slices that are ours, wherever they begin -/
theorem setAt_form (l vs : List Value) (o : Nat) (h : o + vs.length ≤ l.length) : setAt l o vs = l.take o ++ (vs ++ l.drop (o + vs.length)) := by
  have e1 : l = l.take o ++ l.drop o := (List.take_append_drop o l).symm
  have e2 : l.drop o = (l.drop o).take vs.length ++ (l.drop o).drop vs.length := (List.take_append_drop _ _).symm
  have ho : (l.take o).length = o := by rw [List.length_take]; omega
  have r := setAt_right vs (l.take o) (l.drop o) 0
  rw [ho, Nat.add_zero, ← e1] at r
  rw [r]
  congr 1
  rw [e2, setAt_left vs _ _ (by rw [List.length_take, List.length_drop]; omega), List.drop_drop]
theorem Blk.setCells {b : Nat} {T : TypeId} (vs : List Value) : ∀ {w : World} {cs : List Value} (o : Nat), Blk w b T cs → Blk (w.setCells b o vs) b T (setAt cs o vs) := by
  induction vs with
  | nil => intro w cs o h; exact h
  | cons v vs ih => intro w cs o h; exact ih (o + 1) (h.set o v)
theorem Blk.setCells_other {b c : Nat} {T : TypeId} (vs : List Value) (hne : c ≠ b) : ∀ {w : World} {cs : List Value} (o : Nat), Blk w b T cs → Blk (w.setCells c o vs) b T cs := by
  induction vs with
  | nil => intro w cs o h; exact h
  | cons v vs ih => intro w cs o h; exact ih (o + 1) (h.other v hne)
theorem Mod.setCells {B : List Nat} {a : World} {b : Nat} (vs : List Value) (hb : b ∈ B ∨ a.heap.size ≤ b) : ∀ {w : World} (o : Nat), Mod B a w → Mod B a (w.setCells b o vs) := by
  induction vs with
  | nil => intro w o h; exact h
  | cons v vs ih => intro w o h; exact ih (o + 1) (h.setCell v hb)

/-- The value v is a slice of n elements of type T (m cells each) with the cells xs; ob: in which block. -/
def Sl (w : World) (T : TypeId) (m : Nat) (v : Value) (n : Nat) (xs : List Value) (ob : Option Nat) : Prop :=
  xs.length = n * m ∧ ((v = .slice none 0 0 ∧ n = 0 ∧ ob = none) ∨
    ∃ g off cap all, ob = some g ∧ v = .slice (some ⟨g, off, none⟩) n cap ∧ Blk w g T all ∧ n ≤ cap ∧ off + cap * m ≤ all.length ∧ (all.drop off).take (n * m) = xs)
theorem Sl.nil (w : World) (T : TypeId) (m : Nat) : Sl w T m (.slice none 0 0) 0 [] none := ⟨by simp, .inl ⟨rfl, rfl, rfl⟩⟩
theorem Sl.mod {w w' : World} {T : TypeId} {m : Nat} {v : Value} {n : Nat} {xs : List Value} {ob : Option Nat} {B : List Nat} (h : Sl w T m v n xs ob) (hm : Mod B w w') (hb : ∀ g, ob = some g → g ∉ B) : Sl w' T m v n xs ob := by
  refine ⟨h.1, ?_⟩
  rcases h.2 with h2 | ⟨g, off, cap, all, h1, h2, h3, h4⟩
  · exact .inl h2
  · exact .inr ⟨g, off, cap, all, h1, h2, h3.mod hm (hb g h1), h4⟩
theorem Sl.alloc {w : World} {T : TypeId} {m : Nat} {v : Value} {n : Nat} {xs : List Value} {ob : Option Nat} (h : Sl w T m v n xs ob) (o : Obj) : Sl (w.alloc o) T m v n xs ob := h.mod (B := []) ((Mod.refl _ _).alloc o) (by simp)
theorem Sl.drew {w : World} {T : TypeId} {m : Nat} {v : Value} {n : Nat} {xs : List Value} {ob : Option Nat} (h : Sl w T m v n xs ob) : Sl w.drew T m v n xs ob := h
theorem Sl.drewN {w : World} {T : TypeId} {m : Nat} {v : Value} {n : Nat} {xs : List Value} {ob : Option Nat} (h : Sl w T m v n xs ob) (k : Nat) : Sl (w.drewN k) T m v n xs ob := h
theorem Blk.new' {w : World} {T : TypeId} {cs : List Value} {b : Nat} (h : b = w.heap.size) : Blk (w.alloc (.cells cs.toArray T (0, 0))) b T cs := by
  subst h; exact Blk.new w T cs.toArray
theorem Blk.news {W : World} {B : Nat} {T : TypeId} {cs : List Value} (h : Blk W B T cs) : ∀ j u, cs[j]? = some u → W.cell? ((⟨B, 0, none⟩ : Addr).add j) = some u := fun j u hu => by
  have hadd : (⟨B, 0, none⟩ : Addr).add j = ⟨B, j, none⟩ := by unfold Addr.add; split <;> simp_all
  rw [hadd, h.cell, hu]
theorem Sl.lt {w : World} {T : TypeId} {m : Nat} {v : Value} {n : Nat} {xs : List Value} {ob : Option Nat} (h : Sl w T m v n xs ob) : ∀ g, ob = some g → g < w.heap.size := by
  intro g hg
  rcases h.2 with h2 | ⟨g', off, cap, all, h1, h2, h3, h4⟩
  · rw [h2.2.2] at hg; cases hg
  · rw [h1] at hg; injection hg with hg; subst hg; exact h3.lt
theorem Sl.form {w : World} {T : TypeId} {m : Nat} {v : Value} {n : Nat} {xs : List Value} {ob : Option Nat} (h : Sl w T m v n xs ob) : ∃ ao cap, v = .slice ao n cap ∧ n ≤ cap ∧ (0 < n → ∃ g off, ao = some ⟨g, off, none⟩ ∧ ob = some g) := by
  rcases h.2 with ⟨rfl, rfl, _⟩ | ⟨g, off, cap, all, h1, rfl, h3, h4, _⟩
  · exact ⟨none, 0, rfl, Nat.le_refl _, fun h => by omega⟩
  · exact ⟨_, cap, rfl, h4, fun _ => ⟨g, off, rfl, h1⟩⟩
theorem Sl.cell {w : World} {T : TypeId} {m : Nat} {n : Nat} {xs : List Value} {ob : Option Nat} {g off cap : Nat} (h : Sl w T m (.slice (some ⟨g, off, none⟩) n cap) n xs ob) (k : Nat) (hk : k < n * m) : w.cell? ⟨g, off + k, none⟩ = xs[k]? := by
  rcases h.2 with ⟨hx, _⟩ | ⟨g', off', cap', all, h1, hx, h3, h4, h5, h6⟩
  · cases hx
  · simp only [Value.slice.injEq, Option.some.injEq, Addr.mk.injEq] at hx
    obtain ⟨⟨rfl, rfl, _⟩, _, rfl⟩ := hx
    rw [h3.cell, ← h6, List.getElem?_take, if_pos hk, List.getElem?_drop]

section
variable {P : Program}
/-- append of m elements that lie in memory to a slice of ours. -/
theorem run_append_sl (w : World) (t ty e : TypeId) (i : TypeInfo) (z : Value) (size bytes : Nat) (ht : P.underlying t = some (.slice e)) (hi : P.info? e = some i) (hz : i.zero = some z)
    (hsize : i.size = size) (hby : i.bytes = bytes) (hzs : z.cells.size = size) (hsz : 0 < size)
    (v : Value) (n : Nat) (xs : List Value) (ob : Option Nat) (hown : Sl w e size v n xs ob)
    (ad : Addr) (m c : Nat) (news : List Value) (hl : news.length = m * size) (hnews : ∀ j u, news[j]? = some u → w.cell? (ad.add j) = some u) (h1 : ∀ u ∈ news, u.oneCell' = true)
    (hm : 0 < m) (h63 : n + m ≤ 9223372036854775807) (hbytes : (n + m) * bytes ≤ 140737488355328) :
    ∃ g off cap w', (Builtin.append_ #[t, t] ty #[v, .slice (some ad) m c]).run P w = .ok (.slice (some ⟨g, off, none⟩) (n + m) cap) w' ∧
      Sl w' e size (.slice (some ⟨g, off, none⟩) (n + m) cap) (n + m) (xs ++ news) (some g) ∧ Mod ob.toList w w' ∧ (ob = some g ∨ g = w.heap.size) ∧ g < w'.heap.size := by
  subst hsize hby
  have hxl := hown.1
  have hlen : (xs ++ news).length = (n + m) * i.size := by rw [List.length_append, hxl, hl, Nat.add_mul]
  -- a new row
  have new : ∀ (sc : Nat) (ws : List Value), Sl (w.drew.alloc (.cells ((xs ++ news).toArray ++ Builtin.zeroCells z.cells (grownCap w (n + m) sc e - (n + m))) e)) e i.size
      (.slice (some ⟨w.heap.size, 0, none⟩) (n + m) (grownCap w (n + m) sc e)) (n + m) (xs ++ news) (some w.heap.size) := by
    intro sc ws
    have hge := grownCap_ge w (n + m) sc e
    refine ⟨hlen, .inr ⟨_, 0, _, _, rfl, rfl, Blk.new w.drew e _, hge, ?_, ?_⟩⟩
    · simp only [Array.length_toList, Array.size_append, List.size_toArray, size_zeroCells, hzs, hlen, Nat.zero_add, ← Nat.add_mul]
      exact Nat.le_of_eq (by congr 1; omega)
    · simp only [Array.toList_append, List.drop_zero]
      rw [← hlen]
      exact List.take_left
  have modNew : ∀ o, Mod ob.toList w (w.drew.alloc o) := fun o => ((Mod.refl _ _).drew).alloc o
  rcases hown.2 with ⟨rfl, rfl, rfl⟩ | ⟨g, off, cap, all, rfl, rfl, hb, hcap, hoff, htake⟩
  · have hx0 : xs = [] := List.length_eq_zero_iff.1 (by simpa using hxl)
    subst hx0
    have hr := run_append_nil (P := P) w t ty e i z ht hi hz ad m c news hl hnews hm (by omega) (by simp only [Nat.zero_add] at hbytes; omega)
    have hn := new 0 []
    simp only [Nat.zero_add, List.nil_append] at hn ⊢
    exact ⟨_, _, _, _, hr, hn, modNew _, .inr rfl, by simp⟩
  · by_cases hroom : n + m ≤ cap
    · have hin : off + n * i.size + news.length ≤ all.length := by
        have : (n + m) * i.size ≤ cap * i.size := Nat.mul_le_mul_right _ hroom
        rw [Nat.add_mul] at this
        omega
      have hr := run_append_room_cells (P := P) w t ty e i ht hi g off n cap ad m c news hl hnews h1 hroom
        (fun j hj => by rw [hb.cell, List.getElem?_eq_getElem (by omega)]; rfl) (fun j hj => hb.frozen _)
      refine ⟨_, _, _, _, hr, ⟨hlen, .inr ⟨_, off, cap, _, rfl, rfl, hb.setCells news _, hroom, by rw [setAt_length]; exact hoff, ?_⟩⟩, Mod.setCells news (by simp) _ (Mod.refl _ _), .inl rfl, (hb.setCells news _).lt⟩
      rw [setAt_form _ _ _ hin, ← List.append_assoc, Nat.add_mul, ← hl, ← htake]
      have hn2 : n * i.size ≤ (all.drop off).length := by rw [List.length_drop]; omega
      have e1 : (all.take (off + n * i.size)).drop off = (all.drop off).take (n * i.size) := by rw [List.drop_take]; congr 1; omega
      rw [List.append_assoc, List.drop_append_of_le_length (by rw [List.length_take]; omega), e1, ← List.append_assoc]
      have e2 : ((all.drop off).take (n * i.size) ++ news).length = n * i.size + news.length := by rw [List.length_append, List.length_take]; omega
      rw [← e2, List.take_left]
    · have hr := run_append_grow (P := P) w t ty e i z ht hi hz ⟨g, off, none⟩ n cap xs hxl (fun j u hj => ?_) ad m c news hl hnews (by omega) (by omega) (growslice_fits (by omega) hbytes)
      · have hn := new cap []
        have ea : xs.toArray ++ news.toArray = (xs ++ news).toArray := by simp
        rw [ea] at hr
        exact ⟨_, _, _, _, hr, hn, modNew _, .inr rfl, by simp⟩
      · rw [← htake] at hj
        have hjl : j < n * i.size := by
          rcases Nat.lt_or_ge j (n * i.size) with h | h
          · exact h
          · rw [List.getElem?_take, if_neg (by omega)] at hj; cases hj
        rw [List.getElem?_take, if_pos hjl, List.getElem?_drop] at hj
        have ead : (⟨g, off, none⟩ : Addr).add j = ⟨g, off + j, none⟩ := by
          unfold Addr.add; split
          · rename_i h; subst h; rfl
          · rfl
        rw [ead, hb.cell, hj]
/-- At the operation. -/
theorem wp_append_sl {o : Oper} {a : Act} {w : World} {K : Act → World → Prop} {Q : Exit → Act → World → Prop} (s x : Operand) (t : TypeId)
    (ho : o.op = .call { callee := .builtin .append, args := #[s, x], argTypes := #[t, t] })
    (e : TypeId) (i : TypeInfo) (z : Value) (size bytes : Nat) (ht : P.underlying t = some (.slice e)) (hi : P.info? e = some i) (hz : i.zero = some z)
    (hsize : i.size = size) (hby : i.bytes = bytes) (hzs : z.cells.size = size) (hsz : 0 < size)
    (v : Value) (n : Nat) (xs : List Value) (ob : Option Nat) (hs : a.eval s = v) (hown : Sl w e size v n xs ob)
    (ad : Addr) (m c : Nat) (news : List Value) (hx : a.eval x = .slice (some ad) m c) (hl : news.length = m * size) (hnews : ∀ j u, news[j]? = some u → w.cell? (ad.add j) = some u) (h1 : ∀ u ∈ news, u.oneCell' = true)
    (hm : 0 < m) (h63 : n + m ≤ 9223372036854775807) (hbytes : (n + m) * bytes ≤ 140737488355328)
    (h : ∀ g off cap w', Sl w' e size (.slice (some ⟨g, off, none⟩) (n + m) cap) (n + m) (xs ++ news) (some g) → Mod ob.toList w w' → (ob = some g ∨ g = w.heap.size) → g < w'.heap.size → K (a.put o.dst (.slice (some ⟨g, off, none⟩) (n + m) cap)) w') : o.wp P a w K Q := by
  obtain ⟨g, off, cap, w', hr, h2, h3, h4, h5⟩ := run_append_sl (P := P) w t o.type e i z size bytes ht hi hz hsize hby hzs hsz v n xs ob hown ad m c news hl hnews h1 hm h63 hbytes
  unfold Oper.wp execOp
  simp only [ho, resolve, invoke, builtin, Sem.run_bind, Sem.run_pure, Result.andThen_ok, List.map_toArray, List.map_cons, List.map_nil, hs, hx, hr]
  exact h g off cap w' h2 h3 h4 h5
theorem wpList_append_sl {ops : Array Oper} {rest : List Oper} {o : Oper} {a : Act} {w : World} {Q : Exit → Act → World → Prop} (hgd : o.guard = none) (s x : Operand) (t : TypeId)
    (ho : o.op = .call { callee := .builtin .append, args := #[s, x], argTypes := #[t, t] })
    (e : TypeId) (i : TypeInfo) (z : Value) (size bytes : Nat) (ht : P.underlying t = some (.slice e)) (hi : P.info? e = some i) (hz : i.zero = some z)
    (hsize : i.size = size) (hby : i.bytes = bytes) (hzs : z.cells.size = size) (hsz : 0 < size)
    (v : Value) (n : Nat) (xs : List Value) (ob : Option Nat) (hs : a.eval s = v) (hown : Sl w e size v n xs ob)
    (ad : Addr) (m c : Nat) (news : List Value) (hx : a.eval x = .slice (some ad) m c) (hl : news.length = m * size) (hnews : ∀ j u, news[j]? = some u → w.cell? (ad.add j) = some u) (h1 : ∀ u ∈ news, u.oneCell' = true)
    (hm : 0 < m) (h63 : n + m ≤ 9223372036854775807) (hbytes : (n + m) * bytes ≤ 140737488355328)
    (h : ∀ g off cap w', Sl w' e size (.slice (some ⟨g, off, none⟩) (n + m) cap) (n + m) (xs ++ news) (some g) → Mod ob.toList w w' → (ob = some g ∨ g = w.heap.size) → g < w'.heap.size → wpList P ops Q rest (a.put o.dst (.slice (some ⟨g, off, none⟩) (n + m) cap)) w') : wpList P ops Q (o :: rest) a w :=
  wpList_plain hgd fun _ hK => wp_append_sl s x t ho e i z size bytes ht hi hz hsize hby hzs hsz v n xs ob hs hown ad m c news hx hl hnews h1 hm h63 hbytes fun g off cap w' h2 h3 h4 h5 => hK _ _ (h g off cap w' h2 h3 h4 h5)
/-- At a step of a region that draws its order. -/
theorem step_append_sl {ops : Array Oper} {o : Oper} {a : Act} {w : World} {K : Act → World → Prop} {Q : Exit → Act → World → Prop} {E : Prop} (hgd : o.guard = none) (s x : Operand) (t : TypeId)
    (ho : o.op = .call { callee := .builtin .append, args := #[s, x], argTypes := #[t, t] })
    (e : TypeId) (i : TypeInfo) (z : Value) (size bytes : Nat) (ht : P.underlying t = some (.slice e)) (hi : P.info? e = some i) (hz : i.zero = some z)
    (hsize : i.size = size) (hby : i.bytes = bytes) (hzs : z.cells.size = size) (hsz : 0 < size)
    (v : Value) (n : Nat) (xs : List Value) (ob : Option Nat) (hs : a.eval s = v) (hown : Sl w e size v n xs ob)
    (ad : Addr) (m c : Nat) (news : List Value) (hx : a.eval x = .slice (some ad) m c) (hl : news.length = m * size) (hnews : ∀ j u, news[j]? = some u → w.cell? (ad.add j) = some u) (h1 : ∀ u ∈ news, u.oneCell' = true)
    (hm : 0 < m) (h63 : n + m ≤ 9223372036854775807) (hbytes : (n + m) * bytes ≤ 140737488355328)
    (h : ∀ g off cap w', Sl w' e size (.slice (some ⟨g, off, none⟩) (n + m) cap) (n + m) (xs ++ news) (some g) → Mod ob.toList w w' → (ob = some g ∨ g = w.heap.size) → g < w'.heap.size → K (a.put o.dst (.slice (some ⟨g, off, none⟩) (n + m) cap)) w') :
    if Region.wanted o (yielded ops a.tmps) = true then Oper.wp P o a w K Q else E := by
  have hw : Region.wanted o (yielded ops a.tmps) = true := by simp [Region.wanted, hgd]
  rw [if_pos hw]
  exact wp_append_sl s x t ho e i z size bytes ht hi hz hsize hby hzs hsz v n xs ob hs hown ad m c news hx hl hnews h1 hm h63 hbytes h
end

end Go.Proofs.Ytedmikeamgebjaa
