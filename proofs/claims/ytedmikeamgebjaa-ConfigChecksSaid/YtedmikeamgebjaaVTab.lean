/- verify: the table of what is ahead of each instruction. -/
import Derived.Test.YtedmikeamgebjaaVLead
set_option linter.unusedVariables false
set_option linter.unusedSimpArgs false
namespace Go.Proofs.Ytedmikeamgebjaa
open Go.RowKit

def ptrV : Option Nat → Value
  | none => .pointer none
  | some b => .pointer (some ⟨b, 0, none⟩)
/-- What lies at a pointer of the table. -/
def AhAt (w : World) (b : Nat) (a : Ah) : Prop := ∃ ao n c, Blk w b 102 [.int .i64 a.kind, .slice ao n c] ∧ BSl w (.slice ao n c) a.opn ∧ a.opn.length = n ∧ n ≤ 8
structure TabAt (w : World) (tb : Nat) (t : Tab) (ps : List (Option Nat)) : Prop where
  blk : Blk w tb 99 (ps.map ptrV)
  len : ps.length = t.length
  non : ∀ j : Nat, t[j]? = some none → ps[j]? = some none
  som : ∀ (j : Nat) a, t[j]? = some (some a) → ∃ b, ps[j]? = some (some b) ∧ AhAt w b a
  inj : ∀ (j k b : Nat), ps[j]? = some (some b) → ps[k]? = some (some b) → j = k
def tfoot (tb : Nat) (ps : List (Option Nat)) : List Nat := tb :: ps.filterMap id
theorem mem_tfoot {tb : Nat} {ps : List (Option Nat)} {x : Nat} : x ∈ tfoot tb ps ↔ x = tb ∨ ∃ j : Nat, ps[j]? = some (some x) := by
  unfold tfoot
  rw [List.mem_cons, List.mem_filterMap]
  constructor
  · rintro (h | ⟨a, hj, he⟩)
    · exact .inl h
    · simp only [id_eq] at he
      subst he
      obtain ⟨j, hj⟩ := List.mem_iff_getElem?.1 hj
      exact .inr ⟨j, hj⟩
  · rintro (h | ⟨j, hj⟩)
    · exact .inl h
    · exact .inr ⟨_, List.mem_iff_getElem?.2 ⟨j, hj⟩, rfl⟩

theorem Blk.types {w : World} {b : Nat} {T T' : TypeId} {cs cs' : List Value} (h : Blk w b T cs) (h' : Blk w b T' cs') : T = T' := by
  unfold Blk at h h'
  rw [h] at h'
  simp at h'
  exact h'.2
theorem AhAt.stay {w w' : World} {b : Nat} {a : Ah} {B : List Nat} (h : AhAt w b a) (m : Mod B w w') (hb : b ∉ B) (hB : ∀ x ∈ B, ∃ T cs, Blk w x T cs ∧ T ≠ 122) : AhAt w' b a := by
  obtain ⟨ao, n, c, h1, h2, h3, h4⟩ := h
  exact ⟨ao, n, c, h1.mod m hb, h2.far m hB, h3, h4⟩
theorem AhAt.keep {w w' : World} {b : Nat} {a : Ah} (h : AhAt w b a) (m : Mod [] w w') : AhAt w' b a := h.stay m (by simp) (by simp)
theorem AhAt.ne {w : World} {b tb : Nat} {a : Ah} {cs : List Value} (h : AhAt w b a) (ht : Blk w tb 99 cs) : b ≠ tb := by
  rintro rfl
  obtain ⟨ao, n, c, h1, _⟩ := h
  exact absurd (h1.types ht) (by decide)
theorem TabAt.keep {w w' : World} {tb : Nat} {t : Tab} {ps : List (Option Nat)} (h : TabAt w tb t ps) (m : Mod [] w w') : TabAt w' tb t ps :=
  ⟨h.blk.mod m (by simp), h.len, h.non, fun j a hj => (h.som j a hj).imp fun b hb => ⟨hb.1, hb.2.keep m⟩, h.inj⟩
theorem TabAt.ptr {w : World} {tb : Nat} {t : Tab} {ps : List (Option Nat)} (h : TabAt w tb t ps) {j b : Nat} (hj : ps[j]? = some (some b)) : ∃ a, t[j]? = some (some a) ∧ AhAt w b a := by
  have hjl : j < t.length := by rw [← h.len]; exact (List.getElem?_eq_some_iff.1 hj).1
  obtain ⟨x, hx⟩ : ∃ x, t[j]? = some x := ⟨_, List.getElem?_eq_getElem hjl⟩
  cases x with
  | none => rw [h.non j hx] at hj; cases hj
  | some a =>
    obtain ⟨b', hb', ha⟩ := h.som j a hx
    rw [hb'] at hj
    simp at hj
    subst hj
    exact ⟨a, hx, ha⟩
/-- A new pointer where there was none. -/
theorem TabAt.put {w w' : World} {tb : Nat} {t : Tab} {ps : List (Option Nat)} {to nb : Nat} {a : Ah} (h : TabAt w tb t ps) (hto : t[to]? = some none) (hm : Mod [tb] w w') (hb : Blk w' tb 99 ((ps.set to (some nb)).map ptrV)) (hn : AhAt w' nb a) (hnew : w.heap.size ≤ nb) :
    TabAt w' tb (t.set to (some a)) (ps.set to (some nb)) := by
  have hlt : to < t.length := (List.getElem?_eq_some_iff.1 hto).1
  have fresh : ∀ j : Nat, ps[j]? ≠ some (some nb) := by
    intro j hj
    obtain ⟨a', _, ao, n, c, h1, _⟩ := h.ptr hj
    have := h1.lt
    omega
  refine ⟨hb, by simp [h.len], ?_, ?_, ?_⟩
  · intro j hj
    by_cases e : to = j
    · subst e
      rw [List.getElem?_set_self hlt] at hj
      simp at hj
    · rw [List.getElem?_set_ne e] at hj ⊢
      exact h.non j hj
  · intro j a' hj
    by_cases e : to = j
    · subst e
      rw [List.getElem?_set_self hlt] at hj
      simp at hj
      subst hj
      exact ⟨nb, List.getElem?_set_self (by rw [h.len]; exact hlt), hn⟩
    · rw [List.getElem?_set_ne e] at hj
      obtain ⟨b, hb1, hb2⟩ := h.som j a' hj
      refine ⟨b, by rw [List.getElem?_set_ne e]; exact hb1, hb2.stay hm (by simp; exact hb2.ne h.blk) ?_⟩
      intro x hx
      simp at hx; subst hx
      exact ⟨99, _, h.blk, by decide⟩
  · intro j k b hj hk
    by_cases e : to = j
    · by_cases e2 : to = k
      · omega
      · subst e
        rw [List.getElem?_set_self (by rw [h.len]; exact hlt)] at hj
        rw [List.getElem?_set_ne e2] at hk
        simp at hj
        subst hj
        exact absurd hk (fresh k)
    · by_cases e2 : to = k
      · subst e2
        rw [List.getElem?_set_self (by rw [h.len]; exact hlt)] at hk
        rw [List.getElem?_set_ne e] at hj
        simp at hk
        subst hk
        exact absurd hj (fresh j)
      · rw [List.getElem?_set_ne e] at hj
        rw [List.getElem?_set_ne e2] at hk
        exact h.inj j k b hj hk
/-- What lies at a pointer turns. -/
theorem TabAt.turn {w w' : World} {tb : Nat} {t : Tab} {ps : List (Option Nat)} {to b : Nat} {a a' : Ah} (h : TabAt w tb t ps) (hto : t[to]? = some (some a)) (hp : ps[to]? = some (some b)) (hm : Mod [b] w w') (hn : AhAt w' b a') :
    TabAt w' tb (t.set to (some a')) ps := by
  have hlt : to < t.length := (List.getElem?_eq_some_iff.1 hto).1
  obtain ⟨_, _, ha⟩ := h.ptr hp
  refine ⟨h.blk.mod hm (by simp; exact fun e => ha.ne h.blk e.symm), by simp [h.len], ?_, ?_, h.inj⟩
  · intro j hj
    by_cases e : to = j
    · subst e
      rw [List.getElem?_set_self hlt] at hj
      simp at hj
    · rw [List.getElem?_set_ne e] at hj
      exact h.non j hj
  · intro j x hj
    by_cases e : to = j
    · subst e
      rw [List.getElem?_set_self hlt] at hj
      simp at hj
      subst hj
      exact ⟨b, hp, hn⟩
    · rw [List.getElem?_set_ne e] at hj
      obtain ⟨b', h1, h2⟩ := h.som j x hj
      have hne : b' ≠ b := by rintro rfl; exact e (h.inj _ _ _ hp h1)
      refine ⟨b', h1, h2.stay hm (by simpa using hne) ?_⟩
      intro y hy
      simp at hy; subst hy
      obtain ⟨ao, n, c, h3, _⟩ := ha
      exact ⟨102, _, h3, by decide⟩
/-- What the call of 'lead' answers. -/
def LeadQ (tb : Nat) (t : Tab) (ps : List (Option Nat)) (to : Nat) (a : Ah) (w : World) (e : Ending) (w' : World) : Prop :=
  e = .returned (.bool (leadB t to a)) ∧ ∃ ps', TabAt w' tb (leadT t to a) ps' ∧ (∀ (j b : Nat), ps'[j]? = some (some b) → ps[j]? = some (some b) ∨ w.heap.size ≤ b) ∧ Mod (tfoot tb ps) w w'

set_option maxRecDepth 100000 in
set_option maxHeartbeats 1600000 in
theorem v_lead_none (tb : Nat) (t : Tab) (ps : List (Option Nat)) (to : Nat) (a : Ah) (ao : Option Addr) (n c nn : Nat) (w : World) (h : TabAt w tb t ps) (hnn : t.length = nn) (hto : t[to]? = some none) (hb : BSl w (.slice ao n c) a.opn) (hn : a.opn.length = n) (hd : n ≤ 8) (h63 : nn ≤ 300) :
    Calls Try.prog 64 #[.slice (some ⟨tb, 0, none⟩) nn nn, .int .i64 (to : Int), .agg #[.int .i64 a.kind, .slice ao n c]] w (LeadQ tb t ps to a w) := by
  have hlt : to < nn := by rw [← hnn]; exact (List.getElem?_eq_some_iff.1 hto).1
  have hq : w.cell? ⟨tb, to, none⟩ = some (.pointer none) := by rw [h.blk.cell, List.getElem?_map, h.non to hto]; rfl
  have fq := h.blk.frozen
  have htl := h.blk.lt
  have H := Lib.hid (And.intro h (And.intro hto (And.intro hb (And.intro hn hd))))
  have e1 : leadB t to a = true := by simp [leadB, hto]
  have e2 : leadT t to a = t.set to (some a) := by simp [leadT, hto]
  unfold LeadQ
  rw [e1, e2]
  have hi0 : (0 : Int) ≤ (to : Int) := by omega
  have hi1 : (to : Int) < (nn : Int) := by omega
  clear h hto hb hn hd e1 e2
  go_enter Try.func64, Try.ntmps64
  go_wp2_with (fail)
  go_ret
  refine ⟨rfl, ps.set to (some w.heap.size), ?_, ?_, ?_⟩
  · refine H.out.1.put H.out.2.1 ?_ ?_ ⟨ao, n, c, ?_, ?_, H.out.2.2.2.1, H.out.2.2.2.2⟩ (Nat.le_refl _)
    · repeat (with_reducible first | exact Mod.refl _ _ | refine Mod.drew ?_ | refine Mod.drewN ?_ _ | refine Mod.setCell ?_ _ (by simp) | refine Mod.alloc ?_ _ | refine Mod.trans ?_ (by assumption))
    · apply Blk.eq
      · repeat (with_reducible first | exact H.out.1.blk | apply Blk.drew | apply Blk.drewN | apply Blk.set | apply Blk.alloc)
      · rw [List.map_set]; rfl
    · exact Blk.new' (by simp)
    · refine H.out.2.2.1.far (B := [tb]) ?_ ?_
      · repeat (with_reducible first | exact Mod.refl _ _ | refine Mod.drew ?_ | refine Mod.drewN ?_ _ | refine Mod.setCell ?_ _ (by simp) | refine Mod.alloc ?_ _ | refine Mod.trans ?_ (by assumption))
      · intro x hx
        simp at hx; subst hx
        exact ⟨99, _, H.out.1.blk, by decide⟩
  · intro j b hj
    by_cases e : to = j
    · subst e
      rw [List.getElem?_set] at hj
      simp at hj
      exact .inr (by omega)
    · rw [List.getElem?_set_ne e] at hj
      exact .inl hj
  · repeat (with_reducible first | exact Mod.refl _ _ | refine Mod.drew ?_ | refine Mod.drewN ?_ _ | refine Mod.setCell ?_ _ (by simp [tfoot]) | refine Mod.alloc ?_ _ | refine Mod.trans ?_ (by assumption))
set_option maxRecDepth 100000 in
set_option maxHeartbeats 1600000 in
theorem v_lead_some (tb : Nat) (t : Tab) (ps : List (Option Nat)) (to : Nat) (a z : Ah) (ao : Option Addr) (n c nn : Nat) (w : World) (h : TabAt w tb t ps) (hnn : t.length = nn) (hto : t[to]? = some (some z)) (hb : BSl w (.slice ao n c) a.opn) (hn : a.opn.length = n) (hd : n ≤ 8) (h63 : nn ≤ 300) :
    Calls Try.prog 64 #[.slice (some ⟨tb, 0, none⟩) nn nn, .int .i64 (to : Int), .agg #[.int .i64 a.kind, .slice ao n c]] w (LeadQ tb t ps to a w) := by
  have hlt : to < nn := by rw [← hnn]; exact (List.getElem?_eq_some_iff.1 hto).1
  obtain ⟨b, hpb, ao1, n1, c1, hbb, hbs, hbn, hb8⟩ := h.som to z hto
  have hq : w.cell? ⟨tb, to, none⟩ = some (.pointer (some ⟨b, 0, none⟩)) := by rw [h.blk.cell, List.getElem?_map, hpb]; rfl
  have fq := h.blk.frozen
  have qb := hbb.cell
  have fb := hbb.frozen
  have hbl := hbb.lt
  have htl := h.blk.lt
  have H := Lib.hid (And.intro h (And.intro hto (And.intro hb (And.intro hn (And.intro hd (And.intro hpb (And.intro hbb (And.intro hbs (And.intro hbn hb8)))))))))
  have e1 : leadB t to a = decide (z.opn = a.opn) := by simp [leadB, hto]
  have e2 : leadT t to a = t.set to (some ⟨if z.kind = a.kind then z.kind else 0, z.opn⟩) := by simp [leadT, hto]
  unfold LeadQ
  rw [e1, e2]
  have hi0 : (0 : Int) ≤ (to : Int) := by omega
  have hi1 : (to : Int) < (nn : Int) := by omega
  have hfoot : b ∈ tfoot tb ps := mem_tfoot.2 (.inr ⟨to, hpb⟩)
  clear h hto hb hn hd e1 e2 hpb hbb hbs hbn
  by_cases hk : z.kind = a.kind
  · rw [if_pos hk]
    have hk' : (z.kind != a.kind) = false := by simp [hk]
    have HK := Lib.hid hk
    clear hk
    go_enter Try.func64, Try.ntmps64
    go_wp2_with (fail)
    go_quiet (fail)
    go_wp2_with (fail)
    generalize hW : (w.alloc (Obj.cells #[.int .i64 a.kind, .slice ao n c] 102)).drewN nq = W
    have hM : Mod [] w W := by rw [← hW]; repeat (with_reducible first | exact Mod.refl _ _ | refine Mod.drew ?_ | refine Mod.drewN ?_ _ | refine Mod.setCell ?_ _ (by first | (simp; done) | (simp; omega)) | refine Mod.alloc ?_ _ | refine Mod.trans ?_ (by assumption))
    have hB1 := H.out.2.2.2.2.2.2.1.mod hM (by simp)
    have hB2 : Blk W w.heap.size 102 [.int .i64 a.kind, .slice ao n c] := by rw [← hW]; apply Blk.drewN; exact Blk.new' rfl
    have q1 := hB1.cell
    have q2 := hB2.cell
    have HB := Lib.hid (And.intro (H.out.2.2.2.2.2.2.2.1.keep hM) (H.out.2.2.1.keep hM))
    clear hW hB1 hB2
    go_quiet ((go_at_call 88; exact Calls.quiet_of (v_equal _ _ _ _ _ _ z.opn a.opn _ (HB.out.1.keep (by repeat (with_reducible first | exact Mod.refl _ _ | refine Mod.drew ?_ | refine Mod.drewN ?_ _ | refine Mod.setCell ?_ _ (by first | (simp; done) | (simp; omega)) | refine Mod.alloc ?_ _ | refine Mod.trans ?_ (by assumption)))) (HB.out.2.keep (by repeat (with_reducible first | exact Mod.refl _ _ | refine Mod.drew ?_ | refine Mod.drewN ?_ _ | refine Mod.setCell ?_ _ (by first | (simp; done) | (simp; omega)) | refine Mod.alloc ?_ _ | refine Mod.trans ?_ (by assumption)))) H.out.2.2.2.2.2.2.2.2.1 H.out.2.2.2.1 H.out.2.2.2.2.2.2.2.2.2)))
    go_wp2
    go_ret
    refine ⟨rfl, ps, ?_, fun j x hj => .inl hj, (hM.drewN _).mono (by simp)⟩
    have hset : t.set to (some ⟨z.kind, z.opn⟩) = t := by
      apply List.ext_getElem?
      intro j
      by_cases e : to = j
      · subst e
        rw [List.getElem?_set_self (by omega), H.out.2.1]
      · rw [List.getElem?_set_ne e]
    rw [hset]
    exact H.out.1.keep (hM.drewN _)
  · rw [if_neg hk]
    have hk' : (z.kind != a.kind) = true := by simp [hk]
    have HK := Lib.hid hk
    clear hk
    go_enter Try.func64, Try.ntmps64
    go_wp2_with (fail)
    go_quiet (fail)
    go_wp2_with (go_at_call 80; refine (v_with _ _ _ _ _ _).mono ?_; rintro e w1 ⟨rfl, hm1⟩; have hM := Mod.trans (B := []) (a := w) (by repeat (with_reducible first | exact Mod.refl _ _ | refine Mod.drew ?_ | refine Mod.drewN ?_ _ | refine Mod.setCell ?_ _ (by first | (simp; done) | (simp; omega)) | refine Mod.alloc ?_ _ | refine Mod.trans ?_ (by assumption))) hm1; have hB1 := H.out.2.2.2.2.2.2.1.mod hM (by simp); have q1 := hB1.cell; have f1 := hB1.frozen; have hB2 := Blk.mod (b := w.heap.size) (T := 102) (cs := [.int .i64 a.kind, .slice ao n c]) (by apply Blk.drewN; exact Blk.new' rfl) hm1 (by simp); have q2 := hB2.cell)
    generalize hW : (w1.setCell ⟨b, 0, none⟩ (.int .i64 0)).setCell ⟨b, 1, none⟩ (.slice ao1 n1 c1) = W
    have hMb : Mod [b] w W := by rw [← hW]; refine Mod.setCell (Mod.setCell (hM.mono (by simp)) _ (by simp)) _ (by simp)
    have hMb2 : Mod [b] w1 W := by rw [← hW]; refine Mod.setCell (Mod.setCell (Mod.refl _ _) _ (by simp)) _ (by simp)
    have hBW : Blk W b 102 [.int .i64 0, .slice ao1 n1 c1] := by rw [← hW]; exact (hB1.set 0 _).set 1 _
    have hB3 : Blk W w.heap.size 102 [.int .i64 a.kind, .slice ao n c] := hB2.mod hMb2 (by simp; omega)
    have hfar : ∀ x ∈ [b], ∃ T' cs, Blk w x T' cs ∧ T' ≠ 122 := by intro x hx; simp at hx; subst hx; exact ⟨102, _, H.out.2.2.2.2.2.2.1, by decide⟩
    have q3 := hBW.cell
    have q4 := hB3.cell
    have HB := Lib.hid (And.intro (H.out.2.2.2.2.2.2.2.1.far hMb hfar) (And.intro (H.out.2.2.1.far hMb hfar) hBW))
    clear hW q1 q2 hB1 hB2 f1 hm1 hM hMb2 hBW hB3 hfar
    go_quiet ((go_at_call 88; exact Calls.quiet_of (v_equal _ _ _ _ _ _ z.opn a.opn _ (HB.out.1.keep (by repeat (with_reducible first | exact Mod.refl _ _ | refine Mod.drew ?_ | refine Mod.drewN ?_ _ | refine Mod.setCell ?_ _ (by first | (simp; done) | (simp; omega)) | refine Mod.alloc ?_ _ | refine Mod.trans ?_ (by assumption)))) (HB.out.2.1.keep (by repeat (with_reducible first | exact Mod.refl _ _ | refine Mod.drew ?_ | refine Mod.drewN ?_ _ | refine Mod.setCell ?_ _ (by first | (simp; done) | (simp; omega)) | refine Mod.alloc ?_ _ | refine Mod.trans ?_ (by assumption)))) H.out.2.2.2.2.2.2.2.2.1 H.out.2.2.2.1 H.out.2.2.2.2.2.2.2.2.2)))
    go_wp2
    go_ret
    refine ⟨rfl, ps, ?_, fun j x hj => .inl hj, (hMb.drewN _).mono (by simp; exact hfoot)⟩
    refine H.out.1.turn H.out.2.1 H.out.2.2.2.2.2.1 (hMb.drewN _) ?_
    exact ⟨ao1, n1, c1, HB.out.2.2.drewN _, HB.out.1.keep ((Mod.refl _ _).drewN _), H.out.2.2.2.2.2.2.2.2.1, H.out.2.2.2.2.2.2.2.2.2⟩

theorem v_lead (tb : Nat) (t : Tab) (ps : List (Option Nat)) (to : Nat) (a : Ah) (ao : Option Addr) (n c nn : Nat) (w : World) (h : TabAt w tb t ps) (hnn : t.length = nn) (hto : to < nn) (hb : BSl w (.slice ao n c) a.opn) (hn : a.opn.length = n) (hd : n ≤ 8) (h63 : nn ≤ 300) :
    Calls Try.prog 64 #[.slice (some ⟨tb, 0, none⟩) nn nn, .int .i64 (to : Int), .agg #[.int .i64 a.kind, .slice ao n c]] w (LeadQ tb t ps to a w) := by
  obtain ⟨x, hx⟩ : ∃ x, t[to]? = some x := ⟨_, List.getElem?_eq_getElem (by rw [hnn]; exact hto)⟩
  cases x with
  | none => exact v_lead_none tb t ps to a ao n c nn w h hnn hx hb hn hd h63
  | some z => exact v_lead_some tb t ps to a z ao n c nn w h hnn hx hb hn hd h63
end Go.Proofs.Ytedmikeamgebjaa
