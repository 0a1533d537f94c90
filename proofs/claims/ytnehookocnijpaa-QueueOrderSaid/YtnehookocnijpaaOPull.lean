/- QueueOrder: two slices in an array; what pull does. -/
import Derived.Test.YtnehookocnijpaaQI
import Derived.Test.YtnehookocnijpaaSep
import Derived.Deep.RegionLawGrows
set_option linter.unusedVariables false
set_option linter.unusedSimpArgs false
namespace Go.Proofs.Ytnehookocnijpaa
open Go.RowKit

def ints (l : List Int) : List Value := l.map (Value.int .i64)
/-- Two slices of ints in an array of the call's own. -/
structure P2 (w : World) (B : Nat) (l0 l1 : List Int) (v0 v1 : Value) (o0 o1 : Option Nat) : Prop where
  b : Blk w B 47 [v0, v1]
  s0 : Sl w 3 1 v0 l0.length (ints l0) o0
  s1 : Sl w 3 1 v1 l1.length (ints l1) o1
  d0 : o0 ≠ some B
  d1 : o1 ≠ some B
  d01 : ∀ g, o0 = some g → o1 ≠ some g
def pfoot (B : Nat) (o0 o1 : Option Nat) : List Nat := B :: (o0.toList ++ o1.toList)
theorem P2.mod {w w' : World} {B : Nat} {l0 l1 : List Int} {v0 v1 : Value} {o0 o1 : Option Nat} {C : List Nat} (h : P2 w B l0 l1 v0 v1 o0 o1) (m : Mod C w w') (hb : ∀ x ∈ pfoot B o0 o1, x ∉ C) : P2 w' B l0 l1 v0 v1 o0 o1 :=
  ⟨h.b.mod m (hb B (by simp [pfoot])), h.s0.mod m fun g hg => hb g (by simp [pfoot, hg]), h.s1.mod m fun g hg => hb g (by simp [pfoot, hg]), h.d0, h.d1, h.d01⟩
theorem P2.lt {w : World} {B : Nat} {l0 l1 : List Int} {v0 v1 : Value} {o0 o1 : Option Nat} (h : P2 w B l0 l1 v0 v1 o0 o1) : ∀ x ∈ pfoot B o0 o1, x < w.heap.size := by
  intro x hx
  simp only [pfoot, List.mem_cons, List.mem_append, Option.mem_toList] at hx
  rcases hx with rfl | hx | hx
  · exact h.b.lt
  · exact h.s0.lt x hx
  · exact h.s1.lt x hx
def Res.p2 (B : Nat) (l0 l1 : List Int) (o0 o1 : Option Nat) : Res where
  foot := pfoot B o0 o1
  holds w := ∃ v0 v1, P2 w B l0 l1 v0 v1 o0 o1
  lt h := by obtain ⟨v0, v1, h⟩ := h; exact h.lt
  stable h m hb := by obtain ⟨v0, v1, h⟩ := h; exact ⟨v0, v1, h.mod m hb⟩
def Res.q (q c n : Nat) (a : AQ Int) : Res where
  foot := [q, c]
  holds w := ∃ s, QInt.QRep w q c n a s
  lt h x hx := by obtain ⟨s, h⟩ := h; simp at hx; rcases hx with rfl | rfl; exact h.at_.bq.lt; exact h.at_.bc.lt
  stable h m hb := by obtain ⟨s, h⟩ := h; exact ⟨s, h.modB m (hb _ (by simp)) (hb _ (by simp))⟩

theorem put_foot0 {w w1 : World} {B g : Nat} {l0 l1 : List Int} {v0 v1 v : Value} {o0 o1 : Option Nat} {x : Int} (h : P2 w B l0 l1 v0 v1 o0 o1) (hm : Mod o0.toList w w1)
    (hs : Sl w1 3 1 v (l0.length + 1) (ints l0 ++ [.int .i64 x]) (some g)) (hob : o0 = some g ∨ w.heap.size ≤ g) :
    ∃ p0, P2 (w1.setCell ⟨B, 0, none⟩ v) B (l0 ++ [x]) l1 v v1 p0 o1 ∧ (∀ y ∈ pfoot B p0 o1, y ∈ pfoot B o0 o1 ∨ w.heap.size ≤ y) ∧ Mod (pfoot B o0 o1) w (w1.setCell ⟨B, 0, none⟩ v) := by
  have hrl := h.b.lt
  have hgr : g ≠ B := by
    rcases hob with h1 | h1
    · intro e; exact h.d0 (by rw [h1, e])
    · omega
  have hb := h.b.mod hm (by simpa using h.d0)
  have hM : Mod [B] w1 (w1.setCell ⟨B, 0, none⟩ v) := (Mod.refl _ _).setCell _ (by simp)
  have hM2 : Mod (B :: o0.toList) w (w1.setCell ⟨B, 0, none⟩ v) := (hm.mono (by simp +contextual)).setCell _ (by simp)
  have h1 := hs.mod hM (by simp; exact hgr)
  have h2 := h.s1.mod hM2 (by intro g' hg' hin; simp at hin; rcases hin with rfl | hin; exact h.d1 hg'; exact h.d01 g' hin hg')
  refine ⟨some g, ⟨hb.set 0 v, by simpa [ints] using h1, h2, by simp; exact hgr, h.d1, ?_⟩, ?_, hM2.mono (by simp [pfoot]; exact fun x hx => Or.inr (Or.inl hx))⟩
  · intro g' hg' he
    simp at hg'; subst hg'
    rcases hob with h3 | h3
    · exact h.d01 g h3 he
    · have := h.s1.lt g he; omega
  · intro y hy
    simp only [pfoot, List.mem_cons, List.mem_append, Option.mem_toList] at hy ⊢
    rcases hy with hy | hy | hy
    · exact .inl (.inl hy)
    · simp at hy; subst hy
      rcases hob with h3 | h3
      · exact .inl (.inr (.inl h3))
      · exact .inr h3
    · exact .inl (.inr (.inr hy))
theorem put_foot1 {w w1 : World} {B g : Nat} {l0 l1 : List Int} {v0 v1 v : Value} {o0 o1 : Option Nat} {x : Int} (h : P2 w B l0 l1 v0 v1 o0 o1) (hm : Mod o1.toList w w1)
    (hs : Sl w1 3 1 v (l1.length + 1) (ints l1 ++ [.int .i64 x]) (some g)) (hob : o1 = some g ∨ w.heap.size ≤ g) :
    ∃ p1, P2 (w1.setCell ⟨B, 1, none⟩ v) B l0 (l1 ++ [x]) v0 v o0 p1 ∧ (∀ y ∈ pfoot B o0 p1, y ∈ pfoot B o0 o1 ∨ w.heap.size ≤ y) ∧ Mod (pfoot B o0 o1) w (w1.setCell ⟨B, 1, none⟩ v) := by
  have hrl := h.b.lt
  have hgr : g ≠ B := by
    rcases hob with h1 | h1
    · intro e; exact h.d1 (by rw [h1, e])
    · omega
  have hb := h.b.mod hm (by simpa using h.d1)
  have hM : Mod [B] w1 (w1.setCell ⟨B, 1, none⟩ v) := (Mod.refl _ _).setCell _ (by simp)
  have hM2 : Mod (B :: o1.toList) w (w1.setCell ⟨B, 1, none⟩ v) := (hm.mono (by simp +contextual)).setCell _ (by simp)
  have h1 := hs.mod hM (by simp; exact hgr)
  have h2 := h.s0.mod hM2 (by intro g' hg' hin; simp at hin; rcases hin with rfl | hin; exact h.d0 hg'; exact h.d01 g' hg' hin)
  refine ⟨some g, ⟨hb.set 1 v, h2, by simpa [ints] using h1, h.d0, by simp; exact hgr, ?_⟩, ?_, hM2.mono (by simp [pfoot]; exact fun x hx => Or.inr (Or.inr hx))⟩
  · intro g' hg' he
    simp at he; subst he
    rcases hob with h3 | h3
    · exact h.d01 g hg' h3
    · have := h.s0.lt g hg'; omega
  · intro y hy
    simp only [pfoot, List.mem_cons, List.mem_append, Option.mem_toList] at hy ⊢
    rcases hy with hy | hy | hy
    · exact .inl (.inl hy)
    · exact .inl (.inr (.inl hy))
    · simp at hy; subst hy
      rcases hob with h3 | h3
      · exact .inl (.inr (.inr h3))
      · exact .inr h3

theorem info3 : (Try.prog.info? 3).map (fun i => (i.zero, i.size, i.bytes)) = some (some (.int .i64 0), 1, 8) := by kernel_rfl

/-- What pull leaves of what was taken. -/
def pulled (a : AQ Int) (h : Bool) (k : Bool) (l : List Int) : List Int := if h = k then l ++ (a.lane h).head?.toList else l
def PullPost (w : World) (V q c n O : Nat) (a : AQ Int) (h : Bool) (u0 u1 : List Int) (o0 o1 : Option Nat) (e : Ending) (w' : World) : Prop :=
  e = .returned (.tuple #[]) ∧ ∃ p0 p1, Sep w' [Res.blk V 44 [.pointer (some ⟨q, 0, none⟩)], Res.q q c n (a.take h), Res.p2 O (pulled a h false u0) (pulled a h true u1) p0 p1] ∧
    (∀ y ∈ pfoot O p0 p1, y ∈ pfoot O o0 o1 ∨ w.heap.size ≤ y) ∧ Mod ([q, c] ++ pfoot O o0 o1) w w'

set_option maxRecDepth 100000 in
set_option maxHeartbeats 800000 in
theorem pull_none (V q c n O : Nat) (a : AQ Int) (h : Bool) (u0 u1 : List Int) (o0 o1 : Option Nat) (w : World) (hn : n ≤ 64)
    (hs : Sep w [Res.blk V 44 [.pointer (some ⟨q, 0, none⟩)], Res.q q c n a, Res.p2 O u0 u1 o0 o1]) (hx : a.lane h = []) :
    Calls Try.prog 22 #[.bool h, .pointer (some ⟨V, 0, none⟩), .pointer (some ⟨O, 0, none⟩)] w (PullPost w V q c n O a h u0 u1 o0 o1) := by
  have hv : Blk w V 44 [.pointer (some ⟨q, 0, none⟩)] := hs.1
  have hvc : w.cell? ⟨V, 0, none⟩ = some (.pointer (some ⟨q, 0, none⟩)) := hv.cell 0
  have hq : ∃ s, QInt.QRep w q c n a s := hs.2.2.1
  have HP := Lib.hid (QInt.take_rep q c h w n a hn hq)
  rw [hx] at HP
  have HS := Lib.hid hs
  have HX := Lib.hid hx
  clear hs hv hq hx
  go_enter Try.func22, Try.ntmps22
  go_wp2_with (fail)
  refine HP.out.mono ?_
  rintro e w1 ⟨rfl, hq1, hm1⟩
  have HQ1 := Lib.hid hq1
  have HM1 := Lib.hid hm1
  clear hq1 hm1
  go_wp2_with (fail)
  go_end0
  refine ⟨rfl, o0, o1, ?_, fun y hy => .inl hy, HM1.out.mono (by simp +contextual)⟩
  have e0 : pulled a h false u0 = u0 := by unfold pulled; split <;> simp [HX.out]
  have e1 : pulled a h true u1 = u1 := by unfold pulled; split <;> simp [HX.out]
  rw [e0, e1]
  refine Sep.perm (List.Perm.swap _ _ _) (Sep.turn (A := [Res.q q c n a]) (A' := [Res.q q c n (a.take h)]) (C := [Res.blk V 44 [.pointer (some ⟨q, 0, none⟩)], Res.p2 O u0 u1 o0 o1]) (Sep.perm (List.Perm.swap _ _ _) HS.out) HM1.out ?_ ⟨HQ1.out, by simp, trivial⟩ ?_)
  · simp [feet, Res.q]
  · simp [feet, Res.q]

-- PULL SOME

set_option maxRecDepth 100000 in
set_option maxHeartbeats 800000 in
theorem pull_some_false (V q c n O : Nat) (a : AQ Int) (x : Int) (l : List Int) (u0 u1 : List Int) (o0 o1 : Option Nat) (w : World) (hn : n ≤ 64)
    (hs : Sep w [Res.blk V 44 [.pointer (some ⟨q, 0, none⟩)], Res.q q c n a, Res.p2 O u0 u1 o0 o1]) (hx : a.lane false = x :: l) (hlen : u0.length ≤ 1000) :
    Calls Try.prog 22 #[.bool false, .pointer (some ⟨V, 0, none⟩), .pointer (some ⟨O, 0, none⟩)] w (PullPost w V q c n O a false u0 u1 o0 o1) := by
  have hv : Blk w V 44 [.pointer (some ⟨q, 0, none⟩)] := hs.1
  have hvc : w.cell? ⟨V, 0, none⟩ = some (.pointer (some ⟨q, 0, none⟩)) := hv.cell 0
  have hq : ∃ s, QInt.QRep w q c n a s := hs.2.2.1
  have HP := Lib.hid (QInt.take_rep q c false w n a hn hq)
  rw [hx] at HP
  have HS := Lib.hid hs
  have HX := Lib.hid hx
  clear hs hv hq hx
  obtain ⟨i0, hi, hz0, hz1, hz2⟩ := info_parts info3
  go_enter Try.func22, Try.ntmps22
  go_wp2_with (fail)
  refine HP.out.mono ?_
  rintro e w1 ⟨rfl, hq1, hm1⟩
  have h1 : Sep w1 [Res.q q c n (a.take false), Res.blk V 44 [.pointer (some ⟨q, 0, none⟩)], Res.p2 O u0 u1 o0 o1] := Sep.turn (A := [Res.q q c n a]) (A' := [Res.q q c n (a.take false)]) (C := [Res.blk V 44 [.pointer (some ⟨q, 0, none⟩)], Res.p2 O u0 u1 o0 o1]) (Sep.perm (List.Perm.swap _ _ _) HS.out) hm1 (by simp [feet, Res.q]) ⟨hq1, by simp, trivial⟩ (by simp [feet, Res.q])
  obtain ⟨v0, v1, hp⟩ : ∃ v0 v1, P2 w1 O u0 u1 v0 v1 o0 o1 := h1.2.2.2.2.1
  have hpc := hp.b.cell
  have hpf := hp.b.frozen
  have H1 := Lib.hid h1
  have HM1 := Lib.hid hm1
  have HPP := Lib.hid hp
  clear h1 hq1 hm1 hp
  obtain ⟨ao, cap, hv, hcap, hpos⟩ := HPP.out.s0.form
  subst hv
  go_wp2_with (at_builtin; refine wpList_append_sl (by rfl) _ _ _ (by rfl) 3 i0 _ 1 8 Try.underlying46 hi hz0 hz1 hz2 rfl (by omega) (Value.slice ao u0.length cap) u0.length (ints u0) o0 (by rfl) (by repeat (with_reducible first | exact HPP.out.s0 | apply Sl.drew | apply Sl.drewN | apply Sl.alloc)) ⟨w1.heap.size, 0, none⟩ 1 1 [.int .i64 x] (by rfl) (by rfl) (Blk.news (T := 3) (by repeat (with_reducible first | apply Blk.drew | apply Blk.drewN | exact Blk.new' (by simp)))) (by simp [Value.oneCell']) (by omega) (by omega) (by omega) ?_; intro g off cap2 w2 hsl hmod hob hlt; have hb1 := Blk.mod (b := O) (T := 47) (by repeat (with_reducible first | exact HPP.out.b | apply Blk.drew | apply Blk.drewN | apply Blk.alloc)) hmod (by simpa using HPP.out.d0); have hc1 := hb1.cell; have fc1 := hb1.frozen)
  have HSL := Lib.hid hsl
  have HMD := Lib.hid hmod
  have HOB := Lib.hid hob
  clear hsl hmod hob
  go_wp2_with (fail)
  go_end0
  have hM : Mod o0.toList w1 w2 := Mod.then (B := o0.toList) ((Mod.refl _ _).alloc _) HMD.out (by simp +contextual)
  have hOB : o0 = some g ∨ w1.heap.size ≤ g := by
    rcases HOB.out with h | h
    · exact .inl h
    · exact .inr (by rw [h]; simp)
  obtain ⟨pk, hP, hG, hMM⟩ := put_foot0 HPP.out hM HSL.out hOB
  have hsz := HM1.out.size
  have h2 := Sep.turn (A := [Res.p2 O u0 u1 o0 o1]) (A' := [Res.p2 O (u0 ++ [x]) u1 pk o1]) (C := [Res.blk V 44 [.pointer (some ⟨q, 0, none⟩)], Res.q q c n (a.take false)])
    (Sep.perm (by exact (List.Perm.trans (List.Perm.cons _ (List.Perm.swap _ _ _)) (List.Perm.trans (List.Perm.swap _ _ _) (List.Perm.cons _ (List.Perm.swap _ _ _))))) H1.out) hMM (fun x hx => .inl (by simpa [feet, Res.p2] using hx)) ⟨⟨_, _, hP⟩, by simp, trivial⟩ (by intro y hy; simp only [feet, List.flatMap_cons, List.flatMap_nil, List.append_nil, Res.p2] at hy ⊢; exact hG y hy)
  refine ⟨rfl, pk, o1, ?_, ?_, ?_⟩
  · have e0 : pulled a false false u0 = u0 ++ [x] := by simp [pulled, HX.out]
    have e1 : pulled a false true u1 = u1 := by simp [pulled, HX.out]
    rw [e0, e1]
    exact Sep.perm (by exact (List.Perm.trans (List.Perm.swap _ _ _) (List.Perm.cons _ (List.Perm.swap _ _ _)))) h2
  · intro y hy
    rcases hG y hy with h | h
    · exact .inl h
    · exact .inr (by omega)
  · exact Mod.then (HM1.out.mono (by simp +contextual)) hMM (by simp +contextual)

set_option maxRecDepth 100000 in
set_option maxHeartbeats 800000 in
theorem pull_some_true (V q c n O : Nat) (a : AQ Int) (x : Int) (l : List Int) (u0 u1 : List Int) (o0 o1 : Option Nat) (w : World) (hn : n ≤ 64)
    (hs : Sep w [Res.blk V 44 [.pointer (some ⟨q, 0, none⟩)], Res.q q c n a, Res.p2 O u0 u1 o0 o1]) (hx : a.lane true = x :: l) (hlen : u1.length ≤ 1000) :
    Calls Try.prog 22 #[.bool true, .pointer (some ⟨V, 0, none⟩), .pointer (some ⟨O, 0, none⟩)] w (PullPost w V q c n O a true u0 u1 o0 o1) := by
  have hv : Blk w V 44 [.pointer (some ⟨q, 0, none⟩)] := hs.1
  have hvc : w.cell? ⟨V, 0, none⟩ = some (.pointer (some ⟨q, 0, none⟩)) := hv.cell 0
  have hq : ∃ s, QInt.QRep w q c n a s := hs.2.2.1
  have HP := Lib.hid (QInt.take_rep q c true w n a hn hq)
  rw [hx] at HP
  have HS := Lib.hid hs
  have HX := Lib.hid hx
  clear hs hv hq hx
  obtain ⟨i0, hi, hz0, hz1, hz2⟩ := info_parts info3
  go_enter Try.func22, Try.ntmps22
  go_wp2_with (fail)
  refine HP.out.mono ?_
  rintro e w1 ⟨rfl, hq1, hm1⟩
  have h1 : Sep w1 [Res.q q c n (a.take true), Res.blk V 44 [.pointer (some ⟨q, 0, none⟩)], Res.p2 O u0 u1 o0 o1] := Sep.turn (A := [Res.q q c n a]) (A' := [Res.q q c n (a.take true)]) (C := [Res.blk V 44 [.pointer (some ⟨q, 0, none⟩)], Res.p2 O u0 u1 o0 o1]) (Sep.perm (List.Perm.swap _ _ _) HS.out) hm1 (by simp [feet, Res.q]) ⟨hq1, by simp, trivial⟩ (by simp [feet, Res.q])
  obtain ⟨v0, v1, hp⟩ : ∃ v0 v1, P2 w1 O u0 u1 v0 v1 o0 o1 := h1.2.2.2.2.1
  have hpc := hp.b.cell
  have hpf := hp.b.frozen
  have H1 := Lib.hid h1
  have HM1 := Lib.hid hm1
  have HPP := Lib.hid hp
  clear h1 hq1 hm1 hp
  obtain ⟨ao, cap, hv, hcap, hpos⟩ := HPP.out.s1.form
  subst hv
  go_wp2_with (at_builtin; refine wpList_append_sl (by rfl) _ _ _ (by rfl) 3 i0 _ 1 8 Try.underlying46 hi hz0 hz1 hz2 rfl (by omega) (Value.slice ao u1.length cap) u1.length (ints u1) o1 (by rfl) (by repeat (with_reducible first | exact HPP.out.s1 | apply Sl.drew | apply Sl.drewN | apply Sl.alloc)) ⟨w1.heap.size, 0, none⟩ 1 1 [.int .i64 x] (by rfl) (by rfl) (Blk.news (T := 3) (by repeat (with_reducible first | apply Blk.drew | apply Blk.drewN | exact Blk.new' (by simp)))) (by simp [Value.oneCell']) (by omega) (by omega) (by omega) ?_; intro g off cap2 w2 hsl hmod hob hlt; have hb1 := Blk.mod (b := O) (T := 47) (by repeat (with_reducible first | exact HPP.out.b | apply Blk.drew | apply Blk.drewN | apply Blk.alloc)) hmod (by simpa using HPP.out.d1); have hc1 := hb1.cell; have fc1 := hb1.frozen)
  have HSL := Lib.hid hsl
  have HMD := Lib.hid hmod
  have HOB := Lib.hid hob
  clear hsl hmod hob
  go_wp2_with (fail)
  go_end0
  have hM : Mod o1.toList w1 w2 := Mod.then (B := o1.toList) ((Mod.refl _ _).alloc _) HMD.out (by simp +contextual)
  have hOB : o1 = some g ∨ w1.heap.size ≤ g := by
    rcases HOB.out with h | h
    · exact .inl h
    · exact .inr (by rw [h]; simp)
  obtain ⟨pk, hP, hG, hMM⟩ := put_foot1 HPP.out hM HSL.out hOB
  have hsz := HM1.out.size
  have h2 := Sep.turn (A := [Res.p2 O u0 u1 o0 o1]) (A' := [Res.p2 O u0 (u1 ++ [x]) o0 pk]) (C := [Res.blk V 44 [.pointer (some ⟨q, 0, none⟩)], Res.q q c n (a.take true)])
    (Sep.perm (by exact (List.Perm.trans (List.Perm.cons _ (List.Perm.swap _ _ _)) (List.Perm.trans (List.Perm.swap _ _ _) (List.Perm.cons _ (List.Perm.swap _ _ _))))) H1.out) hMM (fun x hx => .inl (by simpa [feet, Res.p2] using hx)) ⟨⟨_, _, hP⟩, by simp, trivial⟩ (by intro y hy; simp only [feet, List.flatMap_cons, List.flatMap_nil, List.append_nil, Res.p2] at hy ⊢; exact hG y hy)
  refine ⟨rfl, o0, pk, ?_, ?_, ?_⟩
  · have e0 : pulled a true false u0 = u0 := by simp [pulled, HX.out]
    have e1 : pulled a true true u1 = u1 ++ [x] := by simp [pulled, HX.out]
    rw [e0, e1]
    exact Sep.perm (by exact (List.Perm.trans (List.Perm.swap _ _ _) (List.Perm.cons _ (List.Perm.swap _ _ _)))) h2
  · intro y hy
    rcases hG y hy with h | h
    · exact .inl h
    · exact .inr (by omega)
  · exact Mod.then (HM1.out.mono (by simp +contextual)) hMM (by simp +contextual)

/-- pull. -/
theorem pull_any (V q c n O : Nat) (a : AQ Int) (h : Bool) (u0 u1 : List Int) (o0 o1 : Option Nat) (w : World) (hn : n ≤ 64)
    (hs : Sep w [Res.blk V 44 [.pointer (some ⟨q, 0, none⟩)], Res.q q c n a, Res.p2 O u0 u1 o0 o1]) (h0 : u0.length ≤ 1000) (h1 : u1.length ≤ 1000) :
    Calls Try.prog 22 #[.bool h, .pointer (some ⟨V, 0, none⟩), .pointer (some ⟨O, 0, none⟩)] w (PullPost w V q c n O a h u0 u1 o0 o1) := by
  cases hx : a.lane h with
  | nil => exact pull_none V q c n O a h u0 u1 o0 o1 w hn hs hx
  | cons x l =>
    cases h with
    | false => exact pull_some_false V q c n O a x l u0 u1 o0 o1 w hn hs hx h0
    | true => exact pull_some_true V q c n O a x l u0 u1 o0 o1 w hn hs hx h1

end Go.Proofs.Ytnehookocnijpaa
