/- verify: Check and Kinds. -/
import Derived.Test.YtnehookocnijpaaVAll
set_option linter.unusedVariables false
set_option linter.unusedSimpArgs false
namespace Go.Proofs.Ytnehookocnijpaa
open Go.RowKit

set_option maxRecDepth 100000 in
set_option maxHeartbeats 800000 in
theorem v_check (v : Value) (l : List Ins) (w : World) (h : RSn w 5 encI v l) (hok : ∀ i ∈ l, i.Ok) : Calls Try.prog 29 #[v] w fun e w' => e = .returned (.tuple #[.int .i64 (allP l).1, .int .i64 ((allP l).2.1 : Int)]) ∧ Mod [] w w' := by
  have HA := Lib.hid (v_all v l w h hok)
  clear h hok
  go_enter Try.func29, Try.ntmps29
  go_wp2_with (go_at_call 41; refine HA.out.mono ?_; rintro e w1 ⟨tv, rfl, hK, hm⟩)
  go_ret2
  exact ⟨rfl, hm⟩

def kindsP (l : List Ins) (t : Tab) : List Int := (t.take l.length).map fun | none => -1 | some a => a.kind
def encN (x : Int) : List Value := [.int .i64 x]

theorem info3 : (Try.prog.info? 3).map (fun i => (i.zero, i.size, i.bytes)) = some (some (.int .i64 0), 1, 8) := by kernel_rfl

theorem stepP_len (n : Nat) (t : Tab) (k : Nat) (i : Ins) : (stepP n t k i).2.length = t.length := by
  have h1 : ∀ (b : Bool) (x y : Tab) (L : Nat), x.length = L → y.length = L → (if b = true then x else y).length = L := by
    intro b x y L hx hy
    split <;> assumption
  have h2 : ∀ (Q : Prop) [Decidable Q] (x y : Int × Tab) (L : Nat), x.2.length = L → y.2.length = L → (if Q then x else y).2.length = L := by
    intro Q _ x y L hx hy
    split <;> assumption
  unfold stepP
  refine h2 _ _ _ _ rfl ?_
  split
  · refine h2 _ _ _ _ rfl (h2 _ _ _ _ rfl (h2 _ _ _ _ rfl (h2 _ _ _ _ rfl (h1 _ _ _ _ ?_ ?_))))
    · rw [leadT_length]; exact h1 _ _ _ _ (leadT_length _ _ _) rfl
    · exact h1 _ _ _ _ (leadT_length _ _ _) rfl
  · rfl
theorem goP_len {n : Nat} : ∀ (l : List Ins) (k : Nat) (t : Tab), t.length = n + 1 → (goP n l k t).1 = 0 → (goP n l k t).2.2.length = n + 1 := by
  intro l
  induction l with
  | nil =>
    intro k t ht h
    unfold goP at h ⊢
    split at h
    · split at h
      · simp at h
      · simp_all
    · simp_all
  | cons i is ih =>
    intro k t ht h
    unfold goP at h ⊢
    split at h
    · rename_i hne
      exact absurd h hne
    · rename_i hne
      rw [if_neg hne]
      exact ih _ _ (by rw [stepP_len]; exact ht) h
theorem allP_len {l : List Ins} (h : (allP l).1 = 0) : (allP l).2.2.length = l.length + 1 := by
  unfold allP at h ⊢
  split at h
  · simp at h
  · rename_i h200
    rw [if_neg h200]
    exact goP_len l 0 _ (by simp [startT]) h

theorem Sl.blk {w : World} {T : TypeId} {m : Nat} {v : Value} {n : Nat} {xs : List Value} {g : Nat} (h : Sl w T m v n xs (some g)) : ∃ cs, Blk w g T cs := by
  rcases h.2 with ⟨_, _, h3⟩ | ⟨g', off, cap, all, h1, _, h3, _⟩
  · cases h3
  · injection h1 with h1; subst h1; exact ⟨all, h3⟩
/-- Only blocks of another kind turn: the table stays. -/
theorem TabAt.other {w w' : World} {tb : Nat} {t : Tab} {ps : List (Option Nat)} {B : List Nat} (h : TabAt w tb t ps) (m : Mod B w w') (hB : ∀ x ∈ B, ∃ T cs, Blk w x T cs ∧ T ≠ 95 ∧ T ≠ 98 ∧ T ≠ 122) : TabAt w' tb t ps := by
  refine ⟨h.blk.mod m (fun hx => ?_), h.len, h.non, fun j a hj => ?_, h.inj⟩
  · obtain ⟨T, cs, h1, h2, _⟩ := hB _ hx
    exact h2 (h1.types h.blk)
  · obtain ⟨b, hb, ha⟩ := h.som j a hj
    refine ⟨b, hb, ha.stay m (fun hx => ?_) (fun x hx => ?_)⟩
    · obtain ⟨ao, n, c, h3, _⟩ := ha
      obtain ⟨T, cs, h1, _, h2, _⟩ := hB _ hx
      exact h2 (h1.types h3)
    · obtain ⟨T, cs, h1, _, _, h2⟩ := hB _ hx
      exact ⟨T, cs, h1, h2⟩
theorem kinds_step {t : Tab} {k : Nat} {x : Option Ah} (h : t[k]? = some x) : (((t.take (k + 1)).map fun | none => (-1 : Int) | some a => a.kind).flatMap encN) = (((t.take k).map fun | none => (-1 : Int) | some a => a.kind).flatMap encN) ++ [.int .i64 (match x with | none => (-1 : Int) | some a => a.kind)] := by
  have e : t.take (k + 1) = t.take k ++ [x] := by rw [List.take_add_one, h]; rfl
  rw [e, List.map_append, List.flatMap_append]
  cases x <;> rfl
def KRel (w : World) (tb : Nat) (t : Tab) (ps : List (Option Nat)) (n : Nat) (v23 v7 : Value) (wr : World) : Prop :=
  ∃ (k : Nat) (ob : Option Nat), k ≤ n ∧ v23 = .int .i64 (k : Int) ∧ Sl wr 3 1 v7 k (((t.take k).map fun | none => (-1 : Int) | some a => a.kind).flatMap encN) ob ∧ TabAt wr tb t ps ∧ Mod [] w wr ∧ ∀ g, ob = some g → w.heap.size ≤ g

set_option maxRecDepth 100000 in
set_option maxHeartbeats 1600000 in
theorem v_kinds (v : Value) (l : List Ins) (w : World) (h : RSn w 5 encI v l) (hok : ∀ i ∈ l, i.Ok) : Calls Try.prog 31 #[v] w fun e w' => ∃ sv, e = .returned (.tuple #[sv, .bool (decide ((allP l).1 = 0))]) ∧ Mod [] w w' ∧
    ((allP l).1 ≠ 0 → sv = .slice none 0 0) ∧ ((allP l).1 = 0 → ∃ ob, Sl w' 3 1 sv l.length ((kindsP l (allP l).2.2).flatMap encN) ob) := by
  have HA := Lib.hid (v_all v l w h hok)
  obtain ⟨ao, cap, rfl, hlc, hcm, hcells⟩ := h
  clear hok hcells
  by_cases he : (allP l).1 = 0
  · have hlen := allP_len he
    have HE := Lib.hid he
    have hl200 : l.length ≤ 200 := by
      unfold allP at he
      split at he
      · simp at he
      · omega
    obtain ⟨i0, hi, hz0, hz1, hz2⟩ := info_parts info3
    have hdec : decide ((allP l).1 = 0) = true := by simp [he]
    rw [hdec]
    clear he hdec
    go_enter Try.func31, Try.ntmps31
    go_wp2_with (go_at_call 41; refine HA.out.mono ?_; rintro e w1 ⟨tv, rfl, hK, hm⟩; rw [HE.out]; obtain ⟨tb, ps, rfl, hT⟩ := hK HE.out; have htb := hT.blk.lt)
    generalize ht : (allP l).2.2 = t at *
    have hblk := hT.blk
    have HT0 := Lib.hid hT
    clear hK hT hblk
    generalize hn : l.length = n at *
    go_loopw [7, 23] (fun v7 v23 wr => KRel w tb t ps n v23 v7 wr) (fun _ v _ => n - (intOf v).toNat)
    case atStart => exact ⟨0, none, Nat.zero_le _, rfl, Sl.nil _ _ _, HT0.out, hm, by simp⟩
    case round hrel =>
      obtain ⟨k, ob, hk, rfl, hsl, hT, hM, hO⟩ := hrel
      have HS := Lib.hid hsl
      have HR := Lib.hid (And.intro hT (And.intro hM hO))
      have htb2 := hT.blk.lt
      obtain ⟨sao, sc, rfl, hsc, _⟩ := hsl.form
      generalize hsv : Value.slice sao k sc = sv at *
      clear hsl hM hO
      by_cases hlt : k < n
      · obtain ⟨x, hx⟩ : ∃ x, t[k]? = some x := ⟨_, List.getElem?_eq_getElem (by omega)⟩
        have HX := Lib.hid hx
        cases x with
        | none =>
          have q0 : wr.cell? ⟨tb, k, none⟩ = some (.pointer none) := by rw [hT.blk.cell, List.getElem?_map, hT.non k hx]; rfl
          clear hT hx
          go_wp2_with (at_builtin; refine wpList_append_sl (by rfl) _ _ _ (by rfl) 3 i0 _ 1 8 Try.underlying46 hi hz0 hz1 hz2 rfl (by omega) sv k _ ob (by rfl) (by repeat (with_reducible first | exact HS.out | apply Sl.drew | apply Sl.drewN | apply Sl.alloc)) ⟨wr.heap.size, 0, none⟩ 1 1 [.int .i64 (-1)] (by rfl) (by rfl) (Blk.news (T := 3) (by repeat (with_reducible first | apply Blk.drew | apply Blk.drewN | exact Blk.new' rfl | exact Blk.new' (by simp)))) (by simp [Value.oneCell']) (by omega) (by omega) (by omega) ?_; intro g off cp w2 hs2 hm2 hob2 hlt2)
          have hmw : Mod ob.toList wr w2 := Mod.then (B := ob.toList) (by repeat (with_reducible first | exact Mod.refl _ _ | refine Mod.drew ?_ | refine Mod.drewN ?_ _ | refine Mod.setCell ?_ _ (by first | (simp; done) | (simp; omega)) | refine Mod.alloc ?_ _ | refine Mod.trans ?_ (by assumption))) hm2 (by simp +contextual)
          have hBt : ∀ x ∈ ob.toList, ∃ T cs, Blk wr x T cs ∧ T ≠ 95 ∧ T ≠ 98 ∧ T ≠ 122 := by
            intro x hx
            simp at hx
            subst hx
            obtain ⟨cs, hc⟩ := HS.out.blk
            exact ⟨3, cs, hc, by decide, by decide, by decide⟩
          refine ⟨⟨k + 1, some g, by omega, by simp, ?_, HR.out.1.other hmw hBt, HR.out.2.1.then hmw (fun x hx => .inr (HR.out.2.2 x (by simpa using hx))), ?_⟩, by simp [intOf]; omega⟩
          · rw [kinds_step HX.out]
            exact hs2
          · intro g' hg'
            simp at hg'
            subst hg'
            rcases hob2 with h1 | h1
            · exact HR.out.2.2 _ h1
            · have := HR.out.2.1.size
              rw [h1]
              simp
              omega
        | some a =>
          obtain ⟨pb, hpb, ao2, n2, c2', hbb, hbs, hbn, hb8⟩ := hT.som k a hx
          have q0 : wr.cell? ⟨tb, k, none⟩ = some (.pointer (some ⟨pb, 0, none⟩)) := by rw [hT.blk.cell, List.getElem?_map, hpb]; rfl
          have qp := hbb.cell
          clear hT hx hpb hbb hbs
          go_wp2_with (at_builtin; refine wpList_append_sl (by rfl) _ _ _ (by rfl) 3 i0 _ 1 8 Try.underlying46 hi hz0 hz1 hz2 rfl (by omega) sv k _ ob (by rfl) (by repeat (with_reducible first | exact HS.out | apply Sl.drew | apply Sl.drewN | apply Sl.alloc)) ⟨wr.heap.size, 0, none⟩ 1 1 [.int .i64 (a.kind)] (by rfl) (by rfl) (Blk.news (T := 3) (by repeat (with_reducible first | apply Blk.drew | apply Blk.drewN | exact Blk.new' rfl | exact Blk.new' (by simp)))) (by simp [Value.oneCell']) (by omega) (by omega) (by omega) ?_; intro g off cp w2 hs2 hm2 hob2 hlt2)
          have hmw : Mod ob.toList wr w2 := Mod.then (B := ob.toList) (by repeat (with_reducible first | exact Mod.refl _ _ | refine Mod.drew ?_ | refine Mod.drewN ?_ _ | refine Mod.setCell ?_ _ (by first | (simp; done) | (simp; omega)) | refine Mod.alloc ?_ _ | refine Mod.trans ?_ (by assumption))) hm2 (by simp +contextual)
          have hBt : ∀ x ∈ ob.toList, ∃ T cs, Blk wr x T cs ∧ T ≠ 95 ∧ T ≠ 98 ∧ T ≠ 122 := by
            intro x hx
            simp at hx
            subst hx
            obtain ⟨cs, hc⟩ := HS.out.blk
            exact ⟨3, cs, hc, by decide, by decide, by decide⟩
          refine ⟨⟨k + 1, some g, by omega, by simp, ?_, HR.out.1.other hmw hBt, HR.out.2.1.then hmw (fun x hx => .inr (HR.out.2.2 x (by simpa using hx))), ?_⟩, by simp [intOf]; omega⟩
          · rw [kinds_step HX.out]
            exact hs2
          · intro g' hg'
            simp at hg'
            subst hg'
            rcases hob2 with h1 | h1
            · exact HR.out.2.2 _ h1
            · have := HR.out.2.1.size
              rw [h1]
              simp
              omega
      · have hkn : k = n := by omega
        subst hkn
        clear hT
        go_wp2_with (fail)
        go_wp2_with (fail)
        go_ret2
        refine ⟨_, rfl, HR.out.2.1, fun h => absurd HE.out h, fun _ => ⟨ob, ?_⟩⟩
        unfold kindsP
        rw [hn, ht]
        exact HS.out
  · have hne : ((allP l).1 != 0) = true := by rw [bne_iff_ne]; exact he
    have HE := Lib.hid he
    have hdec : decide ((allP l).1 = 0) = false := by simp [he]
    rw [hdec]
    clear he hdec
    go_enter Try.func31, Try.ntmps31
    go_wp2_with (go_at_call 41; refine HA.out.mono ?_; rintro e w1 ⟨tv, rfl, hK, hm⟩)
    go_ret2
    exact ⟨_, rfl, hm, fun _ => rfl, fun h => absurd h HE.out⟩
end Go.Proofs.Ytnehookocnijpaa
