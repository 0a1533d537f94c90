/- slices.IndexFunc and slices.ContainsFunc at the rows of structs, whatever the closure. -/
import Derived.Test.YtedmikeamgebjaaProg
import Derived.Test.YtedmikeamgebjaaWAll
import Derived.IntWalk
import Derived.Shelf.Abstract
import Derived.Laws.Cells
import Derived.Deep.LoopGhost
import Derived.Lib.SliceRun
set_option linter.unusedVariables false
set_option linter.unusedSimpArgs false
namespace Go.Proofs.Ytedmikeamgebjaa
open Go.RowKit Go.Proofs.YtedmikeamgebjaaW.PrintWords Go.Proofs.YtedmikeamgebjaaW.PrintLast Go.Proofs.YtedmikeamgebjaaW.PrintMore

theorem run_row {P : Program} (W : World) (a : Addr) (cs : List Value) (k : Nat) (hk : cs.length = k) (h : ∀ j v, cs[j]? = some v → W.cell? (a.add j) = some v) :
    Sem.run P (loadCellsFrom a 0 k #[]) W = .ok cs.toArray W := by
  have := run_loadCells_list (P := P) (w := W) a cs h
  rw [hk] at this
  simpa [loadCells] using this

def firstP {α : Type} (p : α → Bool) (l : List α) : Int := match l.findIdx? p with | some i => (i : Int) | none => -1
theorem firstP_hit {α : Type} {p : α → Bool} {l : List α} {k : Nat} (h : k < l.length) (hp : p l[k] = true) (hn : ∀ j (hj : j < k), p (l[j]'(by omega)) = false) : firstP p l = k := by
  unfold firstP
  rw [List.findIdx?_eq_some_iff_getElem.2 ⟨h, hp, fun j hj => by rw [hn j hj]; simp⟩]
theorem firstP_miss {α : Type} {p : α → Bool} {l : List α} (hn : ∀ j (hj : j < l.length), p l[j] = false) : firstP p l = -1 := by
  unfold firstP
  rw [List.findIdx?_eq_none_iff.2 fun x hx => by obtain ⟨j, hj, rfl⟩ := List.getElem_of_mem hx; exact hn j hj]
theorem firstP_any {α : Type} (p : α → Bool) (l : List α) : decide (0 ≤ firstP p l) = l.any p := by
  unfold firstP
  cases h : l.findIdx? p with
  | none => rw [List.findIdx?_eq_none_iff] at h; symm; simpa using h
  | some i =>
    rw [List.findIdx?_eq_some_iff_getElem] at h
    obtain ⟨hi, hp, _⟩ := h
    have e : l.any p = true := List.any_eq_true.2 ⟨_, List.getElem_mem hi, hp⟩
    rw [e]
    simp

theorem rowAt {α : Type} {d : Kd α} {w : World} {A : Option Addr} {l : List α} (hr : Kd.C d w A l.length l) (hs : 0 < d.sz) (hn : 0 < l.length) :
    ∃ b o, A = some ⟨b, o, none⟩ ∧ b < w.heap.size ∧ ∀ j p, l[j]? = some p → ∃ c, c.length = d.sz ∧ d.K w p c ∧ ∀ i u, c[i]? = some u → w.cell? ((⟨b, o, none⟩ : Addr).add (j * d.sz + i)) = some u := by
  obtain ⟨ad, rfl, hg⟩ := hr.2.2 hn
  obtain ⟨cs, hl, hK, hcell⟩ := hg 0 _ (List.getElem?_eq_getElem hn)
  have h0 := hcell 0 cs[0] (List.getElem?_eq_getElem (by omega))
  have ha0 : ad.add (0 * d.sz + 0) = ad := by simp [Addr.add]
  rw [ha0] at h0
  have hspot : ad.spot = none := World.cell?_spot (h0.trans rfl)
  obtain ⟨b, off, spot⟩ := ad
  simp only at hspot
  subst hspot
  exact ⟨b, off, rfl, World.block_lt_of_cell? _ _ (h0.trans rfl), hg⟩

theorem C_map {α β : Type} {d : Kd α} {d' : Kd β} (f : α → β) (hs : d'.sz = d.sz) (hK : ∀ w x cs, d.K w x cs → d'.K w (f x) cs) {w : World} {A : Option Addr} {l : List α} (h : Kd.C d w A l.length l) : Kd.C d' w A (l.map f).length (l.map f) := by
  rw [List.length_map]
  refine ⟨List.length_map .., h.2.1, fun hn => ?_⟩
  obtain ⟨ad, e, hg⟩ := h.2.2 hn
  refine ⟨ad, e, fun j p hj => ?_⟩
  rw [List.getElem?_map] at hj
  obtain ⟨x, hx, rfl⟩ := Option.map_eq_some_iff.1 hj
  obtain ⟨c, h1, h2, h3⟩ := hg j x hx
  rw [hs]
  exact ⟨c, h1, hK _ _ _ h2, h3⟩
theorem R_map {α β : Type} {d : Kd α} {d' : Kd β} (f : α → β) (hs : d'.sz = d.sz) (hM : ∀ w base ok x cs, d.M w base ok x cs → d'.M w base ok (f x) cs) {e base : Nat} {ok : Nat → Prop} {w : World} {v : Value} {l : List α} (h : Kd.R d e w base ok v l) : Kd.R d' e w base ok v (l.map f) := by
  obtain ⟨h0, inner, h1, h2⟩ := h
  refine ⟨h0, inner, ?_, ?_, fun j p hj => ?_⟩
  · rw [List.length_map, hs]; exact h1
  · rw [List.length_map, hs]; exact h2.1
  · rw [List.getElem?_map] at hj
    obtain ⟨x, hx, rfl⟩ := Option.map_eq_some_iff.1 hj
    rw [hs]
    exact hM _ _ _ _ _ (h2.2 j x hx)
/-- What is asked of a closure. -/
def PredB {α : Type} (d : Kd α) (g : Nat) (lb : Array Value) (p : α → Bool) (w : World) : Prop :=
  ∀ (W : World) (x : α) (cs : List Value), Below w.heap.size w W → d.K w x cs → Calls Try.prog g (#[.agg cs.toArray] ++ lb) W fun e w' => e = .returned (.bool (p x)) ∧ Below W.heap.size W w'

set_option maxRecDepth 100000 in
set_option maxHeartbeats 4000000 in
theorem ix_block {α : Type} [Inhabited α] (d : Kd α) (hsz : d.sz = 4) (p : α → Bool) (g : Nat) (lb : Array Value) (eg : ∀ args w, (callFunc g args).run Try.prog w = .ok (.enter g args) w)
    (A : Option Addr) (c : Nat) (l : List α) (w : World) (hp : PredB d g lb p w) (hr : Kd.C d w A l.length l) (hc : l.length ≤ c) :
    Calls Try.prog 49 #[.slice A l.length c, .func (.func g) #[] lb] w fun e w' => e = .returned (.int .i64 (firstP p l)) ∧ Below w.heap.size w w' := by
  have hrow : ∀ (W : World), Below w.heap.size w W → ∀ j (hj : j < l.length), ∃ b o v0 v1 v2 v3, A = some ⟨b, o, none⟩ ∧ d.K w l[j] [v0, v1, v2, v3] ∧ W.cell? ⟨b, o + j * 4, none⟩ = some v0 ∧ W.cell? ⟨b, o + j * 4 + 1, none⟩ = some v1 ∧ W.cell? ⟨b, o + j * 4 + 2, none⟩ = some v2 ∧ W.cell? ⟨b, o + j * 4 + 3, none⟩ = some v3 := fun W hW j hj => by
    obtain ⟨b, off, rfl, hbb, hg⟩ := rowAt hr (by omega) (by omega)
    obtain ⟨cs, hl, hK, hcell⟩ := hg j _ (List.getElem?_eq_getElem hj)
    rw [hsz] at hl hcell
    obtain ⟨v0, v1, v2, v3, rfl⟩ : ∃ v0 v1 v2 v3, cs = [v0, v1, v2, v3] := by
      match cs, hl with
      | [v0, v1, v2, v3], _ => exact ⟨v0, v1, v2, v3, rfl⟩
    refine ⟨b, off, v0, v1, v2, v3, rfl, hK, ?_, ?_, ?_, ?_⟩
    all_goals rw [hW.cell (p := ⟨b, _, none⟩) hbb]
    · have := hcell 0 v0 rfl; rw [Addr.add_lit] at this; simpa [Nat.add_assoc] using this
    · have := hcell 1 v1 rfl; rw [Addr.add_lit] at this; simpa [Nat.add_assoc] using this
    · have := hcell 2 v2 rfl; rw [Addr.add_lit] at this; simpa [Nat.add_assoc] using this
    · have := hcell 3 v3 rfl; rw [Addr.add_lit] at this; simpa [Nat.add_assoc] using this
  have hlen : l.length ≤ 9223372036854775807 := hr.2.1
  clear hr
  obtain ⟨n, HN⟩ : ∃ n, Aside (n = l.length) := ⟨_, rfl⟩
  rw [← HN.out] at hlen ⊢
  go_enter Try.func49, Try.ntmps49
  go_wp2
  go_loopg [5, 8] n (fun gg _ s8 wr => ∃ kk : Nat, kk ≤ n ∧ n - kk ≤ gg ∧ s8 = .int .i64 kk ∧ Aside (Below w.heap.size w wr) ∧ Aside (∀ j (hj : j < kk) (hl : j < l.length), p l[j] = false))
  case atStart => exact ⟨0, Nat.zero_le _, by omega, rfl, Below.refl _ w, fun j hj => absurd hj (Nat.not_lt_zero _)⟩
  case round =>
    obtain ⟨kk, hkk, hg, rfl, BW, F⟩ := hrel
    by_cases hlt : kk < n
    · have hltz : (kk : Int) < (n : Int) := by omega
      have hj : kk < l.length := by have := HN.out; omega
      obtain ⟨b, o, v0, v1, v2, v3, rfl, hK, l0, l1, l2, l3⟩ := hrow wr BW.out kk hj
      have hcall := hp wr l[kk] _ BW.out hK
      clear hrow hp hK
      generalize hy : l[kk] = y at hcall
      have B : Aside (l[kk] = y) := hy
      clear hy
      cases hq : p y with
      | true =>
        rw [hq] at hcall
        go_wp2_with (go_at_fn g; refine hcall.mono ?_; rintro e w' ⟨rfl, hb1⟩; have hb' := BW.out.trans (hb1.mono BW.out.size); clear hb1)
        go_ret
        refine ⟨?_, hb'⟩
        rw [firstP_hit (k := kk) hj (by rw [B.out]; exact hq) (fun j hjk => F.out j hjk (by omega))]
        rfl
      | false =>
        rw [hq] at hcall
        go_wp2_with (go_at_fn g; refine hcall.mono ?_; rintro e w' ⟨rfl, hb1⟩; have hb' := BW.out.trans (hb1.mono BW.out.size); clear hb1)
        go_roundg (n - (kk + 1))
        case measure => omega
        case rel =>
          refine ⟨kk + 1, by omega, by omega, by go_num, hb', (show Aside _ from fun j hj hl => ?_)⟩
          by_cases e : j = kk
          · subst e
            rw [B.out]; exact hq
          · exact F.out j (by omega) hl
    · have hltz : ¬ (kk : Int) < (n : Int) := by omega
      have : kk = n := by omega
      subst this
      go_wp2
      go_ret
      refine ⟨?_, BW.out⟩
      have hkl := HN.out
      rw [firstP_miss (fun j hj => F.out j (by omega) hj)]
      rfl

set_option maxRecDepth 100000 in
set_option maxHeartbeats 4000000 in
theorem ix_spot {α : Type} [Inhabited α] (d : Kd α) (hsz : d.sz = 2) (p : α → Bool) (g : Nat) (lb : Array Value) (eg : ∀ args w, (callFunc g args).run Try.prog w = .ok (.enter g args) w)
    (A : Option Addr) (c : Nat) (l : List α) (w : World) (hp : PredB d g lb p w) (hr : Kd.C d w A l.length l) (hc : l.length ≤ c) :
    Calls Try.prog 47 #[.slice A l.length c, .func (.func g) #[] lb] w fun e w' => e = .returned (.int .i64 (firstP p l)) ∧ Below w.heap.size w w' := by
  have hrow : ∀ (W : World), Below w.heap.size w W → ∀ j (hj : j < l.length), ∃ b o v0 v1, A = some ⟨b, o, none⟩ ∧ d.K w l[j] [v0, v1] ∧ W.cell? ⟨b, o + j * 2, none⟩ = some v0 ∧ W.cell? ⟨b, o + j * 2 + 1, none⟩ = some v1 := fun W hW j hj => by
    obtain ⟨b, off, rfl, hbb, hg⟩ := rowAt hr (by omega) (by omega)
    obtain ⟨cs, hl, hK, hcell⟩ := hg j _ (List.getElem?_eq_getElem hj)
    rw [hsz] at hl hcell
    obtain ⟨v0, v1, rfl⟩ : ∃ v0 v1, cs = [v0, v1] := by
      match cs, hl with
      | [v0, v1], _ => exact ⟨v0, v1, rfl⟩
    refine ⟨b, off, v0, v1, rfl, hK, ?_, ?_⟩
    all_goals rw [hW.cell (p := ⟨b, _, none⟩) hbb]
    · have := hcell 0 v0 rfl; rw [Addr.add_lit] at this; simpa [Nat.add_assoc] using this
    · have := hcell 1 v1 rfl; rw [Addr.add_lit] at this; simpa [Nat.add_assoc] using this
  have hlen : l.length ≤ 9223372036854775807 := hr.2.1
  clear hr
  obtain ⟨n, HN⟩ : ∃ n, Aside (n = l.length) := ⟨_, rfl⟩
  rw [← HN.out] at hlen ⊢
  go_enter Try.func47, Try.ntmps47
  go_wp2
  go_loopg [5, 8] n (fun gg _ s8 wr => ∃ kk : Nat, kk ≤ n ∧ n - kk ≤ gg ∧ s8 = .int .i64 kk ∧ Aside (Below w.heap.size w wr) ∧ Aside (∀ j (hj : j < kk) (hl : j < l.length), p l[j] = false))
  case atStart => exact ⟨0, Nat.zero_le _, by omega, rfl, Below.refl _ w, fun j hj => absurd hj (Nat.not_lt_zero _)⟩
  case round =>
    obtain ⟨kk, hkk, hg, rfl, BW, F⟩ := hrel
    by_cases hlt : kk < n
    · have hltz : (kk : Int) < (n : Int) := by omega
      have hj : kk < l.length := by have := HN.out; omega
      obtain ⟨b, o, v0, v1, rfl, hK, l0, l1⟩ := hrow wr BW.out kk hj
      have hcall := hp wr l[kk] _ BW.out hK
      clear hrow hp hK
      generalize hy : l[kk] = y at hcall
      have B : Aside (l[kk] = y) := hy
      clear hy
      cases hq : p y with
      | true =>
        rw [hq] at hcall
        go_wp2_with (go_at_fn g; refine hcall.mono ?_; rintro e w' ⟨rfl, hb1⟩; have hb' := BW.out.trans (hb1.mono BW.out.size); clear hb1)
        go_ret
        refine ⟨?_, hb'⟩
        rw [firstP_hit (k := kk) hj (by rw [B.out]; exact hq) (fun j hjk => F.out j hjk (by omega))]
        rfl
      | false =>
        rw [hq] at hcall
        go_wp2_with (go_at_fn g; refine hcall.mono ?_; rintro e w' ⟨rfl, hb1⟩; have hb' := BW.out.trans (hb1.mono BW.out.size); clear hb1)
        go_roundg (n - (kk + 1))
        case measure => omega
        case rel =>
          refine ⟨kk + 1, by omega, by omega, by go_num, hb', (show Aside _ from fun j hj hl => ?_)⟩
          by_cases e : j = kk
          · subst e
            rw [B.out]; exact hq
          · exact F.out j (by omega) hl
    · have hltz : ¬ (kk : Int) < (n : Int) := by omega
      have : kk = n := by omega
      subst this
      go_wp2
      go_ret
      refine ⟨?_, BW.out⟩
      have hkl := HN.out
      rw [firstP_miss (fun j hj => F.out j (by omega) hj)]
      rfl

set_option maxRecDepth 100000 in
set_option maxHeartbeats 4000000 in
theorem ix_station {α : Type} [Inhabited α] (d : Kd α) (hsz : d.sz = 6) (p : α → Bool) (g : Nat) (lb : Array Value) (eg : ∀ args w, (callFunc g args).run Try.prog w = .ok (.enter g args) w)
    (A : Option Addr) (c : Nat) (l : List α) (w : World) (hp : PredB d g lb p w) (hr : Kd.C d w A l.length l) (hc : l.length ≤ c) :
    Calls Try.prog 43 #[.slice A l.length c, .func (.func g) #[] lb] w fun e w' => e = .returned (.int .i64 (firstP p l)) ∧ Below w.heap.size w w' := by
  have hrow : ∀ (W : World), Below w.heap.size w W → ∀ j (hj : j < l.length), ∃ b o v0 v1 v2 v3 v4 v5, A = some ⟨b, o, none⟩ ∧ d.K w l[j] [v0, v1, v2, v3, v4, v5] ∧ W.cell? ⟨b, o + j * 6, none⟩ = some v0 ∧ W.cell? ⟨b, o + j * 6 + 1, none⟩ = some v1 ∧ W.cell? ⟨b, o + j * 6 + 2, none⟩ = some v2 ∧ W.cell? ⟨b, o + j * 6 + 3, none⟩ = some v3 ∧ W.cell? ⟨b, o + j * 6 + 4, none⟩ = some v4 ∧ W.cell? ⟨b, o + j * 6 + 5, none⟩ = some v5 := fun W hW j hj => by
    obtain ⟨b, off, rfl, hbb, hg⟩ := rowAt hr (by omega) (by omega)
    obtain ⟨cs, hl, hK, hcell⟩ := hg j _ (List.getElem?_eq_getElem hj)
    rw [hsz] at hl hcell
    obtain ⟨v0, v1, v2, v3, v4, v5, rfl⟩ : ∃ v0 v1 v2 v3 v4 v5, cs = [v0, v1, v2, v3, v4, v5] := by
      match cs, hl with
      | [v0, v1, v2, v3, v4, v5], _ => exact ⟨v0, v1, v2, v3, v4, v5, rfl⟩
    refine ⟨b, off, v0, v1, v2, v3, v4, v5, rfl, hK, ?_, ?_, ?_, ?_, ?_, ?_⟩
    all_goals rw [hW.cell (p := ⟨b, _, none⟩) hbb]
    · have := hcell 0 v0 rfl; rw [Addr.add_lit] at this; simpa [Nat.add_assoc] using this
    · have := hcell 1 v1 rfl; rw [Addr.add_lit] at this; simpa [Nat.add_assoc] using this
    · have := hcell 2 v2 rfl; rw [Addr.add_lit] at this; simpa [Nat.add_assoc] using this
    · have := hcell 3 v3 rfl; rw [Addr.add_lit] at this; simpa [Nat.add_assoc] using this
    · have := hcell 4 v4 rfl; rw [Addr.add_lit] at this; simpa [Nat.add_assoc] using this
    · have := hcell 5 v5 rfl; rw [Addr.add_lit] at this; simpa [Nat.add_assoc] using this
  have hlen : l.length ≤ 9223372036854775807 := hr.2.1
  clear hr
  obtain ⟨n, HN⟩ : ∃ n, Aside (n = l.length) := ⟨_, rfl⟩
  rw [← HN.out] at hlen ⊢
  go_enter Try.func43, Try.ntmps43
  go_wp2
  go_loopg [5, 8] n (fun gg _ s8 wr => ∃ kk : Nat, kk ≤ n ∧ n - kk ≤ gg ∧ s8 = .int .i64 kk ∧ Aside (Below w.heap.size w wr) ∧ Aside (∀ j (hj : j < kk) (hl : j < l.length), p l[j] = false))
  case atStart => exact ⟨0, Nat.zero_le _, by omega, rfl, Below.refl _ w, fun j hj => absurd hj (Nat.not_lt_zero _)⟩
  case round =>
    obtain ⟨kk, hkk, hg, rfl, BW, F⟩ := hrel
    by_cases hlt : kk < n
    · have hltz : (kk : Int) < (n : Int) := by omega
      have hj : kk < l.length := by have := HN.out; omega
      obtain ⟨b, o, v0, v1, v2, v3, v4, v5, rfl, hK, l0, l1, l2, l3, l4, l5⟩ := hrow wr BW.out kk hj
      have hcall := hp wr l[kk] _ BW.out hK
      clear hrow hp hK
      generalize hy : l[kk] = y at hcall
      have B : Aside (l[kk] = y) := hy
      clear hy
      cases hq : p y with
      | true =>
        rw [hq] at hcall
        go_wp2_with (go_at_fn g; refine hcall.mono ?_; rintro e w' ⟨rfl, hb1⟩; have hb' := BW.out.trans (hb1.mono BW.out.size); clear hb1)
        go_ret
        refine ⟨?_, hb'⟩
        rw [firstP_hit (k := kk) hj (by rw [B.out]; exact hq) (fun j hjk => F.out j hjk (by omega))]
        rfl
      | false =>
        rw [hq] at hcall
        go_wp2_with (go_at_fn g; refine hcall.mono ?_; rintro e w' ⟨rfl, hb1⟩; have hb' := BW.out.trans (hb1.mono BW.out.size); clear hb1)
        go_roundg (n - (kk + 1))
        case measure => omega
        case rel =>
          refine ⟨kk + 1, by omega, by omega, by go_num, hb', (show Aside _ from fun j hj hl => ?_)⟩
          by_cases e : j = kk
          · subst e
            rw [B.out]; exact hq
          · exact F.out j (by omega) hl
    · have hltz : ¬ (kk : Int) < (n : Int) := by omega
      have : kk = n := by omega
      subst this
      go_wp2
      go_ret
      refine ⟨?_, BW.out⟩
      have hkl := HN.out
      rw [firstP_miss (fun j hj => F.out j (by omega) hj)]
      rfl

set_option maxRecDepth 100000 in
set_option maxHeartbeats 4000000 in
theorem has_spot {α : Type} [Inhabited α] (d : Kd α) (hsz : d.sz = 2) (p : α → Bool) (g : Nat) (lb : Array Value) (eg : ∀ args w, (callFunc g args).run Try.prog w = .ok (.enter g args) w)
    (A : Option Addr) (c : Nat) (l : List α) (w : World) (hp : PredB d g lb p w) (hr : Kd.C d w A l.length l) (hc : l.length ≤ c) :
    Calls Try.prog 31 #[.slice A l.length c, .func (.func g) #[] lb] w fun e w' => e = .returned (.bool (l.any p)) ∧ Below w.heap.size w w' := by
  rw [← firstP_any]
  have hcall := ix_spot d hsz p g lb eg A c l w hp hr hc
  generalize firstP p l = r at hcall ⊢
  generalize l.length = n at hcall ⊢
  go_enter Try.func31, Try.ntmps31
  go_wp2_with (go_at_call 47; refine hcall.mono ?_; rintro e w' ⟨rfl, hb'⟩)
  go_ret
  exact ⟨rfl, hb'⟩

end Go.Proofs.Ytedmikeamgebjaa
