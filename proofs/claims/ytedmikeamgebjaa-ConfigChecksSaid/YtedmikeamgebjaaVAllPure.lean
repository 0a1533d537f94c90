/- The reference's All, as it was printed, is allP. No program here. -/
import Derived.Test.YtedmikeamgebjaaPx2
import Derived.Test.YtedmikeamgebjaaVCheck
set_option linter.unusedVariables false
set_option linter.unusedSimpArgs false
namespace Go.Proofs.Ytedmikeamgebjaa
open Go.RowKit

def toInsP (x : P.S54) : Ins := ⟨x.f0, x.f1, x.f2, x.f3, x.f4⟩
def encA : Option Ah → P.S90
  | none => P.z90
  | some a => ⟨true, a.kind, encS a.opn⟩
def AOk (a : Ah) : Prop := a.opn.length ≤ 8 ∧ BOk a.opn
def TOk (t : Tab) : Prop := ∀ a, some a ∈ t → AOk a
theorem rd62 {t : Tab} {k : Nat} {x : Option Ah} (h : t[k]? = some x) : P.rd_T90 (t.map encA) (k : Int) = encA x := by
  simp [P.rd_T90, List.getD, h]
theorem encS_beq {l m : List (Int × Int)} (hl : BOk l) (hm : BOk m) : ((encS l).toList == (encS m).toList) = decide (l = m) := by
  rw [ByteArray.toList_eq, ByteArray.toList_eq]
  by_cases h : l = m
  · subst h; simp
  · have : ¬ ((encS l).data.toList = (encS m).data.toList) := fun e => h (encS_inj hl hm (by
      apply ByteArray.ext
      exact Array.toList_inj.1 e))
    rw [decide_eq_false h, beq_eq_false_iff_ne]
    exact this
def leadX (x : Option Ah) (b : Ah) : Ah := match x with | some z => ⟨if z.kind = b.kind then z.kind else 0, z.opn⟩ | none => b
def leadY (x : Option Ah) (b : Ah) : Bool := match x with | some z => decide (z.opn = b.opn) | none => true
theorem leadT_at {t : Tab} {q : Nat} {x : Option Ah} (h : t[q]? = some x) (b : Ah) : leadT t q b = t.set q (some (leadX x b)) := by
  unfold leadT leadX
  cases x <;> rw [h]
theorem leadB_at {t : Tab} {q : Nat} {x : Option Ah} (h : t[q]? = some x) (b : Ah) : leadB t q b = leadY x b := by
  unfold leadB leadY
  cases x <;> rw [h]
theorem join_f (x : Option Ah) (b : Ah) (hx : ∀ a, x = some a → AOk a) (hb : AOk b) :
    P.fuglemanref14_join.f (encA x).f0 (encA x).f1 (encA x).f2 true b.kind (encS b.opn) = some (true, (leadX x b).kind, encS (leadX x b).opn, leadY x b) := by
  cases x with
  | none => rfl
  | some z =>
    have hz := hx z rfl
    unfold P.fuglemanref14_join.f encA leadX leadY
    simp only [if_true]
    rw [encS_beq hz.2 hb.2]
    by_cases hk : z.kind = b.kind <;> simp [hk]
theorem leadX_ok {x : Option Ah} {b : Ah} (hx : ∀ a, x = some a → AOk a) (hb : AOk b) : AOk (leadX x b) := by
  cases x with
  | none => exact hb
  | some z => exact hx z rfl
theorem TOk.lead {t : Tab} (h : TOk t) {q : Nat} {x : Option Ah} (hx : t[q]? = some x) {b : Ah} (hb : AOk b) : TOk (leadT t q b) := by
  rw [leadT_at hx]
  intro a ha
  rcases List.mem_or_eq_of_mem_set ha with h1 | h1
  · exact h a h1
  · injection h1 with h1
    subst h1
    exact leadX_ok (fun z hz => h z (hz ▸ List.mem_of_getElem? hx)) hb
theorem enc_lead {t : Tab} {q : Nat} {x : Option Ah} (hx : t[q]? = some x) (b : Ah) : (t.map encA).set q ⟨true, (leadX x b).kind, encS (leadX x b).opn⟩ = (leadT t q b).map encA := by
  rw [leadT_at hx, List.map_set]
  rfl
theorem next_ok {a : Ah} {i : Ins} (h : AOk a) (he : errP a i = 0) : AOk (nextP a i) := by
  refine ⟨next_deep h.1 he, ?_⟩
  have hb := h.2
  unfold nextP
  split
  · exact hb
  split
  · exact hb
  split
  · rename_i h1 h2 h32
    intro x hx
    simp only [List.mem_append, List.mem_singleton] at hx
    rcases hx with hx | rfl
    · exact hb x hx
    · have : pushE i.at_ a.kind a.opn = 0 := by
        have e := he
        unfold errP at e
        rw [h32] at e
        simpa using e
      unfold pushE at this
      split at this
      · cases this
      · rename_i hm
        have := may_le (by simpa using hm)
        simp only
        omega
  split
  · intro x hx
    exact hb x ((List.dropLast_sublist _).subset hx)
  · exact hb
def resA (r : Int × Nat × Tab) : List P.S90 × Int × Int := if r.1 ≠ 0 then ([], r.1, (r.2.1 : Int)) else (r.2.2.map encA, 0, 0)
theorem wrapk {k : Nat} (h : k ≤ 200) : wrap64 ((k : Int) + 1) = ((k + 1 : Nat) : Int) := by
  rw [IntWalk.wrap64_in _ (by omega)]
  omega
section
variable (l : List P.S54) (hn : l.length ≤ 200)
include hn
/-- Behind the second join. -/
theorem all_j3 {k : Nat} (hk : k < l.length) {t : Tab} (ht : t.length = l.length + 1) (hT : TOk t) (i : Ins) (hR : rightP i = true) {b : Ah} (hb : AOk b) (r : List P.S90 × Int × Int)
    (hj : jumpsP i = true → (k : Int) < i.at_ ∧ i.at_ ≤ l.length)
    (h1 : (jumpsP i && !leadB t i.at_.toNat b) = false → ∃ K, P.fuglemanref14_All.l0 K l (l.length : Int) ((if jumpsP i then leadT t i.at_.toNat b else t).map encA) ((k + 1 : Nat) : Int) = some r)
    (h2 : (jumpsP i && !leadB t i.at_.toNat b) = true → r = ([], 7, (k : Int))) :
    ∃ K, P.fuglemanref14_All.j3 K l (l.length : Int) (t.map encA) (k : Int) true (jumpsP i) i.op i.kind i.area i.at_ i.n true b.kind (encS b.opn) = some r := by
  cases hJ : jumpsP i
  · obtain ⟨K, h⟩ := h1 (by simp [hJ])
    refine ⟨K + 1, ?_⟩
    simp only [P.fuglemanref14_All.j3]
    rw [if_neg (by simp), if_pos (by trivial), wrapk (by omega)]
    simpa [hJ] using h
  · obtain ⟨a1, a2⟩ := hj hJ
    obtain ⟨x, hx⟩ : ∃ x, t[i.at_.toNat]? = some x := ⟨_, List.getElem?_eq_getElem (by omega)⟩
    have hxo : ∀ a, x = some a → AOk a := fun a ha => hT a (ha ▸ List.mem_of_getElem? hx)
    have hat : i.at_ = ((i.at_.toNat : Nat) : Int) := by omega
    rw [leadB_at hx] at h1 h2
    have hrd : P.rd_T90 (t.map encA) i.at_ = encA x := by rw [hat]; exact rd62 hx
    have hlt : i.at_ < ((t.map encA).length : Int) := by rw [List.length_map, ht]; omega
    cases hy : leadY x b
    · refine ⟨1, ?_⟩
      simp only [P.fuglemanref14_All.j3]
      rw [if_pos (by trivial), if_pos (by omega), if_pos hlt, hrd, join_f x b hxo hb]
      simp only [Option.bind_some]
      rw [if_neg (by simp [hy]), h2 (by simp [hJ, hy])]
    · obtain ⟨K, h⟩ := h1 (by simp [hJ, hy])
      refine ⟨K + 1, ?_⟩
      simp only [P.fuglemanref14_All.j3]
      rw [if_pos (by trivial), if_pos (by omega), if_pos hlt, hrd, join_f x b hxo hb]
      simp only [Option.bind_some]
      rw [if_pos hy, wrapk (by omega), enc_lead hx]
      simpa [hJ] using h
theorem all_j2 {k : Nat} (hk : k < l.length) {t : Tab} (ht : t.length = l.length + 1) (hT : TOk t) (i : Ins) (hR : rightP i = true) {b : Ah} (hb : AOk b) (r : List P.S90 × Int × Int)
    (hj : jumpsP i = true → (k : Int) < i.at_ ∧ i.at_ ≤ l.length)
    (h1 : (jumpsP i && !leadB t i.at_.toNat b) = false → ∃ K, P.fuglemanref14_All.l0 K l (l.length : Int) ((if jumpsP i then leadT t i.at_.toNat b else t).map encA) ((k + 1 : Nat) : Int) = some r)
    (h2 : (jumpsP i && !leadB t i.at_.toNat b) = true → r = ([], 7, (k : Int))) :
    ∃ K, P.fuglemanref14_All.j2 K l (l.length : Int) (t.map encA) (k : Int) true i.op i.kind i.area i.at_ i.n true b.kind (encS b.opn) = some r := by
  obtain ⟨K, h⟩ := all_j3 l hn hk ht hT i hR hb r hj h1 h2
  refine ⟨K + 1, ?_⟩
  simp only [P.fuglemanref14_All.j2]
  rw [if_pos (by trivial)]
  by_cases h25 : i.op ≥ 25
  · have e : decide (i.op ≤ 27) = jumpsP i := by simp [jumpsP, h25]
    rw [if_pos h25, e]
    exact h
  · have e : jumpsP i = false := by simp [jumpsP]; omega
    rw [if_neg h25]
    rw [e] at h
    exact h
theorem all_j1 {k : Nat} (hk : k < l.length) {t : Tab} (ht : t.length = l.length + 1) (hT : TOk t) (i : Ins) (hR : rightP i = true) {b : Ah} (hb : AOk b) (r : List P.S90 × Int × Int)
    (hj : jumpsP i = true → (k : Int) < i.at_ ∧ i.at_ ≤ l.length)
    (h0 : (onP i && !leadB t (k + 1) b) = true → r = ([], 7, (k : Int)))
    (h1 : (onP i && !leadB t (k + 1) b) = false → ∀ t1, t1 = (if onP i then leadT t (k + 1) b else t) → (jumpsP i && !leadB t1 i.at_.toNat b) = false → ∃ K, P.fuglemanref14_All.l0 K l (l.length : Int) ((if jumpsP i then leadT t1 i.at_.toNat b else t1).map encA) ((k + 1 : Nat) : Int) = some r)
    (h2 : (onP i && !leadB t (k + 1) b) = false → ∀ t1, t1 = (if onP i then leadT t (k + 1) b else t) → (jumpsP i && !leadB t1 i.at_.toNat b) = true → r = ([], 7, (k : Int))) :
    ∃ K, P.fuglemanref14_All.j1 K l (l.length : Int) (t.map encA) (k : Int) true (onP i) i.op i.kind i.area i.at_ i.n true b.kind (encS b.opn) = some r := by
  cases hO : onP i
  · obtain ⟨K, h⟩ := all_j2 l hn hk ht hT i hR hb r hj (h1 (by simp [hO]) t (by simp [hO])) (h2 (by simp [hO]) t (by simp [hO]))
    refine ⟨K + 1, ?_⟩
    simp only [P.fuglemanref14_All.j1]
    rw [if_neg (by simp)]
    exact h
  · obtain ⟨x, hx⟩ : ∃ x, t[k + 1]? = some x := ⟨_, List.getElem?_eq_getElem (by omega)⟩
    have hxo : ∀ a, x = some a → AOk a := fun a ha => hT a (ha ▸ List.mem_of_getElem? hx)
    rw [leadB_at hx] at h0 h1 h2
    have hrd : P.rd_T90 (t.map encA) ((k + 1 : Nat) : Int) = encA x := rd62 hx
    have hlt : ((k + 1 : Nat) : Int) < ((t.map encA).length : Int) := by rw [List.length_map, ht]; omega
    have hset : ∀ y, (t.map encA).set (((k + 1 : Nat) : Int)).toNat y = (t.map encA).set (k + 1) y := by intro y; rw [Int.toNat_natCast]
    cases hy : leadY x b
    · refine ⟨3, ?_⟩
      simp only [P.fuglemanref14_All.j1]
      rw [if_pos (by trivial), wrapk (by omega), if_pos (by omega), if_pos hlt, hrd, join_f x b hxo hb]
      simp only [Option.bind_some, P.fuglemanref14_All.j2, P.fuglemanref14_All.j3]
      rw [if_neg (by simp [hy])]
      rw [if_neg (by simp), if_neg (by simp [hy]), h0 (by simp [hO, hy])]
    · have ht1 : (leadT t (k + 1) b).length = l.length + 1 := by rw [leadT_length]; exact ht
      obtain ⟨K, h⟩ := all_j2 l hn hk ht1 (hT.lead hx hb) i hR hb r hj (h1 (by simp [hO, hy]) _ (by simp [hO])) (h2 (by simp [hO, hy]) _ (by simp [hO]))
      refine ⟨K + 1, ?_⟩
      simp only [P.fuglemanref14_All.j1]
      rw [if_pos (by trivial), wrapk (by omega), if_pos (by omega), if_pos hlt, hrd, join_f x b hxo hb]
      simp only [Option.bind_some]
      rw [hset, enc_lead hx, hy]
      exact h
end
theorem rd65 {l : List P.S54} {k : Nat} {x : P.S54} (h : l[k]? = some x) : P.rd_T54 l (k : Int) = x := by
  simp [P.rd_T54, List.getD, h]
theorem all_l0 (l : List P.S54) (hok : ∀ x ∈ l, (toInsP x).Ok) (hn : l.length ≤ 200) : ∀ (d k : Nat) (t : Tab), k + d = l.length → t.length = l.length + 1 → TOk t →
    ∃ K, P.fuglemanref14_All.l0 K l (l.length : Int) (t.map encA) (k : Int) = some (resA (goP l.length ((l.map toInsP).drop k) k t)) := by
  intro d
  induction d with
  | zero =>
    intro k t hk ht hT
    obtain rfl : k = l.length := by omega
    obtain ⟨x, hx⟩ : ∃ x, t[l.length]? = some x := ⟨_, List.getElem?_eq_getElem (by omega)⟩
    refine ⟨1, ?_⟩
    rw [List.drop_of_length_le (by simp)]
    simp only [P.fuglemanref14_All.l0, goP]
    rw [if_neg (by omega), if_pos (by omega), if_pos (by rw [List.length_map, ht]; omega), rd62 hx, hx]
    cases x with
    | none => rfl
    | some a =>
      simp only [encA, if_true]
      have : ((encS a.opn).toList = ([] : List UInt8)) ↔ a.opn = [] := by
        rw [ByteArray.toList_eq]
        have := encSL_length a.opn
        constructor
        · intro h
          have h2 : encSL a.opn = [] := by simpa [encS] using h
          rw [h2] at this
          simp only [List.length_nil] at this
          exact List.length_eq_zero_iff.1 (by omega)
        · intro h; rw [h]; rfl
      by_cases h0 : a.opn = []
      · have e := this.2 h0
        simp only [h0, ne_eq, not_true_eq_false, if_false, resA]
        rw [h0] at e
        exact if_pos e
      · have e := fun h => h0 (this.1 h)
        simp only [h0, ne_eq, not_false_eq_true, if_true, resA]
        exact if_neg e
  | succ d ih =>
    intro k t hk ht hT
    have hkl : k < l.length := by omega
    obtain ⟨y, hy⟩ : ∃ y, l[k]? = some y := ⟨_, List.getElem?_eq_getElem hkl⟩
    obtain ⟨x, hx⟩ : ∃ x, t[k]? = some x := ⟨_, List.getElem?_eq_getElem (by omega)⟩
    have hoky := hok y (List.mem_of_getElem? hy)
    rw [go_step (i := toInsP y) (by rw [List.getElem?_map, hy]; rfl)]
    have hR : P.fuglemanref12_Right.f y.f0 y.f1 y.f2 y.f3 y.f4 = some (rightP (toInsP y)) := rightF_some hoky
    have hbeh : ∀ a, x = some a → rightP (toInsP y) = true → P.fuglemanref14_behind.f y.f0 y.f1 y.f2 y.f3 y.f4 (k : Int) (l.length : Int) true a.kind (encS a.opn) = some (true, (outR a (toInsP y) k l.length).kind, encS (outR a (toInsP y) k l.length).opn, errR a (toInsP y) k l.length) := by
      intro a ha hr
      have := hT a (ha ▸ List.mem_of_getElem? hx)
      exact behindF_some hr this.1 this.2
    cases hr : rightP (toInsP y)
    · refine ⟨1, ?_⟩
      simp only [P.fuglemanref14_All.l0]
      rw [if_pos (by omega), if_pos (by omega), if_pos (by omega), rd65 hy, hR]
      simp only [Option.bind_some]
      rw [hr, if_neg (by simp)]
      simp [stepP, hr, resA]
    · cases x with
      | none =>
        have hs : stepP l.length t k (toInsP y) = (0, t) := by simp [stepP, hr, hx]
        rw [hs, if_neg (by simp)]
        obtain ⟨K, h⟩ := ih (k + 1) t (by omega) ht hT
        refine ⟨K + 1, ?_⟩
        simp only [P.fuglemanref14_All.l0]
        rw [if_pos (by omega), if_pos (by omega), if_pos (by omega), rd65 hy, hR]
        simp only [Option.bind_some]
        rw [hr, if_pos rfl, if_pos (by rw [List.length_map, ht]; omega), rd62 hx, if_neg (by simp [encA, P.z90]), wrapk (by omega)]
        exact h
      | some a =>
        have hA : AOk a := hT a (List.mem_of_getElem? hx)
        have hb := hbeh a rfl hr
        by_cases he : errR a (toInsP y) k l.length = 0
        · have hJ : (jumpsP (toInsP y) && (decide ((toInsP y).at_ ≤ k) || decide ((l.length : Int) < (toInsP y).at_))) = false := by
            cases hj : (jumpsP (toInsP y) && (decide ((toInsP y).at_ ≤ k) || decide ((l.length : Int) < (toInsP y).at_)))
            · rfl
            · simp [errR, hj] at he
          have he2 : errP a (toInsP y) = 0 := by simpa [errR, hJ] using he
          have hout : outR a (toInsP y) k l.length = nextP a (toInsP y) := by simp [outR, he]
          have hN := next_ok hA he2
          have hj : jumpsP (toInsP y) = true → (k : Int) < (toInsP y).at_ ∧ (toInsP y).at_ ≤ l.length := by
            intro h
            simp [h] at hJ
            omega
          have hstep : stepP l.length t k (toInsP y) = (if onP (toInsP y) && !leadB t (k + 1) (nextP a (toInsP y)) then (7, t) else
              if jumpsP (toInsP y) && !leadB (if onP (toInsP y) then leadT t (k + 1) (nextP a (toInsP y)) else t) (toInsP y).at_.toNat (nextP a (toInsP y)) then (7, t) else
              (0, if jumpsP (toInsP y) then leadT (if onP (toInsP y) then leadT t (k + 1) (nextP a (toInsP y)) else t) (toInsP y).at_.toNat (nextP a (toInsP y)) else (if onP (toInsP y) then leadT t (k + 1) (nextP a (toInsP y)) else t))) := by
            unfold stepP
            rw [if_neg (by simp [hr])]
            simp only [hx]
            rw [if_neg (by simp [hJ]), if_neg (by simp [he2])]
          obtain ⟨x1, hx1⟩ : ∃ x, t[k + 1]? = some x := ⟨_, List.getElem?_eq_getElem (by omega)⟩
          obtain ⟨K, h⟩ := all_j1 l hn hkl ht hT (toInsP y) hr hN (resA (if (stepP l.length t k (toInsP y)).1 ≠ 0 then ((stepP l.length t k (toInsP y)).1, k, t) else goP l.length ((l.map toInsP).drop (k + 1)) (k + 1) (stepP l.length t k (toInsP y)).2)) hj
            (by intro h; rw [hstep, if_pos h]; simp [resA])
            (by
              intro h t1 ht1 h2
              subst ht1
              rw [hstep]
              simp only [h, h2, Bool.false_eq_true, if_false, ne_eq, not_true_eq_false]
              have hl1 : (if onP (toInsP y) then leadT t (k + 1) (nextP a (toInsP y)) else t).length = l.length + 1 := by split <;> simp [leadT_length, ht]
              have hT1 : TOk (if onP (toInsP y) then leadT t (k + 1) (nextP a (toInsP y)) else t) := by
                split
                · exact hT.lead hx1 hN
                · exact hT
              refine ih (k + 1) _ (by omega) ?_ ?_
              · split <;> simp only [leadT_length, hl1]
              · split
                · rename_i hjj
                  have := hj hjj
                  obtain ⟨x2, hx2⟩ : ∃ x, (if onP (toInsP y) then leadT t (k + 1) (nextP a (toInsP y)) else t)[(toInsP y).at_.toNat]? = some x := ⟨_, List.getElem?_eq_getElem (by omega)⟩
                  exact hT1.lead hx2 hN
                · exact hT1)
            (by intro h t1 ht1 h2; subst ht1; rw [hstep]; simp only [h, h2, Bool.false_eq_true, if_false, if_true]; simp [resA])
          refine ⟨K + 1, ?_⟩
          simp only [P.fuglemanref14_All.l0]
          rw [if_pos (by omega), if_pos (by omega), if_pos (by omega), rd65 hy, hR]
          simp only [Option.bind_some]
          rw [hr, if_pos rfl, if_pos (by rw [List.length_map, ht]; omega), rd62 hx, if_pos (show (encA (some a)).f0 = true from rfl)]
          simp only [encA]
          rw [hb]
          simp only [Option.bind_some]
          rw [if_pos he, hout]
          by_cases h25 : y.f0 = 25
          · rw [if_pos h25]
            have eo : onP (toInsP y) = false := by simp [onP, toInsP, h25]
            rw [eo] at h
            exact h
          · rw [if_neg h25]
            have eo : onP (toInsP y) = (y.f0 != 28) := Bool.eq_iff_iff.2 (by simp [onP, toInsP, h25])
            rw [eo] at h
            exact h
        · refine ⟨1, ?_⟩
          have hs : stepP l.length t k (toInsP y) = (errR a (toInsP y) k l.length, t) := by
            unfold stepP
            rw [if_neg (by simp [hr])]
            simp only [hx]
            unfold errR at he ⊢
            split
            · rename_i hj
              rfl
            · rename_i hj
              rw [if_neg hj] at he
              rw [if_pos he]
          rw [hs, if_pos he]
          simp only [P.fuglemanref14_All.l0]
          rw [if_pos (by omega), if_pos (by omega), if_pos (by omega), rd65 hy, hR]
          simp only [Option.bind_some]
          rw [hr, if_pos rfl, if_pos (by rw [List.length_map, ht]; omega), rd62 hx, if_pos (show (encA (some a)).f0 = true from rfl)]
          simp only [encA]
          rw [hb]
          simp only [Option.bind_some]
          rw [if_neg he]
          simp [resA, he]
/-- The reference's All is allP. -/
theorem all_f (l : List P.S54) (hok : ∀ x ∈ l, (toInsP x).Ok) : ∃ K, P.fuglemanref14_All.f K l = some (resA (allP (l.map toInsP))) := by
  unfold allP
  rw [List.length_map]
  by_cases h200 : 200 < l.length
  · refine ⟨0, ?_⟩
    unfold P.fuglemanref14_All.f
    rw [if_pos (by omega), if_pos h200]
    rfl
  · have hs0 : AOk ⟨0, []⟩ := ⟨by simp, by intro x hx; cases hx⟩
    have hTs : TOk (startT l.length) := by
      intro a ha
      unfold startT at ha
      rcases List.mem_or_eq_of_mem_set ha with h1 | h1
      · simp at h1
      · injection h1 with h1; subst h1; exact hs0
    obtain ⟨K, h⟩ := all_l0 l hok (by omega) l.length 0 (startT l.length) (by omega) (by simp [startT]) hTs
    refine ⟨K, ?_⟩
    unfold P.fuglemanref14_All.f
    have hw := wrapk (k := l.length) (by omega)
    rw [if_neg (by omega), hw, if_pos (by omega), Int.toNat_natCast, if_pos (by omega)]
    simp only [Option.bind_some, List.length_replicate]
    rw [if_pos (by omega), if_neg h200]
    have e : (List.replicate (l.length + 1) P.z90).set (0 : Int).toNat ⟨true, (P.rd_T90 (List.replicate (l.length + 1) P.z90) 0).f1, (P.rd_T90 (List.replicate (l.length + 1) P.z90) 0).f2⟩ = (startT l.length).map encA := by
      unfold startT
      rw [List.map_set, List.map_replicate]
      rfl
    rw [e]
    simpa using h
end Go.Proofs.Ytedmikeamgebjaa
