/- The reference's All as a contract, and the walk of the law VerifyChecks. -/
import Derived.Test.YtnehookocnijpaaVAllPure
import Derived.Test.YtnehookocnijpaaVAwake
set_option linter.unusedVariables false
set_option linter.unusedSimpArgs false
namespace Go.Proofs.Ytnehookocnijpaa
open Go.RowKit Go.Proofs.YtnehookocnijpaaW.PrintWords Go.Proofs.YtnehookocnijpaaW.PrintLast Go.Proofs.YtnehookocnijpaaW.PrintMore

def toS (i : Ins) : P.S65 := ⟨i.op, i.kind, i.area, i.at_, i.n⟩
theorem toInsP_toS (i : Ins) : toInsP (toS i) = i := rfl
theorem map_toS (l : List Ins) : (l.map toS).map toInsP = l := by
  rw [List.map_map]
  exact List.map_id' l
theorem C_of_rsn {w : World} {v : Value} {l : List Ins} (h : RSn w 5 encI v l) : ∃ A c, v = .slice A (l.map toS).length c ∧ (l.map toS).length ≤ c ∧ Kd.C P.k65 w A (l.map toS).length (l.map toS) := by
  obtain ⟨A, c, rfl, h1, h2, h3⟩ := h
  refine ⟨A, c, by rw [List.length_map], by rw [List.length_map]; exact h1, rfl, by rw [List.length_map]; exact h2, fun hpos => ?_⟩
  obtain ⟨b, off, rfl, hb, hc⟩ := h3 (by rintro rfl; simp at hpos)
  refine ⟨_, rfl, fun j p hp => ?_⟩
  rw [List.getElem?_map] at hp
  obtain ⟨i, hi, rfl⟩ := Option.map_eq_some_iff.1 hp
  refine ⟨encI i, rfl, P.k65_mk w (toS i), fun m u hu => ?_⟩
  have hm : m < 5 := by
    have := (List.getElem?_eq_some_iff.1 hu).1
    simpa [encI] using this
  have e : (⟨b, off, none⟩ : Addr).add (j * 5 + m) = ⟨b, off + (j * 5 + m), none⟩ := by
    unfold Addr.add
    split
    · rename_i h; simp [h]
    · rfl
  show w.cell? ((⟨b, off, none⟩ : Addr).add (j * 5 + m)) = some u
  rw [e, hc j i hi m hm, hu]
theorem goP_at0 {n : Nat} : ∀ (l : List Ins) (k : Nat) (t : Tab), (goP n l k t).1 = 0 → (goP n l k t).2.1 = 0
  | [], k, t, h => by
    unfold goP at h ⊢
    split at h
    · rename_i a ha
      split at h
      · simp at h
      · rename_i h2
        simp only [ha, if_neg h2]
    · rfl
  | i :: is, k, t, h => by
    unfold goP at h ⊢
    split at h
    · rename_i hne
      exact absurd h hne
    · rename_i hne
      rw [if_neg hne]
      exact goP_at0 is _ _ h
theorem allP_at0 {l : List Ins} (h : (allP l).1 = 0) : (allP l).2.1 = 0 := by
  unfold allP at h ⊢
  split at h
  · simp at h
  · rename_i h2
    rw [if_neg h2]
    exact goP_at0 l _ _ h
theorem r_all (v : Value) (l : List Ins) (w : World) (h : RSn w 5 encI v l) (hok : ∀ i ∈ l, i.Ok) : Calls Try.prog 30 #[v] w fun e w' => ∃ v0, e = .returned (.tuple #[v0, .int .i64 (allP l).1, .int .i64 ((allP l).2.1 : Int)]) ∧ Mod [] w w' ∧
    ((allP l).1 = 0 → ∃ b off c, v0 = .slice (some ⟨b, off, none⟩) (l.length + 1) c ∧ l.length + 1 ≤ c ∧ b < w'.heap.size ∧ ∀ k x, (allP l).2.2[k]? = some x → w'.cell? ⟨b, off + k * 3, none⟩ = some (.bool (encA x).f0) ∧ w'.cell? ⟨b, off + k * 3 + 1, none⟩ = some (.int .i64 (encA x).f1)) := by
  obtain ⟨A, c, rfl, hc, hC⟩ := C_of_rsn h
  obtain ⟨K, hK⟩ := all_f (l.map toS) (by
    intro x hx
    obtain ⟨i, hi, rfl⟩ := List.mem_map.1 hx
    exact hok i hi)
  rw [map_toS] at hK
  by_cases h0 : (allP l).1 = 0
  · have h00 := allP_at0 h0
    have hlen := allP_len h0
    have er : resA (allP l) = ((allP l).2.2.map encA, 0, 0) := by unfold resA; rw [if_neg (by simpa using h0)]
    rw [er] at hK
    refine (P.fuglemanref14_All.calls K A c (l.map toS) _ _ _ w hC hc hK).mono fun e w' hh => ?_
    obtain ⟨v0, rfl, hR, hB⟩ := hh
    refine ⟨v0, by rw [h0, h00]; rfl, Mod.below hB, fun _ => ?_⟩
    obtain ⟨A1, c1, rfl, hc1, hC1⟩ := Kd.R_reads hR
    have hl1 : ((allP l).2.2.map encA).length = l.length + 1 := by rw [List.length_map, hlen]
    have key : ∀ (k : Nat) (x : Option Ah), (allP l).2.2[k]? = some x → ∃ ad, A1 = some ad ∧ w'.cell? (ad.add (k * 3)) = some (.bool (encA x).f0) ∧ w'.cell? ⟨(ad.add (k * 3)).block, (ad.add (k * 3)).off + 1, none⟩ = some (.int .i64 (encA x).f1) := by
      intro k x hx
      have hk : k < (allP l).2.2.length := (List.getElem?_eq_some_iff.1 hx).1
      obtain ⟨ad, e1, e2, e3, e4⟩ := P.at_T62 hC1 (k : Int) (by omega) (by rw [List.length_map]; omega)
      rw [Int.toNat_natCast, rd62 hx] at e2 e3
      exact ⟨ad, e1, e2, e3⟩
    obtain ⟨x0, hx0⟩ : ∃ x, (allP l).2.2[0]? = some x := ⟨_, List.getElem?_eq_getElem (by omega)⟩
    obtain ⟨ad, rfl, g1, g2⟩ := key 0 x0 hx0
    have ha0 : ad.add (0 * 3) = ad := by simp [Addr.add]
    rw [ha0] at g1
    have hspot : ad.spot = none := World.cell?_spot g1
    obtain ⟨b, off, spot⟩ := ad
    simp only at hspot
    subst hspot
    refine ⟨b, off, c1, by rw [hl1], by rw [← hl1]; exact hc1, World.block_lt_of_cell? _ _ g1, fun k x hx => ?_⟩
    obtain ⟨ad, e1, e2, e3⟩ := key k x hx
    injection e1 with e1
    subst e1
    have e : (⟨b, off, none⟩ : Addr).add (k * 3) = ⟨b, off + k * 3, none⟩ := by
      unfold Addr.add
      split
      · rename_i h; simp [h]
      · rfl
    rw [e] at e2 e3
    exact ⟨e2, e3⟩
  · have er : resA (allP l) = ([], (allP l).1, ((allP l).2.1 : Int)) := by unfold resA; rw [if_pos h0]
    rw [er] at hK
    refine (P.fuglemanref14_All.calls K A c (l.map toS) _ _ _ w hC hc hK).mono fun e w' hh => ?_
    obtain ⟨v0, rfl, hR, hB⟩ := hh
    exact ⟨v0, rfl, Mod.below hB, fun h => absurd h h0⟩
def kOf : Option Ah → Int
  | none => -1
  | some a => a.kind
theorem kindsP_get {l : List Ins} {t : Tab} {k : Nat} {x : Option Ah} (hk : k < l.length) (hx : t[k]? = some x) : (kindsP l t)[k]? = some (kOf x) := by
  unfold kindsP
  rw [List.getElem?_map, List.getElem?_take, if_pos hk, hx]
  cases x <;> rfl
theorem Sl.cells {w : World} {v : Value} {n : Nat} {xs : List Int} {ob : Option Nat} (h : Sl w 3 1 v n (xs.flatMap encN) ob) : ∃ ao c, v = .slice ao n c ∧ n ≤ c ∧ (0 < n → ∃ g off, ao = some ⟨g, off, none⟩ ∧ g < w.heap.size ∧ ∀ k x, xs[k]? = some x → w.cell? ⟨g, off + k, none⟩ = some (.int .i64 x)) := by
  obtain ⟨ao, c, rfl, hc, hf⟩ := h.form
  refine ⟨ao, c, rfl, hc, fun hn => ?_⟩
  obtain ⟨g, off, rfl, rfl⟩ := hf hn
  refine ⟨g, off, rfl, h.lt g rfl, fun k x hx => ?_⟩
  have hl : xs.length = n := by
    have := h.1
    rw [flat_length encN 1 (fun _ => rfl)] at this
    omega
  have hk : k < xs.length := (List.getElem?_eq_some_iff.1 hx).1
  rw [h.cell k (by omega)]
  have := flat_get encN 1 (fun _ => rfl) xs k 0 x hx (by omega)
  simpa [encN] using this

set_option maxRecDepth 100000 in
set_option maxHeartbeats 1600000 in
theorem checks_walk (v : Value) (l : List Ins) (w : World) (h : RSn w 5 encI v l) (hok : ∀ i ∈ l, i.Ok) : Calls Try.prog 5 #[v] w fun e w' => e = .returned (.bool true) ∧ Mod [] w w' := by
  have HC := Lib.hid (fun w1 (m : Mod [] w w1) => v_check v l w1 (h.mod m) hok)
  have HA := Lib.hid (fun w1 (m : Mod [] w w1) => r_all v l w1 (h.mod m) hok)
  have HK := Lib.hid (fun w1 (m : Mod [] w w1) => v_kinds v l w1 (h.mod m) hok)
  obtain ⟨ao, cap, rfl, hlc, hmx, _⟩ := h
  clear hok
  by_cases h210 : 210 < l.length
  · have h2 : (210 : Int) < (l.length : Int) := by omega
    go_enter Try.func5, Try.ntmps5
    go_wp2_with (go_at_call 28; refine (v_awake _).mono ?_; rintro e w1 ⟨rfl, hm1⟩)
    go_ret
    exact ⟨rfl, hm1⟩
  have h2 : ¬ ((210 : Int) < (l.length : Int)) := by omega
  by_cases h0 : (allP l).1 = 0
  · have hlen := allP_len h0
    have hd : decide ((allP l).1 = 0) = true := by simp [h0]
    rw [hd] at HK
    have H0 := Lib.hid h0
    clear h0 hd
    have hne : ((allP l).1 == 0) = true := by rw [H0.out]; rfl
    go_enter Try.func5, Try.ntmps5
    go_wp2_with (first | (go_at_call 28; refine (v_awake _).mono ?_; rintro e w1 ⟨rfl, hm1⟩) | (go_at_call 29; refine (HC.out _ hm1).mono ?_; rintro e w2 ⟨rfl, hm2⟩; have hm12 := hm1.trans hm2) | (go_at_call 30; refine (HA.out _ hm12).mono ?_; rintro e w3 ⟨v0, rfl, hm3, hv0⟩; have hm13 := hm12.trans hm3; obtain ⟨b0, off0, c0, rfl, hc0, hb0, hcell0⟩ := hv0 H0.out; have HR := Lib.hid hcell0; clear hcell0 hv0) | (go_at_call 31; refine (HK.out _ hm13).mono ?_; rintro e w4 ⟨sv, rfl, hm4, _, hsv⟩; obtain ⟨ob, hsl⟩ := hsv H0.out; obtain ⟨ao4, c4, rfl, hc4, hcell4⟩ := hsl.cells; have HS := Lib.hid hcell4; have hb04 : b0 < w4.heap.size := Nat.lt_of_lt_of_le hb0 hm4.size; have hm14 := hm13.trans hm4; clear hsv hsl hcell4))
    generalize hn : l.length = n at *
    go_loop [52] (fun v => ∃ k : Nat, k ≤ n ∧ v = .int .i64 (k : Int)) (fun v => n - (intOf v).toNat)
    case atStart => exact ⟨0, Nat.zero_le _, rfl⟩
    case round =>
      obtain ⟨k, hk, rfl⟩ := hrel
      by_cases hlt : k < n
      · obtain ⟨x, hx⟩ : ∃ x, (allP l).2.2[k]? = some x := ⟨_, List.getElem?_eq_getElem (by omega)⟩
        have hkx := kindsP_get (l := l) (by omega) hx
        have d0 := hm4.cell (HR.out k x hx).1 (by simp)
        have d1 := hm4.cell (HR.out k x hx).2 (by simp)
        obtain ⟨g, goff, rfl, hg, hgc⟩ := HS.out (by omega)
        have d2 := hgc k _ hkx
        clear hkx hgc hx
        cases x with
        | none =>
          simp only [encA, P.z62, kOf] at d0 d1 d2
          go_wp2_with (fail)
          go_round
          case rel => exact ⟨k + 1, by omega, by go_num⟩
          case measure => simp [intOf]; omega
        | some a =>
          simp only [encA, kOf] at d0 d1 d2
          go_wp2_with (fail)
          go_round
          case rel => exact ⟨k + 1, by omega, by go_num⟩
          case measure => simp [intOf]; omega
      · have hkn : k = n := by omega
        subst hkn
        go_wp2_with (fail)
        go_wp2_with (fail)
        go_ret
        refine ⟨by simp, hm14⟩
  · have hd : decide ((allP l).1 = 0) = false := by simp [h0]
    rw [hd] at HK
    have hne : ((allP l).1 == 0) = false := by rw [beq_eq_false_iff_ne]; exact h0
    have H0 := Lib.hid h0
    clear h0 hd
    go_enter Try.func5, Try.ntmps5
    go_wp2_with (first | (go_at_call 28; refine (v_awake _).mono ?_; rintro e w1 ⟨rfl, hm1⟩) | (go_at_call 29; refine (HC.out _ hm1).mono ?_; rintro e w2 ⟨rfl, hm2⟩; have hm12 := hm1.trans hm2) | (go_at_call 30; refine (HA.out _ hm12).mono ?_; rintro e w3 ⟨v0, rfl, hm3, hv0⟩; have hm13 := hm12.trans hm3) | (go_at_call 31; refine (HK.out _ hm13).mono ?_; rintro e w4 ⟨sv, rfl, hm4, hsv, _⟩; obtain rfl := hsv H0.out; have hm14 := hm13.trans hm4))
    go_ret
    exact ⟨rfl, hm14⟩
end Go.Proofs.Ytnehookocnijpaa
