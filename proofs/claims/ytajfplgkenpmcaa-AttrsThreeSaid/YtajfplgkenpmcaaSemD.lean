/- The laws of attributes, of the plain functions. -/
import Derived.Test.YtajfplgkenpmcaaSemC
namespace Go.Proofs.Ytajfplgkenpmcaa.Sem
open Go.RowKit Go.Proofs.YtajfplgkenpmcaaW.PrintWords Go.Proofs.YtajfplgkenpmcaaW.PrintLast Go.Proofs.Ytajfplgkenpmcaa.Sp
set_option linter.unusedVariables false
set_option linter.unusedSimpArgs false

theorem cA (f : Bool) (x y : Option ByteArray) : comb (0, f) x y = match y with | some v => if v.toList = [] then none else some v | none => x := by cases x <;> cases y <;> simp [comb]
theorem cC (f : Bool) (x y : Option ByteArray) : comb (1, f) x y = match y with | some v => some v | none => x := by cases x <;> cases y <;> simp [comb]
theorem cF (f : Bool) (x y : Option ByteArray) : comb (2, f) x y = match y with | some v => (match x with | none => some v | some _ => if f = true then some v else none) | none => none := by cases x <;> cases y <;> simp [comb]
theorem cI (f : Bool) (x y : Option ByteArray) : comb (3, f) x y = match y with | none => none | some v => (match x with | none => if v.toList = [] then none else some ⟨#[]⟩ | some u => if u.toList = v.toList then none else some u) := by cases x <;> cases y <;> simp [comb]
theorem few_ok {x y : List S36} (h : fewS x = (y, 0)) : y = x ∧ x.length ≤ 8 := by
  unfold fewS at h
  split at h
  · simp at h
  · simp at h; exact ⟨h.symm, by omega⟩
theorem few_fits {x : List S36} (h : x.length ≤ 8) : fewS x = (x, 0) := by unfold fewS; rw [if_neg (by omega)]
theorem few_len (x : List S36) : (fewS x).1.length ≤ 8 := by
  unfold fewS
  split
  · exact Nat.zero_le _
  · rename_i h
    show x.length ≤ 8
    omega
theorem compose_len (a b : List S36) : (composeS a b).1.length ≤ 8 := by
  unfold composeS
  split
  · exact few_len _
  · exact Nat.zero_le _
theorem apply_len (a b : List S36) : (applyS a b).1.length ≤ 8 := by
  unfold applyS
  split
  · exact few_len _
  · exact Nat.zero_le _
theorem apply_err {l c : List S36} (h : (applyS l c).2 ≠ 0) : (applyS l c).1 = [] := by
  unfold applyS fewS at h ⊢
  by_cases h1 : (rightOk l && changeOk c) = true
  · rw [if_pos h1] at h ⊢
    by_cases h2 : (mergeS (0, false) l c).length > 8
    · rw [if_pos h2]
    · rw [if_neg h2] at h; exact absurd rfl h
  · rw [if_neg h1]
theorem apply_ok {l c x : List S36} (h : applyS l c = (x, 0)) : Ri l ∧ Ch c ∧ x = mergeS (0, false) l c ∧ x.length ≤ 8 := by
  unfold applyS at h
  split at h
  · rename_i h1
    rw [Bool.and_eq_true, right_iff, change_iff] at h1
    obtain ⟨rfl, h2⟩ := few_ok h
    exact ⟨h1.1, h1.2, rfl, h2⟩
  · simp at h
theorem apply_eq {l c : List S36} (hl : Ri l) (hc : Ch c) : applyS l c = fewS (mergeS (0, false) l c) := by
  unfold applyS
  rw [(right_iff l).2 hl, (change_iff c).2 hc]
  rfl
theorem compose_ok {a b x : List S36} (h : composeS a b = (x, 0)) : Ch a ∧ Ch b ∧ x = mergeS (1, false) a b ∧ x.length ≤ 8 := by
  unfold composeS at h
  split at h
  · rename_i h1
    rw [Bool.and_eq_true, change_iff, change_iff] at h1
    obtain ⟨rfl, h2⟩ := few_ok h
    exact ⟨h1.1, h1.2, rfl, h2⟩
  · simp at h
theorem compose_eq {a b : List S36} (ha : Ch a) (hb : Ch b) : composeS a b = fewS (mergeS (1, false) a b) := by
  unfold composeS
  rw [(change_iff a).2 ha, (change_iff b).2 hb]
  rfl
theorem follow_eq {a b : List S36} (f : Bool) (ha : Ch a) (hb : Ch b) : followS a b f = (mergeS (2, f) a b, 0) := by
  unfold followS
  rw [(change_iff a).2 ha, (change_iff b).2 hb]
  rfl
theorem invert_eq {l c : List S36} (hl : Ri l) (hc : Ch c) : invertS l c = (mergeS (3, false) l c, 0) := by
  unfold invertS
  rw [(right_iff l).2 hl, (change_iff c).2 hc]
  rfl
/-- What Apply makes is attributes. -/
theorem apply_ri {l c : List S36} (hl : Ri l) (hc : Ch c) (h8 : (mergeS (0, false) l c).length ≤ 8) : Ri (mergeS (0, false) l c) := by
  refine ⟨hl.1.merge hc h8, fun x hx => ?_⟩
  have h := lk_of_mem (asc_merge (0, false) l c hl.1.2.2 hc.2.2) hx
  rw [lk_merge _ _ _ hl.1.2.2 hc.2.2, cA] at h
  cases hy : lk c x.f0.toList with
  | none => rw [hy] at h; exact hl.lk h
  | some v =>
    rw [hy] at h
    simp only at h
    split at h
    · cases h
    · injection h with h; rw [← h]; assumption
/-- A row that is left of a change is a change. -/
theorem sub_len {l m : List S36} (hl : asc l) (hm : asc m) (h : ∀ a ∈ l, ∃ b ∈ m, a.f0.toList = b.f0.toList) : l.length ≤ m.length := by
  have hn : ∀ {x : List S36}, asc x → (x.map fun a => a.f0.toList).Nodup := fun {x} hx => by
    have : (x.map fun a => a.f0.toList).Pairwise (fun a b => a ≠ b) := by
      rw [List.pairwise_map]
      exact hx.imp fun h => lt_ne h
    exact this
  have := List.Nodup.length_le_of_subset (hn hl) (l₂ := m.map fun a => a.f0.toList) (fun k hk => by
    obtain ⟨a, ha, rfl⟩ := List.mem_map.1 hk
    obtain ⟨b, hb, e⟩ := h a ha
    exact List.mem_map.2 ⟨b, hb, e.symm⟩)
  simpa using this
theorem right_keys {c : Nat × Bool} {l m : List S36} (hc : ∀ x, comb c x none = none) (hl : asc l) (hm : asc m) : ∀ a ∈ mergeS c l m, ∃ b ∈ m, a.f0.toList = b.f0.toList := by
  intro a ha
  have h := lk_of_mem (asc_merge c l m hl hm) ha
  rw [lk_merge c l m hl hm] at h
  cases hy : lk m a.f0.toList with
  | none => rw [hy, hc] at h; cases h
  | some v =>
    obtain ⟨b, hb, e, _⟩ := lk_mem hy
    exact ⟨b, hb, e.symm⟩
theorem follow_ch {a b : List S36} (f : Bool) (ha : Ch a) (hb : Ch b) : Ch (mergeS (2, f) a b) :=
  ha.merge hb (Nat.le_trans (sub_len (asc_merge _ _ _ ha.2.2 hb.2.2) hb.2.2 (right_keys (fun x => by rw [cF]) ha.2.2 hb.2.2)) hb.1)
theorem invert_ch {l c : List S36} (hl : Ri l) (hc : Ch c) : Ch (mergeS (3, false) l c) :=
  hl.1.merge hc (Nat.le_trans (sub_len (asc_merge _ _ _ hl.1.2.2 hc.2.2) hc.2.2 (right_keys (fun x => by rw [cI]) hl.1.2.2 hc.2.2)) hc.1)

theorem three_law {a b c : List S36} (ha : Ch a) (hb : Ch b) (hc : Ch c) (h1 : (mergeS (1, false) a b).length ≤ 8) (h2 : (mergeS (1, false) b c).length ≤ 8) :
    composeS (mergeS (1, false) a b) c = composeS a (mergeS (1, false) b c) := by
  have hab := ha.merge hb h1
  have hbc := hb.merge hc h2
  rw [compose_eq hab hc, compose_eq ha hbc]
  have : mergeS (1, false) (mergeS (1, false) a b) c = mergeS (1, false) a (mergeS (1, false) b c) := by
    refine asc_ext (asc_merge _ _ _ hab.2.2 hc.2.2) (asc_merge _ _ _ ha.2.2 hbc.2.2) fun q => ?_
    rw [lk_merge _ _ _ hab.2.2 hc.2.2, lk_merge _ _ _ ha.2.2 hb.2.2, lk_merge _ _ _ ha.2.2 hbc.2.2, lk_merge _ _ _ hb.2.2 hc.2.2]
    simp only [cC]
    cases lk c q <;> cases lk b q <;> rfl
  rw [this]
theorem meets_law {l a b : List S36} (f : Bool) (hl : Ri l) (ha : Ch a) (hb : Ch b) (h1 : (mergeS (0, false) l a).length ≤ 8) (h2 : (mergeS (0, false) l b).length ≤ 8) :
    applyS (mergeS (0, false) l a) (mergeS (2, f) a b) = applyS (mergeS (0, false) l b) (mergeS (2, !f) b a) := by
  have hx := apply_ri hl ha h1
  have hy := apply_ri hl hb h2
  have hp := follow_ch f ha hb
  have hq := follow_ch (!f) hb ha
  rw [apply_eq hx hp, apply_eq hy hq]
  have : mergeS (0, false) (mergeS (0, false) l a) (mergeS (2, f) a b) = mergeS (0, false) (mergeS (0, false) l b) (mergeS (2, !f) b a) := by
    refine asc_ext (asc_merge _ _ _ hx.1.2.2 hp.2.2) (asc_merge _ _ _ hy.1.2.2 hq.2.2) fun q => ?_
    rw [lk_merge _ _ _ hx.1.2.2 hp.2.2, lk_merge _ _ _ hl.1.2.2 ha.2.2, lk_merge _ _ _ ha.2.2 hb.2.2, lk_merge _ _ _ hy.1.2.2 hq.2.2, lk_merge _ _ _ hl.1.2.2 hb.2.2, lk_merge _ _ _ hb.2.2 ha.2.2]
    simp only [cA, cF]
    cases lk a q with
    | none => cases lk b q <;> rfl
    | some v =>
      cases lk b q with
      | none => rfl
      | some u => cases f <;> simp
  rw [this]
theorem back_law {l a : List S36} (hl : Ri l) (ha : Ch a) (h1 : (mergeS (0, false) l a).length ≤ 8) :
    applyS (mergeS (0, false) l a) (mergeS (3, false) l a) = (l, 0) := by
  have hx := apply_ri hl ha h1
  have hu := invert_ch hl ha
  rw [apply_eq hx hu]
  have : mergeS (0, false) (mergeS (0, false) l a) (mergeS (3, false) l a) = l := by
    refine asc_ext (asc_merge _ _ _ hx.1.2.2 hu.2.2) hl.1.2.2 fun q => ?_
    rw [lk_merge _ _ _ hx.1.2.2 hu.2.2, lk_merge _ _ _ hl.1.2.2 ha.2.2, lk_merge _ _ _ hl.1.2.2 ha.2.2]
    simp only [cA, cI]
    cases hq : lk l q with
    | none =>
      cases lk a q with
      | none => rfl
      | some v => by_cases h : v.toList = [] <;> simp [h, empty_toList]
    | some u =>
      have hu := hl.lk hq
      cases lk a q with
      | none => rfl
      | some v =>
        by_cases h : u.toList = v.toList
        · have hv : v.toList ≠ [] := by rw [← h]; exact hu
          have e : v = u := (ba_ext.1 h).symm
          simp [h, hv, e]
        · simp [h, hu]
  rw [this, few_fits hl.1.1]
theorem two_law {l a b : List S36} (hl : Ri l) (ha : Ch a) (hb : Ch b) (h1 : (mergeS (0, false) l a).length ≤ 8) (h2 : (mergeS (0, false) (mergeS (0, false) l a) b).length ≤ 8) (h3 : (mergeS (1, false) a b).length ≤ 8) :
    applyS l (mergeS (1, false) a b) = (mergeS (0, false) (mergeS (0, false) l a) b, 0) := by
  have hx := apply_ri hl ha h1
  have hab := ha.merge hb h3
  rw [apply_eq hl hab]
  have : mergeS (0, false) l (mergeS (1, false) a b) = mergeS (0, false) (mergeS (0, false) l a) b := by
    refine asc_ext (asc_merge _ _ _ hl.1.2.2 hab.2.2) (asc_merge _ _ _ hx.1.2.2 hb.2.2) fun q => ?_
    rw [lk_merge _ _ _ hl.1.2.2 hab.2.2, lk_merge _ _ _ ha.2.2 hb.2.2, lk_merge _ _ _ hx.1.2.2 hb.2.2, lk_merge _ _ _ hl.1.2.2 ha.2.2]
    simp only [cA, cC]
    cases lk b q <;> rfl
  rw [this, few_fits h2]
theorem merge_nil_right (c : Nat × Bool) {l : List S36} (h : ∀ x, comb c x none = x) (hl : asc l) : mergeS c l [] = l :=
  asc_ext (asc_merge _ _ _ hl asc_nil) hl fun q => by rw [lk_merge _ _ _ hl asc_nil]; exact h _
theorem merge_nil_left (c : Nat × Bool) {l : List S36} (h : ∀ x, comb c none x = x) (hl : asc l) : mergeS c [] l = l :=
  asc_ext (asc_merge _ _ _ asc_nil hl) hl fun q => by rw [lk_merge _ _ _ asc_nil hl]; exact h _
theorem merge_none (c : Nat × Bool) {l : List S36} (h : ∀ x, comb c x none = none) (hl : asc l) : mergeS c l [] = [] :=
  asc_ext (asc_merge _ _ _ hl asc_nil) asc_nil fun q => by rw [lk_merge _ _ _ hl asc_nil]; exact h _
end Go.Proofs.Ytajfplgkenpmcaa.Sem
