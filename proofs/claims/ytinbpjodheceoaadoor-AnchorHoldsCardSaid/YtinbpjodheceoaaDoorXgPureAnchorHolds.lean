/- The pure statement of AnchorHolds: a range takes along just what it held. -/
import Derived.Test.YtinbpjodheceoaaDoorXgSemX
import Derived.Test.YtinbpjodheceoaaDoorXgSemV
import Derived.Test.YtinbpjodheceoaaDoorXgSp41
namespace Go.Proofs.YtinbpjodheceoaaDoor.Pure
open Go.RowKit Go.Proofs.YtinbpjodheceoaaDoorW.PrintWords Go.Proofs.YtinbpjodheceoaaDoorW.PrintLast Go.Proofs.YtinbpjodheceoaaDoorW.PrintMore Go.Proofs.YtinbpjodheceoaaDoor.Sp Go.Proofs.YtinbpjodheceoaaDoor.Sem
set_option linter.unusedVariables false
set_option linter.unusedSimpArgs false
def Pk (p : Int) (e : Bool) (old now : Int) (l : List Int) (pl : Int) : Prop := (cntK p e old l = 0 ∧ pl ≤ now) ∨ pl = now + cntK p e old l
theorem pk_ins {p old now pl : Int} {e : Bool} {l : List Int} (h : Pk p e old now (2 :: l) pl) : (now < pl ↔ (old < p ∨ (e = true ∧ old = p))) ∧ Pk p e old (now + 1) l pl := by
 unfold Pk at h ⊢
 simp only [cntK, if_true] at h
 have nn := (cnt_nonneg p e l old).1
 by_cases hit : old < p ∨ (e = true ∧ old = p)
 ·rw [if_pos hit] at h
  exact ⟨⟨fun _ => hit, fun _ => by omega⟩, .inr (by omega)⟩
 ·rw [if_neg hit] at h
  have z := cnt_zero p e l old (by have : ¬ old < p := fun h => hit (.inl h); omega) (fun h => hit (.inr h))
  exact ⟨⟨fun h' => by omega, fun h' => absurd h' hit⟩, .inl ⟨z, by omega⟩⟩
theorem pk_keep {p old now pl k : Int} {e : Bool} {l : List Int} (k2 : ¬ k = 2) (k3 : ¬ k = 3) (h : Pk p e old now (k :: l) pl) : (now < pl ↔ old < p) ∧ Pk p e (old + 1) (now + 1) l pl := by
 unfold Pk at h ⊢
 simp only [cntK, if_neg k2, if_neg k3] at h
 have nn := (cnt_nonneg p e l (old + 1)).1
 by_cases hit : old < p
 ·rw [if_pos hit] at h
  exact ⟨⟨fun _ => hit, fun _ => by omega⟩, .inr (by omega)⟩
 ·rw [if_neg hit] at h
  have z := cnt_zero p e l (old + 1) (by omega) (fun h => by omega)
  exact ⟨⟨fun h' => by omega, fun h' => absurd h' hit⟩, .inl ⟨z, by omega⟩⟩
theorem pk_del {p old now pl : Int} {e : Bool} {l : List Int} (h : Pk p e old now (3 :: l) pl) : Pk p e (old + 1) now l pl := by
 unfold Pk at h ⊢
 rw [cntK, if_neg (by decide), if_pos rfl] at h
 exact h
theorem mn_step (a s : Int) : mn (a + 1) s = if a < s then mn a s + 1 else mn a s := by
 unfold mn
 by_cases h : a < s
 ·rw [if_pos h, if_neg (by omega), if_neg (by omega)]
 ·rw [if_neg h]
  by_cases h2 : s < a
  ·rw [if_pos (by omega), if_pos h2]
  ·rw [if_pos (by omega), if_neg h2]; omega
theorem wrap_s {x : Int} (h0 : 0 ≤ x) (h1 : x ≤ 200000000) : wrap64 (x + 1) = x + 1 := by unfold wrap64; omega
theorem mn_zero {s : Int} (h : 0 ≤ s) : mn 0 s = 0 := by unfold mn; rw [if_neg (by omega)]
theorem mn_full {a s : Int} (h : s ≤ a) : mn a s = s := by
 unfold mn
 by_cases h2 : s < a
 ·rw [if_pos h2]
 ·rw [if_neg h2]; omega
theorem holds_loop (A : List S43) (hA : A.length ≤ 100000000) (f t s0 s1 : Int) (b e1 : Bool) (he1 : b = false → e1 = false) (h0 : 0 ≤ s0) (h01 : s0 ≤ s1) (h1 : s1 ≤ 100000000) (hb : b = true → s0 = s1) : ∀ (d i : Nat) (old now w : Int), i + d = A.length → 0 ≤ old → old ≤ i → 0 ≤ now → now ≤ i → Pk f true old now ((fs A).drop i) s0 → Pk t e1 old now ((fs A).drop i) s1 → w = mn now s1 - mn now s0 →
 Ev (fun k => blotterlaw08_AnchorHolds.l0 k A old now w (i : Int) f t b s0 s1 (s0 == s1)) true
 | 0, i, old, now, w, hd, o0, o1, n0, n1, hf, ht, hw => by
  rw [List.drop_of_length_le (by rw [fs_len]; omega)] at hf ht
  unfold Pk at hf ht
  simp only [cntK] at hf ht
  have hw' : w = s1 - s0 := by rw [mn_full (by omega), mn_full (by omega)] at hw; exact hw
  refine Ev.step (f := fun _ => some true) (fun k => ?_) (Ev.now _)
  simp only [blotterlaw08_AnchorHolds.l0]
  rw [if_neg (by omega), if_pos, show wrap64 (s1 - s0) = w from by unfold wrap64; omega]
  ·simp
  ·rw [hw']
   by_cases h : s0 = s1
   ·subst h; simp
   ·have e1 : (s0 == s1) = false := beq_eq_false_iff_ne.2 h
    have e2 : (s1 - s0 == 0) = false := beq_eq_false_iff_ne.2 (by omega)
    rw [e1, e2]; rfl
 | d + 1, i, old, now, w, hd, o0, o1, n0, n1, hf, ht, hw => by
  have hi : i < A.length := by omega
  have iB : (i : Int) ≤ 100000000 := by omega
  have HA := Aside0.mk hA
  clear hA
  have hif : i < (fs A).length := by rw [fs_len]; exact hi
  rw [List.drop_eq_getElem_cons hif] at hf ht
  have hk : (fs A)[i] = A[i].f0 := by simp [fs]
  rw [hk] at hf ht
  clear hk hif
  have hrd : rd_T43 A (i : Int) = A[i] := rd43 A i hi
  have wB : 0 ≤ w ∧ w ≤ 100000000 := by
   have hmb : ∀ s, 0 ≤ s → 0 ≤ mn now s ∧ mn now s ≤ now := fun s h => by unfold mn; split <;> omega
   have hm0 := hmb s0 h0
   have hm1 := hmb s1 (by omega)
   have hle : mn now s0 ≤ mn now s1 := by unfold mn; split <;> split <;> omega
   clear hmb
   omega
  have WI := Aside0.mk (show wrap64 ((i : Int) + 1) = ((i + 1 : Nat) : Int) from wrap_nat i (by omega))
  have WO := Aside0.mk (wrap_s o0 (by omega))
  have WN := Aside0.mk (wrap_s n0 (by omega))
  have WW := Aside0.mk (wrap_s wB.1 (by omega))
  have e0 : ∀ k, blotterlaw08_AnchorHolds.l0 (k + 1) A old now w (i : Int) f t b s0 s1 (s0 == s1) = blotterlaw08_AnchorHolds.j3 k A old now w (i : Int) (decide (s0 ≤ now ∧ now < s1)) f t b s0 s1 (s0 == s1) := by
   intro k
   simp only [blotterlaw08_AnchorHolds.l0]
   rw [if_pos (by omega)]
   by_cases a : now ≥ s0
   ·rw [if_pos a]
    exact congrArg (fun x => blotterlaw08_AnchorHolds.j3 k A old now w (i : Int) x f t b s0 s1 (s0 == s1)) (decide_eq_decide.2 (by omega))
   ·rw [if_neg a, decide_eq_false (by omega)]
  have ih := holds_loop A HA.out f t s0 s1 b e1 he1 h0 h01 h1 hb d (i + 1)
  have win : (s0 ≤ now ∧ now < s1) → w + 1 = mn (now + 1) s1 - mn (now + 1) s0 := fun h => by rw [mn_step, mn_step, if_pos h.2, if_neg (by omega)]; omega
  have wout : ¬ (s0 ≤ now ∧ now < s1) → w = mn (now + 1) s1 - mn (now + 1) s0 := fun h => by
   rw [mn_step, mn_step]
   by_cases x : now < s0
   ·rw [if_pos x, if_pos (by omega)]; omega
   ·rw [if_neg x, if_neg (by omega)]; omega
  refine Ev.step e0 ?_
  by_cases k3 : A[i].f0 = 3
  ·rw [k3] at hf ht
   refine Ev.step (fun k => ?_) (ih (old + 1) now w (by omega) (by omega) (by push_cast; omega) n0 (by push_cast; omega) (pk_del hf) (pk_del ht) hw)
   simp only [blotterlaw08_AnchorHolds.j3]
   rw [if_pos (by omega), if_pos (by omega), hrd, if_pos k3, WO.out, WI.out]
  ·by_cases k2 : A[i].f0 = 2
   ·rw [k2] at hf ht
    obtain ⟨hf1, hf2⟩ := pk_ins hf
    obtain ⟨ht1, ht2⟩ := pk_ins ht
    have hin : (b = false ∧ old > f ∧ old < t) ↔ (s0 ≤ now ∧ now < s1) := by
     by_cases hb' : b = true
     ·refine ⟨fun h => ?_, fun h => ?_⟩
      ·have := h.1
       rw [hb'] at this
       cases this
      ·have := hb hb'
       omega
     ·have hb2 : b = false := by simpa using hb'
      have he := he1 hb2
      have y1 : now < s0 ↔ old ≤ f := by
       rw [hf1]
       refine ⟨fun h => ?_, fun h => ?_⟩
       ·rcases h with h | ⟨_, h⟩ <;> omega
       ·by_cases h' : old < f
        ·exact .inl h'
        ·exact .inr ⟨rfl, by omega⟩
      have y2 : now < s1 ↔ old < t := by
       rw [ht1]
       refine ⟨fun h => ?_, fun h => .inl h⟩
       rcases h with h | ⟨h, _⟩
       ·exact h
       ·rw [he] at h; cases h
      refine ⟨fun h => ⟨?_, y2.2 h.2.2⟩, fun h => ⟨hb2, ?_, y2.1 h.2⟩⟩
      ·have := h.2.1
       by_cases z : now < s0
       ·have := y1.1 z; omega
       ·omega
      ·by_cases z : old ≤ f
       ·have := y1.2 z; omega
       ·omega
    have e4 : ∀ k x, x = decide (b = false ∧ old > f ∧ old < t) → blotterlaw08_AnchorHolds.j3 (k + 1) A old now w (i : Int) x f t b s0 s1 (s0 == s1) = blotterlaw08_AnchorHolds.j4 k A old now w (i : Int) x x f t b s0 s1 (s0 == s1) := by
     intro k x hx
     simp only [blotterlaw08_AnchorHolds.j3]
     rw [if_pos (by omega), if_pos (by omega), hrd, if_neg k3, if_pos k2]
     by_cases hb' : b = true
     ·rw [if_pos hb', show x = false from by rw [hx, hb']; simp]
     ·have hb2 : b = false := by simpa using hb'
      rw [if_neg hb']
      by_cases y : old > f
      ·rw [if_pos y, show x = decide (old < t) from by rw [hx]; simp [hb2, y]]
      ·rw [if_neg y, show x = false from by rw [hx]; simp [y]]
    have hx : decide (s0 ≤ now ∧ now < s1) = decide (b = false ∧ old > f ∧ old < t) := decide_eq_decide.2 hin.symm
    have e4 := fun k => e4 k _ hx
    refine Ev.step e4 ?_
    by_cases hI : s0 ≤ now ∧ now < s1
    ·rw [decide_eq_true hI]
     refine Ev.step (fun k => ?_) (ih old (now + 1) (w + 1) (by omega) o0 (by push_cast; omega) (by omega) (by push_cast; omega) hf2 ht2 (win hI))
     simp only [blotterlaw08_AnchorHolds.j4]
     rw [if_neg (by simp), if_pos trivial, WN.out, WW.out, WI.out]
    ·rw [decide_eq_false hI]
     refine Ev.step (fun k => ?_) (ih old (now + 1) w (by omega) o0 (by push_cast; omega) (by omega) (by push_cast; omega) hf2 ht2 (wout hI))
     simp only [blotterlaw08_AnchorHolds.j4]
     rw [if_neg (by simp), if_neg (by simp), WN.out, WI.out]
   ·obtain ⟨hf1, hf2⟩ := pk_keep k2 k3 hf
    obtain ⟨ht1, ht2⟩ := pk_keep k2 k3 ht
    have hin : (b = false ∧ old ≥ f ∧ old < t) ↔ (s0 ≤ now ∧ now < s1) := by
     by_cases hb' : b = true
     ·refine ⟨fun h => ?_, fun h => ?_⟩
      ·have := h.1
       rw [hb'] at this
       cases this
      ·have := hb hb'
       omega
     ·have hb2 : b = false := by simpa using hb'
      refine ⟨fun h => ⟨?_, ht1.2 h.2.2⟩, fun h => ⟨hb2, ?_, ht1.1 h.2⟩⟩
      ·have := h.2.1
       by_cases z : now < s0
       ·have := hf1.1 z; omega
       ·omega
      ·by_cases z : old < f
       ·have := hf1.2 z; omega
       ·omega
    have e4 : ∀ k x, x = decide (b = false ∧ old ≥ f ∧ old < t) → blotterlaw08_AnchorHolds.j3 (k + 1) A old now w (i : Int) x f t b s0 s1 (s0 == s1) = blotterlaw08_AnchorHolds.j5 k A old now w (i : Int) x x f t b s0 s1 (s0 == s1) := by
     intro k x hx
     simp only [blotterlaw08_AnchorHolds.j3]
     rw [if_pos (by omega), if_pos (by omega), hrd, if_neg k3, if_neg k2]
     by_cases hb' : b = true
     ·rw [if_pos hb', show x = false from by rw [hx, hb']; simp]
     ·have hb2 : b = false := by simpa using hb'
      rw [if_neg hb']
      by_cases y : old ≥ f
      ·rw [if_pos y, show x = decide (old < t) from by rw [hx]; simp [hb2, y]]
      ·rw [if_neg y, show x = false from by rw [hx]; simp [y]]
    have hx : decide (s0 ≤ now ∧ now < s1) = decide (b = false ∧ old ≥ f ∧ old < t) := decide_eq_decide.2 hin.symm
    have e4 := fun k => e4 k _ hx
    refine Ev.step e4 ?_
    by_cases hI : s0 ≤ now ∧ now < s1
    ·rw [decide_eq_true hI]
     refine Ev.step (fun k => ?_) (ih (old + 1) (now + 1) (w + 1) (by omega) (by omega) (by push_cast; omega) (by omega) (by push_cast; omega) hf2 ht2 (win hI))
     simp only [blotterlaw08_AnchorHolds.j5]
     rw [if_neg (by simp), if_pos trivial, WO.out, WN.out, WW.out, WI.out]
    ·rw [decide_eq_false hI]
     refine Ev.step (fun k => ?_) (ih (old + 1) (now + 1) w (by omega) (by omega) (by push_cast; omega) (by omega) (by push_cast; omega) hf2 ht2 (wout hI))
     simp only [blotterlaw08_AnchorHolds.j5]
     rw [if_neg (by simp), if_neg (by simp), WO.out, WN.out, WI.out]
theorem cnt_le {f t : Int} (h : f < t) : ∀ (l : List Int) (old : Int), cntK f true old l ≤ cntK t false old l
 | [], old => by simp [cntK]
 | k :: r, old => by
  have h1 := cnt_le h r old
  have h2 := cnt_le h r (old + 1)
  unfold cntK
  split
  ·have hA : (if old < f ∨ (true = true ∧ old = f) then (1 : Int) else 0) ≤ (if old < t ∨ (false = true ∧ old = t) then (1 : Int) else 0) := by
    by_cases a : old < f ∨ (true = true ∧ old = f)
    ·rw [if_pos a, if_pos (.inl (by rcases a with a | ⟨_, a⟩ <;> omega))]; exact Int.le_refl _
    ·rw [if_neg a]; split <;> omega
   exact Int.add_le_add hA h1
  ·split
   ·exact h2
   ·by_cases a : old < f
    ·rw [if_pos a, if_pos (by omega)]; omega
    ·rw [if_neg a]; split <;> omega
theorem cnt_seen (p : Int) (e : Bool) : ∀ (l : List Int) (old q : Int), old + l.length < q → cntK p e old l ≤ cntK q false old l
 | [], old, q, h => by simp [cntK]
 | k :: r, old, q, h => by
  simp only [List.length_cons] at h
  push_cast at h
  have h1 := cnt_seen p e r old q (by omega)
  have h2 := cnt_seen p e r (old + 1) q (by omega)
  simp only [cntK]
  split
  ·rw [if_pos (show old < q ∨ (false = true ∧ old = q) from .inl (by omega))]; split <;> omega
  ·split
   ·exact h2
   ·rw [if_pos (show old < q by omega)]; split <;> omega
theorem seen_kinds (q : Int) (m : Nat) : ∀ (nl : List S43) (old : Int), (∀ o ∈ nl, opOk o = true) → old + took nl + m ≤ q → cntK q false old (kinds nl ++ List.replicate m 1) ≤ more nl + took nl + m
 | [], old, hk, hq => by
  simp only [took, more, List.map_nil, List.sum_nil] at hq ⊢
  simp only [kinds, List.flatMap_nil, List.nil_append]
  have := (cnt_nonneg q false (List.replicate m 1) old).2
  rw [List.length_replicate] at this; omega
 | o :: r, old, hk, hq => by
  rw [took_cons] at hq ⊢
  have em : more (o :: r) = moreS o + more r := by simp [more]
  rw [em]
  have ho := hk o (by simp)
  have hn := opOk_n ho
  have ih := fun old h => seen_kinds q m r old (fun x hx => hk x (List.mem_cons_of_mem _ hx)) h
  rw [kinds_cons, List.append_assoc]
  have htr : 0 ≤ took r := took_list_nonneg (fun x hx => hk x (List.mem_cons_of_mem _ hx))
  unfold kindsOp
  rcases opOk_kind ho with k | k | k
  ·have htk : tookS o = o.f1 := by unfold tookS; rw [if_neg (by omega)]
   have hmo : moreS o = 0 := by unfold moreS; rw [if_neg (by omega), if_neg (by omega)]
   rw [if_neg (by omega), k, cnt_rep1, show ((o.f1.toNat : Nat) : Int) = o.f1 by omega]
   have := ih (old + o.f1) (by omega)
   have h2 : mn o.f1 (mx (q - old) 0) ≤ o.f1 := by unfold mn; split <;> omega
   omega
  ·have htk : tookS o = 0 := by unfold tookS; rw [if_pos k]
   have hmo : moreS o = (Lib.runeCount o.f2 : Int) := by unfold moreS; rw [if_pos k]
   rw [if_pos k, cnt_rep2]
   have := ih old (by omega)
   split <;> omega
  ·have htk : tookS o = o.f1 := by unfold tookS; rw [if_neg (by omega)]
   have hmo : moreS o = -o.f1 := by unfold moreS; rw [if_neg (by omega), if_pos k]
   rw [if_neg (by omega), k, cnt_rep3, show ((o.f1.toNat : Nat) : Int) = o.f1 by omega]
   have := ih (old + o.f1) (by omega)
   omega
theorem place_le {frm p : Int} {nl : List S43} (hr : RightC frm nl) (e : Bool) : cntK p e 0 (allK frm nl) ≤ frm + more nl := by
 have hf := hr.fits
 have hlen := allK_len hr
 have h1 := cnt_seen p e (allK frm nl) 0 (frm + 100000001) (by have := hr.lo; omega)
 have h2 := seen_kinds (frm + 100000001) (frm - took nl).toNat nl 0 hr.ok (by omega)
 have e1 : kinds nl ++ List.replicate (frm - took nl).toNat 1 = allK frm nl := rfl
 rw [e1] at h2
 omega
theorem AnchorHolds (frm : Int) (l : List S43) (f t : Int) (b : Bool) (hg : GoodOps l) : ∃ k, blotterlaw08_AnchorHolds.f k frm l f t b = some true := by
 apply Ev.rounds (g := fun k => blotterlaw08_AnchorHolds.f k frm l f t b)
 unfold blotterlaw08_AnchorHolds.f
 refine Ev.bind awake8_ev (Ev.bind (move_ev frm l hg f t b) ?_)
 simp only [if_true]
 by_cases h : (moveS frm l f t b).2.2.2 = 0
 ·have hne : ((moveS frm l f t b).2.2.2 != 0) = false := by rw [h]; rfl
  rw [hne]
  have hm := h
  unfold moveS at hm
  by_cases h1 : (toS frm l).2 = 0
  ·have hr := toS_right h1
   rw [if_pos h1] at hm
   by_cases h2 : RangeOk f t b frm
   ·obtain ⟨a0, a1, a2, a3⟩ := h2
    obtain ⟨hn, hmore, _⟩ := norm_right hr
    obtain ⟨s0, hs0⟩ : ∃ s0, cntK f true 0 (allK frm (normR l).reverse) = s0 := ⟨_, rfl⟩
    obtain ⟨s1, hs1⟩ : ∃ s1, (if b = true then s0 else cntK t false 0 (allK frm (normR l).reverse)) = s1 := ⟨_, rfl⟩
    have em : moveS frm l f t b = (s0, s1, (s0 == s1), 0) := by
     unfold moveS
     rw [if_pos h1, if_pos ⟨a0, a1, a2, a3⟩]
     simp only
     rw [placed_ok hr true a0 (by omega), placed_ok hr false (by omega) a1]
     simp only
     rw [shift_cnt hn true (by omega), shift_cnt hn false a1, hs0, hs1]
    rw [em]
    simp only
    have p0 : 0 ≤ s0 := by rw [← hs0]; exact (cnt_nonneg _ _ _ _).1
    have hft : b = true → f = t := fun hb => by rw [hb] at a3; simpa using a3.symm
    have hft2 : ¬ b = true → f < t := fun hb => by
     have : ¬ f = t := fun h => hb (by rw [a3, h]; simp)
     omega
    have p1 : s0 ≤ s1 := by
     rw [← hs1]
     by_cases hb : b = true
     ·rw [if_pos hb]; omega
     ·rw [if_neg hb, ← hs0]; exact cnt_le (hft2 hb) _ _
    have p2 : s1 ≤ frm + more l := by
     rw [← hs1, ← hmore]
     split
     ·rw [← hs0]; exact place_le hn true
     ·exact place_le hn false
    have hbig := hr.big
    have hbs : b = true → s0 = s1 := fun hb => by rw [← hs1, if_pos hb]
    obtain ⟨A, hA, hfs⟩ := atoms_ev hr
    have hAl : A.length ≤ 100000000 := by have := congrArg List.length hfs; rw [fs_len] at this; rw [this]; exact allK_len hn
    have hj1 : Ev (fun k => blotterlaw08_AnchorHolds.j1 k false frm l f t b s0 s1 (s0 == s1)) true := by
     refine Ev.step (f := fun k => (blotterref06_Atoms.f k frm l).bind fun x => blotterlaw08_AnchorHolds.l0 k x 0 0 0 0 f t b s0 s1 (s0 == s1)) (fun k => by simp only [blotterlaw08_AnchorHolds.j1]; rfl) (Ev.bind hA ?_)
     have pf : Pk f true 0 0 (allK frm (normR l).reverse) s0 := .inr (by rw [hs0]; omega)
     have pt : Pk t b 0 0 (allK frm (normR l).reverse) s1 := by
      by_cases hb : b = true
      ·rw [hb, ← hft hb, ← hbs hb]; exact pf
      ·have hb2 : b = false := by simpa using hb
       rw [hb2]
       exact .inr (by rw [← hs1, if_neg hb]; omega)
     have := holds_loop A hAl f t s0 s1 b b (fun h => h) p0 p1 (by omega) hbs A.length 0 0 0 0 (by omega) (by omega) (by omega) (by omega) (by omega) (by rw [hfs]; exact pf) (by rw [hfs]; exact pt) (by rw [mn_zero p0, mn_zero (by omega)]; rfl)
     simpa using this
    refine Ev.step (f := fun k => (change_To.f k frm l).bind fun x => (anchor_Right.f k s0 s1 (s0 == s1) x.1).bind fun y => if y = 0 then (if b = true then blotterlaw08_AnchorHolds.j1 k (!(s0 == s1)) frm l f t b s0 s1 (s0 == s1) else blotterlaw08_AnchorHolds.j1 k false frm l f t b s0 s1 (s0 == s1)) else blotterlaw08_AnchorHolds.j1 k true frm l f t b s0 s1 (s0 == s1)) (fun k => by simp only [blotterlaw08_AnchorHolds.j0]; rfl) (Ev.bind (to_ev frm l hg) ?_)
    rw [toS_ok hr]
    refine Ev.bind (rangeRight_ev s0 s1 (s0 == s1) (frm + more l)) ?_
    rw [if_pos (show RangeOk s0 s1 (s0 == s1) (frm + more l) from ⟨p0, p2, p1, rfl⟩)]
    simp only [if_true]
    by_cases hb : b = true
    ·have e1 := hbs hb
     have : (s0 == s1) = true := by rw [e1]; simp
     simp only [if_pos hb, this, Bool.not_true]
     rw [this] at hj1; exact hj1
    ·simp only [if_neg hb]; exact hj1
   ·rw [if_neg h2] at hm; simp at hm
  ·rw [if_neg h1] at hm
   simp only at hm
   exact absurd hm h1
 ·have hne : ((moveS frm l f t b).2.2.2 != 0) = true := bne_iff_ne.2 h
  rw [hne]
  have em : (moveS frm l f t b).1 = 0 ∧ (moveS frm l f t b).2.1 = 0 ∧ (moveS frm l f t b).2.2.1 = false := by
   unfold moveS at h ⊢
   by_cases h1 : (toS frm l).2 = 0
   ·rw [if_pos h1] at h ⊢
    by_cases h2 : RangeOk f t b frm
    ·rw [if_pos h2] at h; exact absurd rfl h
    ·rw [if_neg h2]; exact ⟨rfl, rfl, rfl⟩
   ·rw [if_neg h1]; exact ⟨rfl, rfl, rfl⟩
  rw [em.1, em.2.1, em.2.2]
  exact Ev.step (f := fun _ => some true) (fun k => by simp only [blotterlaw08_AnchorHolds.j0]; rfl) (Ev.now _)
end Go.Proofs.YtinbpjodheceoaaDoor.Pure
