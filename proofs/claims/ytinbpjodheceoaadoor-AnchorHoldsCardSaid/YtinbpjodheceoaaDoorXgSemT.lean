/- The reference's normal form, by groups between keeps, is the program's. -/
import Derived.Test.YtinbpjodheceoaaDoorXgSemF
import Derived.Test.YtinbpjodheceoaaDoorXgSemR
import Derived.Test.YtinbpjodheceoaaDoorXgSp34
namespace Go.Proofs.YtinbpjodheceoaaDoor.Sem
open Go.RowKit Go.Proofs.YtinbpjodheceoaaDoorW.PrintWords Go.Proofs.YtinbpjodheceoaaDoorW.PrintLast Go.Proofs.YtinbpjodheceoaaDoor.Sp
set_option linter.unusedVariables false
set_option linter.unusedSimpArgs false
def accPre : List S73 → List S43 → List S43
 | h :: gr, p :: kr => p :: (rnDel h.f1 ++ h.f0.reverse ++ accPre gr kr)
 | _, _ => []
theorem del_rev (n : Int) : (rnDel n).reverse = rnDel n := by unfold rnDel; split <;> rfl
structure JG (gs : List S73) (ks : List S43) (s : List S43 × Int) (gr : List S73) (g : S73) (kr : List S43) : Prop where
 hgs : gs = gr.reverse ++ [g]
 hks : ks = kr.reverse
 hl : kr.length = gr.length
 acc : s.1 = g.f0.reverse ++ accPre gr kr
 gone : s.2 = g.f1
 ins : ∀ o ∈ g.f0, o.f0 = 2
 kps : ∀ o ∈ kr, o.f0 = 1
theorem last73 (gr : List S73) (g : S73) : rnLast (gr.reverse ++ [g]) = g := by
 unfold rnLast
 rw [List.getD_eq_getElem?_getD, List.length_append, List.length_singleton, List.length_reverse, Nat.add_sub_cancel, List.getElem?_append_right (by simp)]
 simp
theorem set73 (gr : List S73) (g q : S73) : (gr.reverse ++ [g]).set ((gr.reverse ++ [g]).length - 1) q = gr.reverse ++ [q] := by
 rw [List.length_append, List.length_singleton, List.length_reverse, Nat.add_sub_cancel, List.set_append_right (s := gr.reverse) (t := [g]) gr.length q (by simp)]
 simp
theorem lastw (r : List S43) (p : S43) (h : r.length < 9223372036854775807) : rd_T43 (r.reverse ++ [p]) (wrap64 (((r.reverse ++ [p]).length : Int) - 1)) = p := by
 rw [List.length_append, List.length_singleton, List.length_reverse, show wrap64 (((r.length + 1 : Nat) : Int) - 1) = (r.length : Int) from by unfold wrap64; omega]
 exact last43 r p
theorem set43' (r : List S43) (p q : S43) : (r.reverse ++ [p]).set ((r.reverse ++ [p]).length - 1) q = r.reverse ++ [q] := by
 rw [List.length_append, List.length_singleton, List.length_reverse, Nat.add_sub_cancel]
 exact set_last r p q
theorem accPre_head {gr : List S73} {kr : List S43} (hk : ∀ o ∈ kr, o.f0 = 1) : accPre gr kr = [] ∨ ∃ p r, accPre gr kr = p :: r ∧ p.f0 = 1 := by
 cases gr with
 | nil => exact .inl rfl
 | cons h gr =>
  cases kr with
  | nil => exact .inl rfl
  | cons p kr => exact .inr ⟨p, _, rfl, hk p (by simp)⟩
theorem putR_kind {r : List S43} {o : S43} (h : r = [] ∨ ∃ p t, r = p :: t ∧ p.f0 ≠ o.f0) : putR r o = o :: r := by
 rcases h with rfl | ⟨p, t, rfl, hp⟩
 ·rfl
 ·simp only [putR]; rw [if_neg (fun h => hp h.1)]
theorem ins_ev {L : List S43} {o : S43} {gr : List S73} {kr : List S43} {n : Int} {t : Nat} (hi : ∀ q ∈ L, q.f0 = 2) (hk : ∀ q ∈ kr, q.f0 = 1) (ho : o.f0 = 2) (hn : o.f1 = 0) (hb : Bd (L.reverse ++ accPre gr kr) n t)
 (ht : t + o.f2.size ≤ 9223372036854775807) (hl : L.length < 2513169434916) (ha : o.f3.length < 4398046511104) :
 ∃ L', Ev (fun k => rnIns k L o.f2 o.f3) L' ∧ L'.reverse ++ accPre gr kr = putR (L.reverse ++ accPre gr kr) o ∧ (∀ q ∈ L', q.f0 = 2) ∧ L'.length ≤ L.length + 1 := by
 have enew : rnNew L o.f2 o.f3 = some (L ++ [⟨2, 0, o.f2, o.f3⟩]) := by unfold rnNew; rw [if_pos ha, if_pos hl]
 have eo : (⟨2, 0, o.f2, o.f3⟩ : S43) = o := by rw [← ho, ← hn]
 have hnew : ∀ q ∈ L ++ [(⟨2, 0, o.f2, o.f3⟩ : S43)], q.f0 = 2 := fun q hq => by
  rcases List.mem_append.1 hq with hq | hq
  ·exact hi q hq
  ·rw [List.mem_singleton.1 hq]
 rcases List.eq_nil_or_concat L with rfl | ⟨M, p, rfl⟩
 ·refine ⟨[⟨2, 0, o.f2, o.f3⟩], ?_, ?_, fun q hq => hnew q (by simpa using hq), by simp⟩
  ·unfold rnIns
   simp only [List.length_nil, Nat.lt_irrefl, if_false]
   rw [enew]; exact Ev.now _
  ·rw [eo]
   simp only [List.reverse_nil, List.nil_append, List.reverse_singleton, List.singleton_append]
   exact (putR_kind (by rcases accPre_head (gr := gr) hk with h | ⟨p, r, h, hp⟩; exact .inl h; exact .inr ⟨p, r, h, by rw [hp, ho]; decide⟩)).symm
 ·rw [List.concat_eq_append] at *
  obtain ⟨r, rfl⟩ : ∃ r : List S43, M = r.reverse := ⟨M.reverse, by simp⟩
  have hp := hi p (by simp)
  have hacc : (r.reverse ++ [p]).reverse ++ accPre gr kr = p :: (r ++ accPre gr kr) := by simp
  rw [hacc] at hb ⊢
  have hbp := hb p (by simp)
  have hrl : r.length < 9223372036854775807 := by simp at hl; omega
  by_cases h : p.f3 = o.f3
  ·refine ⟨r.reverse ++ [joinOp p o], ?_, ?_, fun q hq => ?_, by simp⟩
   ·unfold rnIns
    simp only [show 0 < (r.reverse ++ [p]).length from by simp, if_true, lastw r p hrl]
    refine Ev.bind (refsame_ev p.f3 o.f3 (by have := hbp.2.2.2; omega)) ?_
    rw [decide_eq_true h, if_pos rfl]
    unfold rnJoin
    rw [lastw r p hrl, set43', if_pos (by omega)]
    have : joinOp p o = ⟨p.f0, p.f1, p.f2 ++ o.f2, p.f3⟩ := by unfold joinOp; rw [hn, Int.add_zero]
    rw [this]; exact Ev.now _
   ·simp only [List.reverse_append, List.reverse_singleton, List.singleton_append, List.reverse_reverse, List.cons_append, putR]
    rw [if_pos ⟨hp.trans ho.symm, h⟩]; simp
   ·rcases List.mem_append.1 hq with hq | hq
    ·exact hi q (List.mem_append_left _ hq)
    ·rw [List.mem_singleton.1 hq]; exact hp
  ·refine ⟨r.reverse ++ [p] ++ [⟨2, 0, o.f2, o.f3⟩], ?_, ?_, hnew, by simp⟩
   ·unfold rnIns
    simp only [show 0 < (r.reverse ++ [p]).length from by simp, if_true, lastw r p hrl]
    refine Ev.bind (refsame_ev p.f3 o.f3 (by have := hbp.2.2.2; omega)) ?_
    rw [decide_eq_false h]
    simp only [Bool.false_eq_true, if_false]
    rw [enew]; exact Ev.now _
   ·rw [eo]
    simp only [List.reverse_append, List.reverse_singleton, List.singleton_append, List.reverse_reverse, List.cons_append, putR, List.nil_append]
    rw [if_neg (fun h' => h h'.2)]
theorem keepnew_ev {gs : List S73} {ks : List S43} {o : S43} (h1 : o.f3.length < 4398046511104) (h2 : ks.length < 2513169434916) (h3 : gs.length < 4398046511104) : rnKeepNew gs ks o = some (gs ++ [⟨[], 0⟩], ks ++ [⟨1, o.f1, ⟨#[]⟩, o.f3⟩]) := by
 unfold rnKeepNew; rw [if_pos h1, if_pos h2, if_pos h3]
theorem rn_step {gs : List S73} {ks : List S43} {s : List S43 × Int} {gr : List S73} {g : S73} {kr : List S43} {o : S43} {i : Nat} (hj : JG gs ks s gr g kr) (hb : RB s i) (hi : i < 2000) (hk : opOk o = true) (h0 : 0 ≤ o.f1) (h1 : o.f1 ≤ 20000) (h2 : o.f2.size ≤ 140737488351232)
 (hgl : gs.length ≤ i + 1) (hsl : g.f0.length ≤ i) :
 ∃ gs' ks' gr' g' kr', Ev (fun k => rnStep k gs ks o) (gs', ks') ∧ JG gs' ks' (stepR s o) gr' g' kr' ∧ gs'.length ≤ i + 2 ∧ g'.f0.length ≤ i + 1 := by
 obtain ⟨acc, gone⟩ := s
 obtain ⟨rfl, rfl, hl, e1, e2, h3, h4⟩ := hj
 simp only at e1 e2
 subst e1 e2
 have hattr := opOk_attrs hk
 have hlen : kr.length < 2000 := by rw [hl]; simp at hgl; omega
 unfold rnStep stepR
 rw [last73]
 rcases opOk_kind hk with k1 | k1 | k1
 ·-- a keep
  have e : (o.f0 = 2) = False := by rw [k1]; decide
  have e' : (o.f0 = 3) = False := by rw [k1]; decide
  simp only [e, e', if_false, if_pos k1]
  have hsh : o.f2 = ⟨#[]⟩ := by
   unfold opOk shapedS at hk
   simp only [k1, Bool.and_eq_true, decide_eq_true_eq] at hk
   simp at hk
   exact empty_of (by simpa using hk.1.2)
  have eo : (⟨1, o.f1, ⟨#[]⟩, o.f3⟩ : S43) = o := by rw [← k1, ← hsh]
  have hnew : ∀ acc', acc' = rnDel g.f1 ++ g.f0.reverse ++ accPre gr kr → ((acc' = [] ∨ ∃ p t, acc' = p :: t ∧ ¬ alike p o)) → JG (gr.reverse ++ [g] ++ [⟨[], 0⟩]) (kr.reverse ++ [⟨1, o.f1, ⟨#[]⟩, o.f3⟩]) (putR acc' o, 0) (g :: gr) ⟨[], 0⟩ (o :: kr) := fun acc' he hh => by
   refine ⟨by simp, by rw [eo]; simp, by simp [hl], ?_, rfl, by simp, fun q hq => ?_⟩
   ·have : putR acc' o = o :: acc' := by
     rcases hh with rfl | ⟨p, t, rfl, hp⟩
     ·rfl
     ·simp only [putR]; rw [if_neg hp]
    simp only [this, List.reverse_nil, List.nil_append, accPre]
    rw [he]
   ·rcases List.mem_cons.1 hq with rfl | hq
    ·exact k1
    ·exact h4 q hq
  have enew := keepnew_ev (gs := gr.reverse ++ [g]) (ks := kr.reverse) (o := o) (by omega) (by simp; omega) (by omega)
  have hfl : 0 < g.f1 → flushR (g.f0.reverse ++ accPre gr kr) g.f1 = rnDel g.f1 ++ g.f0.reverse ++ accPre gr kr := fun hg => by
   unfold flushR rnDel
   rw [if_pos hg, if_pos hg]
   have : putR (g.f0.reverse ++ accPre gr kr) (del g.f1) = del g.f1 :: (g.f0.reverse ++ accPre gr kr) := by
    refine putR_kind ?_
    rcases List.eq_nil_or_concat g.f0 with hg0 | ⟨M, p, hg0⟩
    ·rw [hg0]
     rcases accPre_head (gr := gr) h4 with h | ⟨p, r, h, hp⟩
     ·exact .inl (by simpa using h)
     ·exact .inr ⟨p, r, by simpa using h, by rw [hp]; show (1 : Int) ≠ 3; decide⟩
    ·refine .inr ⟨p, M.reverse ++ accPre gr kr, by rw [hg0]; simp, ?_⟩
     rw [h3 p (by rw [hg0]; simp)]; show (2 : Int) ≠ 3; decide
   rw [this]; rfl
  have hfl0 : ¬ 0 < g.f1 → flushR (g.f0.reverse ++ accPre gr kr) g.f1 = rnDel g.f1 ++ g.f0.reverse ++ accPre gr kr := fun hg => by
   unfold flushR rnDel; rw [if_neg hg, if_neg hg]; rfl
  have hflush : flushR (g.f0.reverse ++ accPre gr kr) g.f1 = rnDel g.f1 ++ g.f0.reverse ++ accPre gr kr := by by_cases hg : 0 < g.f1; exact hfl hg; exact hfl0 hg
  have go : ((flushR (g.f0.reverse ++ accPre gr kr) g.f1 = []) ∨ ∃ p t, flushR (g.f0.reverse ++ accPre gr kr) g.f1 = p :: t ∧ ¬ alike p o) → Ev (fun k => rnKeep k (gr.reverse ++ [g]) kr.reverse o) (gr.reverse ++ [g] ++ [⟨[], 0⟩], kr.reverse ++ [⟨1, o.f1, ⟨#[]⟩, o.f3⟩]) →
   ∃ gs' ks' gr' g' kr', Ev (fun k => rnKeep k (gr.reverse ++ [g]) kr.reverse o) (gs', ks') ∧ JG gs' ks' (putR (flushR (g.f0.reverse ++ accPre gr kr) g.f1) o, 0) gr' g' kr' ∧ gs'.length ≤ i + 2 ∧ g'.f0.length ≤ i + 1 := fun hh he =>
   ⟨_, _, _, _, _, he, hnew _ hflush hh, by simp at hgl ⊢; omega, by simp⟩
  by_cases hc : g.f0 = [] ∧ g.f1 = 0
  ·obtain ⟨hg0, hg1⟩ := hc
   have hfe : flushR (g.f0.reverse ++ accPre gr kr) g.f1 = accPre gr kr := by rw [hflush, hg0, hg1]; simp [rnDel]
   cases kr with
   | nil =>
    refine go (.inl (by rw [hfe]; cases gr <;> rfl)) ?_
    unfold rnKeep
    simp only [List.reverse_nil, List.length_nil, Nat.lt_irrefl, if_false]
    rw [List.reverse_nil] at enew
    rw [enew]; exact Ev.now _
   | cons p kr =>
    cases gr with
    | nil => simp at hl
    | cons h gr =>
     have hp := h4 p (by simp)
     have hbp := hb.bd p (by rw [hg0]; simp [accPre])
     have hrl : kr.length < 9223372036854775807 := by simp at hlen; omega
     by_cases ha : p.f3 = o.f3
     ·refine ⟨_, _, h :: gr, g, joinOp p o :: kr, Ev.congr (f := fun k => (blotterref02_Same.f k p.f3 o.f3).bind fun s => if s = true then some (rnKeepJoin ((h :: gr).reverse ++ [g]) (p :: kr).reverse o) else rnKeepNew ((h :: gr).reverse ++ [g]) (p :: kr).reverse o) (fun k => ?_) (Ev.bind (a := true) (by have := refsame_ev p.f3 o.f3 (by have := hbp.2.2.2; omega); rwa [decide_eq_true ha] at this) (Ev.now _)), ?_, by simp at hgl ⊢; omega, by rw [hg0]; simp⟩
      ·unfold rnKeep
       rw [if_pos (by simp), last73, if_pos (by rw [hg0]; rfl), if_pos hg1, List.reverse_cons, lastw kr p hrl]
      ·refine ⟨rfl, ?_, by simpa using hl, ?_, by rw [hg1], h3, fun q hq => ?_⟩
       ·simp only [rnKeepJoin, List.reverse_cons]
        rw [lastw kr p hrl, set43']
        have hbb := hbp.2.1
        have := hb.g1
        rw [show wrap64 (p.f1 + o.f1) = p.f1 + o.f1 from by unfold wrap64; omega]
        unfold joinOp
        rw [hsh, show p.f2 ++ (⟨#[]⟩ : ByteArray) = p.f2 from by apply ba_ext.1; rw [bl, bl, app_toList]; simp]
       ·rw [hfe, hg0]
        simp only [List.reverse_nil, List.nil_append, accPre, putR]
        rw [if_pos ⟨hp.trans k1.symm, ha⟩]
       ·rcases List.mem_cons.1 hq with rfl | hq
        ·exact hp
        ·exact h4 q (List.mem_cons_of_mem _ hq)
     ·refine go (.inr ⟨p, _, by rw [hfe]; rfl, fun h' => ha h'.2⟩) ?_
      refine Ev.congr (f := fun k => (blotterref02_Same.f k p.f3 o.f3).bind fun s => if s = true then some (rnKeepJoin ((h :: gr).reverse ++ [g]) (p :: kr).reverse o) else rnKeepNew ((h :: gr).reverse ++ [g]) (p :: kr).reverse o) (fun k => ?_) (Ev.bind (a := false) (by have := refsame_ev p.f3 o.f3 (by have := hbp.2.2.2; omega); rwa [decide_eq_false ha] at this) ?_)
      ·unfold rnKeep
       rw [if_pos (by simp), last73, if_pos (by rw [hg0]; rfl), if_pos hg1, List.reverse_cons, lastw kr p hrl]
      ·simp only [Bool.false_eq_true, if_false]
       rw [enew]; exact Ev.now _
  ·refine go ?_ ?_
   ·rw [hflush]
    by_cases hg : 0 < g.f1
    ·refine .inr ⟨del g.f1, g.f0.reverse ++ accPre gr kr, by unfold rnDel; rw [if_pos hg]; rfl, fun h' => ?_⟩
     have := h'.1
     rw [k1] at this
     exact absurd (show (3 : Int) = 1 from this) (by decide)
    ·have hz : g.f1 = 0 := by have := hb.g0; simp only at this; omega
     have hne : g.f0 ≠ [] := fun h' => hc ⟨h', hz⟩
     obtain ⟨M, p, hg0⟩ := (List.eq_nil_or_concat g.f0).resolve_left hne
     refine .inr ⟨p, M.reverse ++ accPre gr kr, by unfold rnDel; rw [if_neg hg, hg0]; simp, fun h' => ?_⟩
     have := h'.1
     rw [k1, h3 p (by rw [hg0]; simp)] at this
     exact absurd this (by decide)
   ·unfold rnKeep
    rw [last73, enew]
    by_cases hkr : 0 < kr.reverse.length
    ·simp only [if_pos hkr]
     by_cases hg0 : g.f0.length = 0
     ·simp only [if_pos hg0, if_neg (fun hz => hc ⟨List.eq_nil_of_length_eq_zero hg0, hz⟩)]; exact Ev.now _
     ·simp only [if_neg hg0]; exact Ev.now _
    ·simp only [if_neg hkr]; exact Ev.now _
 ·-- an insert
  have en : (o.f0 = 1) = False := by rw [k1]; decide
  simp only [en, if_false, if_pos k1]
  obtain ⟨L', hev, hacc, hk2, hll⟩ := ins_ev (gr := gr) (kr := kr) h3 h4 k1 ((opOk_n hk).2 k1) hb.bd (by omega) (by omega) (by omega)
  refine ⟨_, _, gr, ⟨L', g.f1⟩, kr, Ev.bind hev (Ev.now _), ⟨by rw [set73], rfl, hl, hacc.symm, rfl, hk2, h4⟩, by rw [set73]; simp at hgl ⊢; omega, by simp only; omega⟩
 ·-- a delete
  have e1 : (o.f0 = 1) = False := by rw [k1]; decide
  have e2 : (o.f0 = 2) = False := by rw [k1]; decide
  simp only [e1, e2, if_false, if_pos k1]
  refine ⟨_, _, gr, ⟨g.f0, wrap64 (g.f1 + o.f1)⟩, kr, Ev.now _, ⟨by rw [set73], rfl, hl, rfl, ?_, h3, h4⟩, by rw [set73]; simp at hgl ⊢; omega, by simp only; omega⟩
  have a := hb.g0
  have b := hb.g1
  simp only at a b ⊢
  unfold wrap64; omega
theorem rn_go : ∀ (l : List S43) (gs : List S73) (ks : List S43) (s : List S43 × Int) (gr : List S73) (g : S73) (kr : List S43) (i : Nat), JG gs ks s gr g kr → RB s i → i + l.length ≤ 2000 → (∀ o ∈ l, opOk o = true ∧ (0 ≤ o.f1 ∧ o.f1 ≤ 20000) ∧ o.f2.size ≤ 140737488351232) →
 gs.length ≤ i + 1 → g.f0.length ≤ i →
 ∃ gs' ks' gr' g' kr', Ev (fun k => rnGo k l gs ks) (gs', ks') ∧ JG gs' ks' (l.foldl stepR s) gr' g' kr' ∧ gs'.length ≤ i + l.length + 1 ∧ g'.f0.length ≤ i + l.length ∧ RB (l.foldl stepR s) (i + l.length)
 | [], gs, ks, s, gr, g, kr, i, hj, hb, hi, ho, h1, h2 => ⟨gs, ks, gr, g, kr, Ev.now _, hj, h1, h2, hb⟩
 | o :: l, gs, ks, s, gr, g, kr, i, hj, hb, hi, ho, h1, h2 => by
  simp only [List.length_cons] at hi
  obtain ⟨hk, ⟨ha, hc⟩, hs⟩ := ho o (by simp)
  obtain ⟨gs1, ks1, gr1, g1, kr1, he, hj1, h3, h4⟩ := rn_step hj hb (by omega) hk ha hc hs h1 h2
  obtain ⟨gs2, ks2, gr2, g2, kr2, he2, hj2, h5, h6, h7⟩ := rn_go l gs1 ks1 (stepR s o) gr1 g1 kr1 (i + 1) hj1 (hb.step (by omega) hk ha hc hs) (by omega) (fun q hq => ho q (List.mem_cons_of_mem _ hq)) h3 h4
  refine ⟨gs2, ks2, gr2, g2, kr2, Ev.bind (f := fun k (s : List S73 × List S43) => rnGo k l s.1 s.2) he he2, hj2, by simp only [List.length_cons]; omega, by simp only [List.length_cons]; omega, ?_⟩
  simp only [List.length_cons, List.foldl_cons]
  rw [show i + (l.length + 1) = i + 1 + l.length by omega]; exact h7
def grp (x : Option S43 × S73) : List S43 := x.1.toList ++ x.2.f0 ++ rnDel x.2.f1
theorem flat_groups : ∀ (gr : List S73) (kr : List S43) (g : S73), kr.length = gr.length →
 ((none :: kr.reverse.map some).zip (gr.reverse ++ [g])).flatMap grp = (g.f0.reverse ++ accPre gr kr).reverse ++ rnDel g.f1
 | [], [], g, _ => by simp [grp, accPre]
 | [], p :: kr, g, h => by simp at h
 | h' :: gr, [], g, h => by simp at h
 | h' :: gr, p :: kr, g, h => by
  have ih := flat_groups gr kr h' (by simpa using h)
  have e : (none :: (p :: kr).reverse.map some) = (none :: kr.reverse.map some) ++ [some p] := by simp
  have e2 : (h' :: gr).reverse ++ [g] = (gr.reverse ++ [h']) ++ [g] := by simp
  rw [e, e2, List.zip_append (by simp; simpa using h), List.flatMap_append, ih]
  simp only [accPre, List.reverse_append, List.reverse_cons, List.reverse_reverse, List.zip_cons_cons, List.zip_nil_left, List.flatMap_cons, List.flatMap_nil, grp, Option.toList, List.append_nil, del_rev, List.append_assoc, List.singleton_append]
theorem out_loop (gs : List S73) (ks : List S43) (hl : ks.length + 1 = gs.length) (hs : gs.length < 100000) (N : Nat) (hN : (((none :: ks.map some).zip gs).flatMap grp).length ≤ N) (hN2 : N < 1000000000) :
 ∀ (d i : Nat) (out : List S43), i + d = gs.length → out ++ (((none :: ks.map some).drop i).zip (gs.drop i)).flatMap grp = ((none :: ks.map some).zip gs).flatMap grp → rnOut gs ks d i out = some (((none :: ks.map some).zip gs).flatMap grp)
 | 0, i, out, hd, he => by
  rw [List.drop_of_length_le (l := gs) (by omega)] at he
  simp only [List.zip_nil_right, List.flatMap_nil, List.append_nil] at he
  simp only [rnOut, he]
 | d + 1, i, out, hd, he => by
  have hi : i < gs.length := by omega
  have hi2 : i < (none :: ks.map some).length := by simp; omega
  have e1 : gs.drop i = gs[i] :: gs.drop (i + 1) := List.drop_eq_getElem_cons hi
  have e2 : (none :: ks.map some).drop i = (none :: ks.map some)[i] :: (none :: ks.map some).drop (i + 1) := List.drop_eq_getElem_cons hi2
  rw [e1, e2, List.zip_cons_cons, List.flatMap_cons] at he
  have hlen := congrArg List.length he
  simp only [List.length_append] at hlen
  have hg : gs.getD i z73 = gs[i] := by rw [List.getD_eq_getElem?_getD, List.getElem?_eq_getElem hi]; rfl
  have ekeep : (if 0 < i then [rd_T43 ks ((i : Int) - 1)] else []) = ((none :: ks.map some)[i]).toList := by
   cases i with
   | zero => rfl
   | succ j =>
    have hj : j < ks.length := by omega
    rw [if_pos (by omega), show (((j + 1 : Nat) : Int) - 1) = (j : Int) by omega, rd43 _ _ hj]
    simp
  have hgl : gs[i].f0.length ≤ N := by
   have : gs[i].f0.length ≤ (grp ((none :: ks.map some)[i], gs[i])).length := by simp [grp]; omega
   omega
  simp only [rnOut, rnOutStep, hg]
  rw [if_pos (by omega), if_pos (by omega), Option.bind_some]
  refine out_loop gs ks hl hs N hN hN2 d (i + 1) _ (by omega) ?_
  rw [← he, ekeep]
  simp [grp]
theorem trim_eq (r : List S43) (h : r.length < 9223372036854775807) : rnTrim r.reverse = (trimR r).reverse := by
 cases r with
 | nil => simp [rnTrim, trimR]
 | cons p r =>
  simp only [List.length_cons] at h
  unfold rnTrim
  rw [List.reverse_cons, if_pos (by simp), lastw r p (by omega)]
  simp only [trimR]
  by_cases k1 : p.f0 = 1
  ·rw [if_pos k1]
   by_cases k2 : p.f3 = []
   ·rw [if_pos (by rw [k2]; rfl), if_pos ⟨k1, k2⟩]; simp
   ·rw [if_neg (fun h => k2 (List.eq_nil_of_length_eq_zero h)), if_neg (fun h => k2 h.2)]; simp
  ·rw [if_neg k1, if_neg (fun h => k1 h.1)]; simp
theorem rn_norm {frm : Int} {l : List S43} (hr : RightC frm l) (hg : GoodOps l) : ∃ gs ks, Ev (fun k => rnGo k l [⟨[], 0⟩] []) (gs, ks) ∧ ∃ out, rnOut gs ks gs.length 0 [] = some out ∧ rnTrim out = (normR l).reverse := by
 have hlen := hr.len
 obtain ⟨gs, ks, gr, g, kr, he, hj, h1, h2, h3⟩ := rn_go l [⟨[], 0⟩] [] ([], 0) [] ⟨[], 0⟩ [] 0 ⟨rfl, rfl, rfl, rfl, rfl, by simp, by simp⟩ ⟨fun p hp => by simp at hp, by simp, by simp, by simp⟩ (by omega) (fun o ho => ⟨hr.ok o ho, hr.n o ho, (hg.2 o ho).1⟩) (by simp) (by simp)
 refine ⟨gs, ks, he, ((none :: ks.map some).zip gs).flatMap grp, ?_, ?_⟩
 ·obtain ⟨e1, e2, hl, ea, eg, hi, hk⟩ := hj
  have ef : ((none :: ks.map some).zip gs).flatMap grp = (g.f0.reverse ++ accPre gr kr).reverse ++ rnDel g.f1 := by rw [e1, e2]; exact flat_groups gr kr g hl
  have hal := h3.len
  rw [ea] at hal
  refine out_loop gs ks (by rw [e1, e2]; simp [hl]) (by omega) 5000 ?_ (by omega) gs.length 0 [] (by omega) (by simp)
  rw [ef]
  have : (rnDel g.f1).length ≤ 1 := by unfold rnDel; split <;> simp
  rw [List.length_append, List.length_reverse]; omega
 ·obtain ⟨e1, e2, hl, ea, eg, hi, hk⟩ := hj
  have ef : ((none :: ks.map some).zip gs).flatMap grp = (g.f0.reverse ++ accPre gr kr).reverse ++ rnDel g.f1 := by rw [e1, e2]; exact flat_groups gr kr g hl
  have hfl : (g.f0.reverse ++ accPre gr kr).reverse ++ rnDel g.f1 = (flushR (l.foldl stepR ([], 0)).1 (l.foldl stepR ([], 0)).2).reverse := by
   rw [ea, eg]
   unfold flushR rnDel
   by_cases hg1 : 0 < g.f1
   ·rw [if_pos hg1, if_pos hg1]
    have : putR (g.f0.reverse ++ accPre gr kr) (del g.f1) = del g.f1 :: (g.f0.reverse ++ accPre gr kr) := by
     refine putR_kind ?_
     rcases List.eq_nil_or_concat g.f0 with hg0 | ⟨M, p, hg0⟩
     ·rw [hg0]
      rcases accPre_head (gr := gr) hk with h | ⟨p, r, h, hp⟩
      ·exact .inl (by simpa using h)
      ·exact .inr ⟨p, r, by simpa using h, by rw [hp]; show (1 : Int) ≠ 3; decide⟩
     ·refine .inr ⟨p, M.reverse ++ accPre gr kr, by rw [hg0]; simp, ?_⟩
      rw [hi p (by rw [hg0]; simp)]; show (2 : Int) ≠ 3; decide
    rw [this]; simp [del]
   ·rw [if_neg hg1, if_neg hg1]; simp
  rw [ef, hfl, trim_eq _ ?_]
  ·rfl
  ·have := flushR_len (l.foldl stepR ([], 0)).1 (l.foldl stepR ([], 0)).2
   have := h3.len
   omega
end Go.Proofs.YtinbpjodheceoaaDoor.Sem
