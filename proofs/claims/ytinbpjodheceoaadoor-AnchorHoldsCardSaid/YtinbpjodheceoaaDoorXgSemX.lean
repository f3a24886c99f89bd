/- What the reference's Chars and Atoms come to: how many, and of what kind; where a place comes to, counted over them. -/
import Derived.Test.YtinbpjodheceoaaDoorXgSemY
import Derived.Test.YtinbpjodheceoaaDoorXgSemH
import Derived.Test.YtinbpjodheceoaaDoorXgSp37
import Derived.Test.YtinbpjodheceoaaDoorXgSp38
namespace Go.Proofs.YtinbpjodheceoaaDoor.Sem
open Go.RowKit Go.Proofs.YtinbpjodheceoaaDoorW.PrintWords Go.Proofs.YtinbpjodheceoaaDoorW.PrintLast Go.Proofs.YtinbpjodheceoaaDoorW.PrintMore Go.Proofs.YtinbpjodheceoaaDoor.Sp
set_option linter.unusedVariables false
set_option linter.unusedSimpArgs false
def starts (l : List UInt8) : Nat := (l.filter (fun b => !cont b)).length
theorem starts_cons (b : UInt8) (r : List UInt8) : starts (b :: r) = (if cont b = true then 0 else 1) + starts r := by
 unfold starts
 rw [List.filter_cons]
 cases cont b <;> simp <;> omega
theorem chars_loop (s : ByteArray) (hs : s.size ≤ 8000000000000) : ∀ (d i : Nat) (x3 : List ByteArray), i + d = s.size → (x3 = [] → ∀ b r, s.toList.drop i = b :: r → cont b = false) → (∀ c ∈ x3, c.size ≤ i) → x3.length ≤ i →
 ∃ r, Ev (fun k => blotterref05_Chars.l0 k s x3 (i : Int)) r ∧ r.length = x3.length + starts (s.toList.drop i)
 | 0, i, x3, hd, h1, h2, h3 => ⟨x3, Ev.step (f := fun _ => some x3) (fun k => by simp only [blotterref05_Chars.l0]; rw [if_neg (by omega)]) (Ev.now _), by rw [List.drop_of_length_le (by rw [toList_len]; omega)]; simp [starts]⟩
 | d + 1, i, x3, hd, h1, h2, h3 => by
  have hi : i < s.size := by omega
  have hbt := bt_nat s i hi
  have hll := toList_len s
  have hdrop := drop_step s.toList i (by rw [hll]; exact hi)
  generalize s.toList[i]'(by rw [hll]; exact hi) = b at hbt hdrop
  have hw : wrap64 ((i : Int) + 1) = ((i + 1 : Nat) : Int) := wrap_nat i (by omega)
  have e0 : ∀ k, blotterref05_Chars.l0 (k + 1) s x3 (i : Int) = blotterref05_Chars.j1 k s x3 (i : Int) (cont b) := by
   intro k
   simp only [blotterref05_Chars.l0]
   rw [if_pos (by omega), if_pos (by omega), hbt]
   unfold cont
   by_cases a : 128 ≤ b.toNat
   ·rw [if_pos (show (b.toNat : Int) ≥ 128 by omega), decide_eq_true a, Bool.true_and]
    exact congrArg (fun b => blotterref05_Chars.j1 k s x3 (i : Int) b) (decide_eq_decide.2 (by omega))
   ·rw [if_neg (show ¬ (b.toNat : Int) ≥ 128 by omega), decide_eq_false a, Bool.false_and]
  have hex : (s.extract i (i + 1)).size = 1 := by rw [ByteArray.size_extract]; omega
  rw [hdrop, starts_cons]
  cases hc : cont b with
  | true =>
   have hne : x3 ≠ [] := fun h => by have := h1 h b _ hdrop; rw [hc] at this; cases this
   have hpos := List.length_pos_iff.2 hne
   obtain ⟨q, hq⟩ : ∃ q, x3.length = q + 1 := ⟨x3.length - 1, by omega⟩
   have hj : wrap64 ((x3.length : Int) - 1) = (q : Int) := by rw [hq]; unfold wrap64; omega
   have hqm : rdOf ByteArray.empty x3 (q : Int) ∈ x3 := by
    unfold rdOf
    rw [Int.toNat_natCast, List.getD_eq_getElem?_getD, List.getElem?_eq_getElem (by omega)]
    exact List.getElem_mem _
   have hqs := h2 _ hqm
   obtain ⟨r, hr, hl⟩ := chars_loop s hs d (i + 1) (x3.set q (rdOf ByteArray.empty x3 (q : Int) ++ s.extract i (i + 1))) (by omega) (fun h => by
    have := congrArg List.length h
    rw [List.length_set] at this
    simp at this
    exact absurd this hne) (fun c hc' => by
    rcases List.mem_or_eq_of_mem_set hc' with h | h
    ·have := h2 c h; omega
    ·rw [h, ByteArray.size_append, hex]; omega) (by rw [List.length_set]; omega)
   refine ⟨r, Ev.step e0 ?_, by rw [hl, List.length_set]; simp⟩
   rw [hc]
   refine Ev.step (fun k => ?_) hr
   simp only [blotterref05_Chars.j1, if_true]
   rw [hj, hw, if_pos (by omega), if_pos (by omega), if_pos (by omega), if_pos (by omega), if_pos (by omega), if_pos (by rw [Int.toNat_natCast, Int.toNat_natCast, hex]; omega)]
   rfl
  | false =>
   obtain ⟨r, hr, hl⟩ := chars_loop s hs d (i + 1) (x3 ++ [s.extract i (i + 1)]) (by omega) (fun h => by simp at h) (fun c hc' => by
    rcases List.mem_append.1 hc' with h | h
    ·have := h2 c h; omega
    ·rw [List.mem_singleton.1 h, hex]; omega) (by simp; omega)
   refine ⟨r, Ev.step e0 ?_, by rw [hl, List.length_append, List.length_singleton]; simp; omega⟩
   rw [hc]
   refine Ev.step (fun k => ?_) hr
   simp only [blotterref05_Chars.j1]
   rw [if_neg (by simp), hw, if_pos (by omega), if_pos (by omega), if_pos (by omega), if_pos (by omega)]
   rfl
theorem chars_ev (s : ByteArray) (hs : s.size ≤ 8000000000000) (hv : vld s = true) : ∃ r, Ev (fun k => blotterref05_Chars.f k s) r ∧ r.length = Lib.runeCount s := by
 obtain ⟨cs, ht⟩ := vld_text hv
 have h1 : ∀ b r, s.toList.drop 0 = b :: r → cont b = false := fun b r e => by
  rw [List.drop_zero, bl, ht.1] at e
  cases cs with
  | nil => simp at e
  | cons c cs =>
   obtain ⟨_, ⟨b', r', rfl, hb, _⟩, _⟩ := ht.2 c (by simp)
   simp only [List.flatten_cons, List.cons_append, List.cons.injEq] at e
   rw [← e.1]; exact hb
 obtain ⟨r, hr, hl⟩ := chars_loop s hs s.size 0 [] (by omega) (fun _ => h1) (by simp) (by simp)
 refine ⟨r, hr, ?_⟩
 rw [hl, List.drop_zero, count_starts hv, bl]; simp [starts]
def kindsOp (o : S43) : List Int := if o.f0 = 2 then List.replicate (Lib.runeCount o.f2) 2 else List.replicate o.f1.toNat o.f0
def kinds (l : List S43) : List Int := l.flatMap kindsOp
theorem kinds_cons (o : S43) (l : List S43) : kinds (o :: l) = kindsOp o ++ kinds l := rfl
def fs (l : List S43) : List Int := l.map (·.f0)
theorem fs_len (l : List S43) : (fs l).length = l.length := by simp [fs]
theorem fs_snoc (l : List S43) (o : S43) : fs (l ++ [o]) = fs l ++ [o.f0] := by simp [fs]
theorem atoms_ins {frm : Int} {nl : List S43} {left : Int} {i : Nat} {cs : List ByteArray} {o : S43} : ∀ (d j : Nat) (x3 : List S43), j + d = cs.length → cs.length ≤ 1000000000 → x3.length + d ≤ 2000000000 → i ≤ 2000 →
 ∃ y, fs y = fs x3 ++ List.replicate d o.f0 ∧ ∀ r, Ev (fun k => blotterref06_Atoms.l0 k y left ((i + 1 : Nat) : Int) frm nl) r → Ev (fun k => blotterref06_Atoms.l1 k x3 left (i : Int) cs (j : Int) frm nl o.f0 o.f1 o.f2 o.f3) r
 | 0, j, x3, hd, hc, hx, hi => ⟨x3, by simp, fun r hr => Ev.step (fun k => by simp only [blotterref06_Atoms.l1]; rw [if_neg (by omega), wrap_nat i (by omega)]) hr⟩
 | d + 1, j, x3, hd, hc, hx, hi => by
  obtain ⟨y, hy, hr⟩ := atoms_ins (frm := frm) (nl := nl) (left := left) (i := i) (cs := cs) (o := o) d (j + 1) (x3 ++ [⟨o.f0, 0, rdOf ByteArray.empty cs (j : Int), o.f3⟩]) (by omega) hc (by simp; omega) hi
  refine ⟨y, by rw [hy, fs_snoc, List.append_assoc]; rfl, fun r h => Ev.step (fun k => ?_) (hr r h)⟩
  simp only [blotterref06_Atoms.l1]
  rw [if_pos (by omega), if_pos (by omega), if_pos (by omega), wrap_nat j (by omega)]
theorem atoms_run {frm : Int} {nl : List S43} {left : Int} {i : Nat} {o : S43} (hl : 0 ≤ left - o.f1) (hl2 : left ≤ 20000) (h1 : 0 ≤ o.f1) : ∀ (d j : Nat) (x3 : List S43), j + d = o.f1.toNat → x3.length + d ≤ 2000000000 → i ≤ 2000 →
 ∃ y, fs y = fs x3 ++ List.replicate d o.f0 ∧ ∀ r, Ev (fun k => blotterref06_Atoms.l0 k y (left - o.f1) ((i + 1 : Nat) : Int) frm nl) r → Ev (fun k => blotterref06_Atoms.l2 k x3 left (i : Int) (j : Int) frm nl o.f0 o.f1 o.f2 o.f3) r
 | 0, j, x3, hd, hx, hi => ⟨x3, by simp, fun r hr => Ev.step (fun k => by simp only [blotterref06_Atoms.l2]; rw [if_neg (by omega), wrap_nat i (by omega), show wrap64 (left - o.f1) = left - o.f1 from by unfold wrap64; omega]) hr⟩
 | d + 1, j, x3, hd, hx, hi => by
  obtain ⟨y, hy, hr⟩ := atoms_run (frm := frm) (nl := nl) (left := left) (i := i) (o := o) hl hl2 h1 d (j + 1) (x3 ++ [⟨o.f0, 1, ⟨#[]⟩, o.f3⟩]) (by omega) (by simp; omega) hi
  refine ⟨y, by rw [hy, fs_snoc, List.append_assoc]; rfl, fun r h => Ev.step (fun k => ?_) (hr r h)⟩
  simp only [blotterref06_Atoms.l2]
  rw [if_pos (by omega), if_pos (by omega), wrap_nat j (by omega)]
theorem atoms_rest {left : Int} (hl2 : left ≤ 20000) : ∀ (d j : Nat) (x3 : List S43), j + d = left.toNat → x3.length + d ≤ 2000000000 →
 ∃ y, Ev (fun k => blotterref06_Atoms.l3 k x3 left (j : Int)) y ∧ fs y = fs x3 ++ List.replicate d 1
 | 0, j, x3, hd, hx => ⟨x3, Ev.step (f := fun _ => some x3) (fun k => by simp only [blotterref06_Atoms.l3]; rw [if_neg (by omega)]) (Ev.now _), by simp⟩
 | d + 1, j, x3, hd, hx => by
  obtain ⟨y, hr, hy⟩ := atoms_rest hl2 d (j + 1) (x3 ++ [⟨1, 1, ⟨#[]⟩, []⟩]) (by omega) (by simp; omega)
  refine ⟨y, Ev.step (fun k => ?_) hr, by rw [hy, fs_snoc, List.append_assoc]; rfl⟩
  simp only [blotterref06_Atoms.l3]
  rw [if_pos (by omega), if_pos (by omega), wrap_nat j (by omega)]
theorem ins_small {o : S43} (h : opOk o = true) (k : o.f0 = 2) : Lib.runeCount o.f2 ≤ 20000 ∧ vld o.f2 = true ∧ o.f2.size ≤ 80000 := by
 have h1 := opOk_count h k
 exact ⟨h1.1, h1.2, by have := text_size h1.2; omega⟩
theorem kindsOp_len {o : S43} (h : opOk o = true) (hn : 0 ≤ o.f1 ∧ o.f1 ≤ 20000) : (kindsOp o).length ≤ 20000 := by
 unfold kindsOp
 by_cases k : o.f0 = 2
 ·rw [if_pos k, List.length_replicate]; exact (ins_small h k).1
 ·rw [if_neg k, List.length_replicate]; omega
theorem atoms_loop {frm : Int} {nl : List S43} (hr : RightC frm nl) : ∀ (d i : Nat) (x3 : List S43) (left : Int), i + d = nl.length → took (nl.drop i) ≤ left → left ≤ 20000 → x3.length ≤ 20000 * i →
 ∃ y, Ev (fun k => blotterref06_Atoms.l0 k x3 left (i : Int) frm nl) y ∧ fs y = fs x3 ++ kinds (nl.drop i) ++ List.replicate (left - took (nl.drop i)).toNat 1
 | 0, i, x3, left, hd, h1, h2, h3 => by
  have hlen := hr.len
  rw [List.drop_of_length_le (by omega)] at h1 ⊢
  have h1' : 0 ≤ left := by simpa [took] using h1
  obtain ⟨y, hy, hf⟩ := atoms_rest h2 left.toNat 0 x3 (by omega) (by omega)
  refine ⟨y, Ev.step (fun k => ?_) hy, by rw [hf]; simp [kinds, took]⟩
  simp only [blotterref06_Atoms.l0]; rw [if_neg (by omega)]; rfl
 | d + 1, i, x3, left, hd, h1, h2, h3 => by
  have hlen := hr.len
  have hi : i < nl.length := by omega
  have hm := List.getElem_mem hi
  have hk := hr.ok _ hm
  have hn := hr.n _ hm
  rw [drop_step nl i hi] at h1 ⊢
  rw [took_cons] at h1
  rw [kinds_cons, took_cons]
  have hrd : rd_T43 nl (i : Int) = nl[i] := rd43 nl i hi
  have htr : 0 ≤ took (nl.drop (i + 1)) := took_list_nonneg (fun o ho => hr.ok o (List.mem_of_mem_drop ho))
  generalize nl[i] = o at *
  have hkl := kindsOp_len hk hn
  by_cases k2 : o.f0 = 2
  ·have htk : tookS o = 0 := by unfold tookS; rw [if_pos k2]
   rw [htk] at h1 ⊢
   obtain ⟨hc, hv, hsz⟩ := ins_small hk k2
   obtain ⟨cs, hcs, hcl⟩ := chars_ev o.f2 (by omega) hv
   obtain ⟨y, hy, hgo⟩ := atoms_ins (frm := frm) (nl := nl) (left := left) (i := i) (cs := cs) (o := o) cs.length 0 x3 (by omega) (by omega) (by omega) (by omega)
   obtain ⟨z, hz, hfz⟩ := atoms_loop hr d (i + 1) y left (by omega) (by omega) h2 (by
    have := congrArg List.length hy
    rw [fs_len, List.length_append, fs_len, List.length_replicate] at this; omega)
   refine ⟨z, Ev.step (f := fun k => (blotterref05_Chars.f k o.f2).bind fun t => blotterref06_Atoms.l1 k x3 left (i : Int) t 0 frm nl o.f0 o.f1 o.f2 o.f3) (fun k => ?_) (Ev.bind hcs (hgo z hz)), ?_⟩
   ·simp only [blotterref06_Atoms.l0]
    rw [if_pos (by omega), if_pos (by omega), hrd, if_pos k2]
   ·rw [hfz, hy, hcl]
    unfold kindsOp
    rw [if_pos k2, k2, Int.zero_add]
    simp [List.append_assoc]
  ·have htk : tookS o = o.f1 := by unfold tookS; rw [if_neg k2]
   rw [htk] at h1 ⊢
   obtain ⟨y, hy, hgo⟩ := atoms_run (frm := frm) (nl := nl) (left := left) (i := i) (o := o) (by omega) h2 hn.1 o.f1.toNat 0 x3 (by omega) (by omega) (by omega)
   obtain ⟨z, hz, hfz⟩ := atoms_loop hr d (i + 1) y (left - o.f1) (by omega) (by omega) (by omega) (by
    have := congrArg List.length hy
    rw [fs_len, List.length_append, fs_len, List.length_replicate] at this; omega)
   refine ⟨z, Ev.step (f := fun k => blotterref06_Atoms.l2 k x3 left (i : Int) 0 frm nl o.f0 o.f1 o.f2 o.f3) (fun k => ?_) (hgo z hz), ?_⟩
   ·simp only [blotterref06_Atoms.l0]
    rw [if_pos (by omega), if_pos (by omega), hrd, if_neg k2]
   ·rw [hfz, hy]
    unfold kindsOp
    rw [if_neg k2, show left - (o.f1 + took (nl.drop (i + 1))) = left - o.f1 - took (nl.drop (i + 1)) by omega]
    simp [List.append_assoc]
def allK (frm : Int) (nl : List S43) : List Int := kinds nl ++ List.replicate (frm - took nl).toNat 1
theorem atoms_ev {frm : Int} {l : List S43} (hr : RightC frm l) : ∃ y, Ev (fun k => blotterref06_Atoms.f k frm l) y ∧ fs y = allK frm (normR l).reverse := by
 have hg := hr.good
 have hn := (norm_right hr).1
 obtain ⟨y, hy, hf⟩ := atoms_loop hn (normR l).reverse.length 0 [] frm (by omega) (by rw [List.drop_zero]; exact hn.fits) hr.hi (by simp)
 refine ⟨y, ?_, by rw [hf, List.drop_zero]; simp [fs, allK]⟩
 unfold blotterref06_Atoms.f
 refine Ev.bind (refnormal_ev frm l hg hr.texts) ?_
 rw [normS_ok hr]
 exact hy
def cntK (p : Int) (e : Bool) : Int → List Int → Int
 | _, [] => 0
 | old, k :: r => if k = 2 then (if old < p ∨ (e = true ∧ old = p) then 1 else 0) + cntK p e old r else if k = 3 then cntK p e (old + 1) r else (if old < p then 1 else 0) + cntK p e (old + 1) r
theorem cnt_nonneg (p : Int) (e : Bool) : ∀ (l : List Int) (old : Int), 0 ≤ cntK p e old l ∧ cntK p e old l ≤ l.length
 | [], old => by simp [cntK]
 | k :: r, old => by
  have h1 := cnt_nonneg p e r old
  have h2 := cnt_nonneg p e r (old + 1)
  simp only [cntK, List.length_cons]
  push_cast
  split
  ·split <;> omega
  ·split
   ·omega
   ·split <;> omega
theorem cnt_zero (p : Int) (e : Bool) : ∀ (l : List Int) (old : Int), p ≤ old → ¬ (e = true ∧ old = p) → cntK p e old l = 0
 | [], old, h, h2 => rfl
 | k :: r, old, h, h2 => by
  simp only [cntK]
  split
  ·rw [if_neg (fun hh => hh.elim (fun h => by omega) h2), cnt_zero p e r old h h2]; rfl
  ·split
   ·exact cnt_zero p e r (old + 1) (by omega) (fun hh => by omega)
   ·rw [if_neg (by omega), cnt_zero p e r (old + 1) (by omega) (fun hh => by omega)]; rfl
theorem cnt_rep2 (p : Int) (e : Bool) (old : Int) (r : List Int) : ∀ n : Nat, cntK p e old (List.replicate n 2 ++ r) = (if old < p ∨ (e = true ∧ old = p) then (n : Int) else 0) + cntK p e old r
 | 0 => by simp
 | n + 1 => by
  rw [List.replicate_succ, List.cons_append, cntK, if_pos rfl, cnt_rep2 p e old r n]
  split <;> push_cast <;> omega
theorem cnt_rep3 (p : Int) (e : Bool) (r : List Int) : ∀ (n : Nat) (old : Int), cntK p e old (List.replicate n 3 ++ r) = cntK p e (old + n) r
 | 0, old => by simp
 | n + 1, old => by
  rw [List.replicate_succ, List.cons_append, cntK, if_neg (by decide), if_pos rfl, cnt_rep3 p e r n (old + 1)]
  congr 1; push_cast; omega
theorem cnt_rep1 (p : Int) (e : Bool) (r : List Int) : ∀ (n : Nat) (old : Int), cntK p e old (List.replicate n 1 ++ r) = mn n (mx (p - old) 0) + cntK p e (old + n) r
 | 0, old => by simp [mn, mx]; split <;> omega
 | n + 1, old => by
  rw [List.replicate_succ, List.cons_append, cntK, if_neg (by decide), if_neg (by decide), cnt_rep1 p e r n (old + 1)]
  rw [show old + 1 + (n : Int) = old + ((n + 1 : Nat) : Int) by push_cast; omega]
  have : (if old < p then (1 : Int) else 0) + mn (n : Int) (mx (p - (old + 1)) 0) = mn ((n + 1 : Nat) : Int) (mx (p - old) 0) := by
   unfold mn mx; push_cast; repeat' split
   all_goals omega
  omega
theorem cnt_shift {frm : Int} {p : Int} (e : Bool) (m : Nat) : ∀ (nl : List S43) (old now : Int), (∀ o ∈ nl, opOk o = true) → p ≤ old + took nl + m → shiftGo p e old now nl = now + cntK p e old (kinds nl ++ List.replicate m 1)
 | [], old, now, hk, hp => by
  simp only [took, List.map_nil, List.sum_nil] at hp
  have := cnt_rep1 p e [] m old
  rw [List.append_nil] at this
  simp only [kinds, List.flatMap_nil, List.nil_append, shiftGo]
  rw [this]
  simp only [cntK]
  unfold mn mx; repeat' split
  all_goals omega
 | o :: r, old, now, hk, hp => by
  rw [took_cons] at hp
  have ho := hk o (by simp)
  have ih := fun old now h => cnt_shift (frm := frm) (p := p) e m r old now (fun x hx => hk x (List.mem_cons_of_mem _ hx)) h
  have hn := opOk_n ho
  rw [kinds_cons, List.append_assoc]
  rcases opOk_kind ho with k | k | k
  ·have htk : tookS o = o.f1 := by unfold tookS; rw [if_neg (by omega)]
   rw [sg_keep k, ih _ _ (by omega)]
   unfold kindsOp
   rw [if_neg (by omega), k, cnt_rep1]
   rw [show ((o.f1.toNat : Nat) : Int) = o.f1 by omega]; omega
  ·have htk : tookS o = 0 := by unfold tookS; rw [if_pos k]
   rw [sg_ins k, ih _ _ (by have := hn.2 k; omega)]
   unfold kindsOp
   rw [if_pos k, cnt_rep2, hn.2 k, Int.add_zero]; omega
  ·have htk : tookS o = o.f1 := by unfold tookS; rw [if_neg (by omega)]
   rw [sg_del k, ih _ _ (by omega)]
   unfold kindsOp
   rw [if_neg (by omega), k, cnt_rep3]
   rw [show ((o.f1.toNat : Nat) : Int) = o.f1 by omega]
theorem shift_cnt {frm p : Int} {nl : List S43} (hr : RightC frm nl) (e : Bool) (h : p ≤ frm) : shiftGo p e 0 0 nl = cntK p e 0 (allK frm nl) := by
 have hf := hr.fits
 rw [cnt_shift (frm := frm) e (frm - took nl).toNat nl 0 0 hr.ok (by omega), Int.zero_add]; rfl
theorem kinds_small : ∀ {nl : List S43} (N : Nat), (∀ o ∈ nl, (kindsOp o).length ≤ N) → (kinds nl).length ≤ N * nl.length
 | [], N, h => by simp [kinds]
 | o :: r, N, h => by
  have h1 := h o (by simp)
  have h2 := kinds_small N (nl := r) (fun x hx => h x (List.mem_cons_of_mem _ hx))
  rw [kinds_cons, List.length_append, List.length_cons, Nat.mul_add]; omega
theorem allK_len {frm : Int} {nl : List S43} (hr : RightC frm nl) : (allK frm nl).length ≤ 100000000 := by
 have h1 := kinds_small (nl := nl) 20000 (fun o ho => kindsOp_len (hr.ok o ho) (hr.n o ho))
 have := hr.len
 have := hr.hi
 have := took_list_nonneg hr.ok
 unfold allK
 rw [List.length_append, List.length_replicate]; omega
end Go.Proofs.YtinbpjodheceoaaDoor.Sem
