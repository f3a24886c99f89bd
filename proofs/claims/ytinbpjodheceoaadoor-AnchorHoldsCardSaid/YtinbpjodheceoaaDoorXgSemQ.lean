/- What the reference's functions on texts and changesets come to: read, Count, formed, measure, Right, To: the same as the program's. -/
import Derived.Test.YtinbpjodheceoaaDoorXgSemF
import Derived.Test.YtinbpjodheceoaaDoorXgSemR
import Derived.Test.YtinbpjodheceoaaDoorXgSemU
import Derived.Test.YtinbpjodheceoaaDoorXgSp29
import Derived.Test.YtinbpjodheceoaaDoorXgSp32
namespace Go.Proofs.YtinbpjodheceoaaDoor.Sem
open Go.RowKit Go.Lib Go.Proofs.YtinbpjodheceoaaDoorW.PrintWords Go.Proofs.YtinbpjodheceoaaDoorW.PrintLast Go.Proofs.YtinbpjodheceoaaDoor.Sp
set_option linter.unusedVariables false
set_option linter.unusedSimpArgs false
abbrev RdS := List Int × Bool
def badC (c least : Int) : Prop := c < least ∨ (55296 ≤ c ∧ c ≤ 57343) ∨ 1114111 < c
theorem rd_end {s : ByteArray} {x4 : List Int} {i n : Nat} {c least : Int} {R : RdS} (hs : s.size ≤ 17592186044415) (hi : i + n < s.size) (hx : x4.length ≤ i)
 (h1 : badC c least → R = ([], false)) (h2 : ¬ badC c least → Ev (fun k => blotterref01_read.l0 k s (x4 ++ [c]) ((i + n + 1 : Nat) : Int)) R) :
 Ev (fun k => blotterref01_read.l1 k s x4 (i : Int) c (n : Int) least ((n + 1 : Nat) : Int)) R := by
 have e7 : ∀ k b, blotterref01_read.j7 (k + 1) s x4 (i : Int) c (n : Int) b = if b = true then some ([], false) else blotterref01_read.l0 k s (x4 ++ [c]) ((i + n + 1 : Nat) : Int) := by
  intro k b
  simp only [blotterref01_read.j7]
  rw [if_pos (show x4.length < 17592186044416 by omega), show wrap64 (wrap64 ((i : Int) + (n : Int)) + 1) = ((i + n + 1 : Nat) : Int) from by unfold wrap64; omega]
 have e1 : ∀ k, blotterref01_read.l1 (k + 1) s x4 (i : Int) c (n : Int) least ((n + 1 : Nat) : Int) = if c < least then blotterref01_read.j7 k s x4 (i : Int) c (n : Int) true else if c ≥ 55296 then if c ≤ 57343 then blotterref01_read.j7 k s x4 (i : Int) c (n : Int) true else blotterref01_read.j7 k s x4 (i : Int) c (n : Int) (decide (c > 1114111)) else blotterref01_read.j7 k s x4 (i : Int) c (n : Int) (decide (c > 1114111)) := by
  intro k
  simp only [blotterref01_read.l1]
  rw [if_neg (by omega)]
 refine Ev.step e1 ?_
 have bad : badC c least → Ev (fun k => blotterref01_read.j7 k s x4 (i : Int) c (n : Int) true) R := fun h => by
  rw [h1 h]; exact Ev.step (f := fun _ => some ([], false)) (fun k => (e7 k true).trans (if_pos rfl)) (Ev.now _)
 have rest : ¬ (c < least ∨ (55296 ≤ c ∧ c ≤ 57343)) → Ev (fun k => blotterref01_read.j7 k s x4 (i : Int) c (n : Int) (decide (c > 1114111))) R := fun h => by
  by_cases hc : c > 1114111
  ·rw [decide_eq_true hc]; exact bad (.inr (.inr hc))
  ·rw [decide_eq_false hc]
   exact Ev.step (fun k => (e7 k false).trans (if_neg (by simp))) (h2 (fun hb => by unfold badC at hb; omega))
 by_cases a1 : c < least
 ·simp only [if_pos a1]; exact bad (.inl a1)
 ·simp only [if_neg a1]
  by_cases a2 : c ≥ 55296
  ·simp only [if_pos a2]
   by_cases a3 : c ≤ 57343
   ·simp only [if_pos a3]; exact bad (.inr (.inl ⟨a2, a3⟩))
   ·simp only [if_neg a3]; exact rest (by omega)
  ·simp only [if_neg a2]; exact rest (by omega)
theorem rd_step {s : ByteArray} {x4 : List Int} {i n j : Nat} {c least : Int} {R : RdS} (hs : s.size ≤ 17592186044415) (hi : i + n < s.size) (hj : j ≤ n) (hn : n ≤ 3) (hc0 : 0 ≤ c) (hc1 : c ≤ 100000) (b : Nat) (hb : bt s ((i + j : Nat) : Int) = (b : Int)) (hb2 : b < 256)
 (h1 : (b < 128 ∨ 191 < b) → R = ([], false)) (h2 : ¬ (b < 128 ∨ 191 < b) → Ev (fun k => blotterref01_read.l1 k s x4 (i : Int) (c * 64 + b - 128) (n : Int) least ((j + 1 : Nat) : Int)) R) :
 Ev (fun k => blotterref01_read.l1 k s x4 (i : Int) c (n : Int) least (j : Int)) R := by
 have e6 : ∀ k t, blotterref01_read.j6 (k + 1) s x4 (i : Int) c (n : Int) least (j : Int) (b : Int) t = if t = true then some ([], false) else blotterref01_read.l1 k s x4 (i : Int) (c * 64 + b - 128) (n : Int) least ((j + 1 : Nat) : Int) := by
  intro k t
  simp only [blotterref01_read.j6]
  rw [show wrap64 (wrap64 (wrap64 (c * 64) + (b : Int)) - 128) = c * 64 + b - 128 from by unfold wrap64; omega, show wrap64 ((j : Int) + 1) = ((j + 1 : Nat) : Int) from by unfold wrap64; omega]
 have e1 : ∀ k, blotterref01_read.l1 (k + 1) s x4 (i : Int) c (n : Int) least (j : Int) = blotterref01_read.j6 k s x4 (i : Int) c (n : Int) least (j : Int) (b : Int) (decide (b < 128 ∨ 191 < b)) := by
  intro k
  simp only [blotterref01_read.l1]
  rw [if_pos (by omega), show wrap64 ((i : Int) + (j : Int)) = ((i + j : Nat) : Int) from by unfold wrap64; omega, if_pos (by omega), if_pos (by omega), hb, show wrap64 (b : Int) = (b : Int) from by unfold wrap64; omega]
  by_cases a : (b : Int) < 128
  ·rw [if_pos a, decide_eq_true (by omega)]
  ·rw [if_neg a]
   by_cases a2 : (b : Int) > 191
   ·rw [decide_eq_true a2, decide_eq_true (by omega)]
   ·rw [decide_eq_false a2, decide_eq_false (by omega)]
 refine Ev.step e1 ?_
 by_cases a : b < 128 ∨ 191 < b
 ·rw [decide_eq_true a, h1 a]
  exact Ev.step (f := fun _ => some ([], false)) (fun k => (e6 k true).trans (if_pos rfl)) (Ev.now _)
 ·rw [decide_eq_false a]
  exact Ev.step (fun k => (e6 k false).trans (if_neg (by simp))) (h2 a)
theorem rd_four {s : ByteArray} {x4 : List Int} {i n : Nat} {c least : Int} {R : RdS} (hs : s.size ≤ 17592186044415) (hi : i < s.size) (hn : n ≤ 3)
 (h1 : ¬ i + n < s.size → R = ([], false)) (h2 : i + n < s.size → Ev (fun k => blotterref01_read.l1 k s x4 (i : Int) c (n : Int) least ((1 : Nat) : Int)) R) :
 Ev (fun k => blotterref01_read.j4 k s x4 (i : Int) c (n : Int) least) R := by
 have e4 : ∀ k, blotterref01_read.j4 (k + 1) s x4 (i : Int) c (n : Int) least = if i + n < s.size then blotterref01_read.l1 k s x4 (i : Int) c (n : Int) least ((1 : Nat) : Int) else some ([], false) := by
  intro k
  simp only [blotterref01_read.j4]
  rw [show wrap64 ((i : Int) + (n : Int)) = ((i + n : Nat) : Int) from by unfold wrap64; omega]
  by_cases a : i + n < s.size
  ·rw [if_pos a, if_neg (by omega)]; rfl
  ·rw [if_neg a, if_pos (by omega)]
 refine Ev.step e4 ?_
 by_cases a : i + n < s.size
 ·simp only [if_pos a]; exact h2 a
 ·simp only [if_neg a]; rw [h1 a]; exact Ev.now _
theorem rd_head {s : ByteArray} {x4 : List Int} {i b : Nat} {R : RdS} (hi : i < s.size) (hb : bt s (i : Int) = (b : Int)) (hb2 : b < 256)
 (h0 : b < 128 → Ev (fun k => blotterref01_read.j4 k s x4 (i : Int) (b : Int) ((0 : Nat) : Int) 0) R) (h1 : 192 ≤ b → b < 224 → Ev (fun k => blotterref01_read.j4 k s x4 (i : Int) ((b : Int) - 192) ((1 : Nat) : Int) 128) R)
 (h2 : 224 ≤ b → b < 240 → Ev (fun k => blotterref01_read.j4 k s x4 (i : Int) ((b : Int) - 224) ((2 : Nat) : Int) 2048) R) (h3 : 240 ≤ b → b < 248 → Ev (fun k => blotterref01_read.j4 k s x4 (i : Int) ((b : Int) - 240) ((3 : Nat) : Int) 65536) R)
 (h4 : ((128 ≤ b ∧ b < 192) ∨ 248 ≤ b) → R = ([], false)) : Ev (fun k => blotterref01_read.l0 k s x4 (i : Int)) R := by
 have w : wrap64 (b : Int) = (b : Int) := by unfold wrap64; omega
 have e1 : ∀ k t, blotterref01_read.j1 (k + 1) s x4 (i : Int) (b : Int) t = if t = true then blotterref01_read.j4 k s x4 (i : Int) (wrap64 ((b : Int) - 192)) 1 128 else if (b : Int) ≥ 224 then blotterref01_read.j2 k s x4 (i : Int) (b : Int) (decide ((b : Int) < 240)) else blotterref01_read.j2 k s x4 (i : Int) (b : Int) false := fun k t => by simp only [blotterref01_read.j1]
 have e2 : ∀ k t, blotterref01_read.j2 (k + 1) s x4 (i : Int) (b : Int) t = if t = true then blotterref01_read.j4 k s x4 (i : Int) (wrap64 ((b : Int) - 224)) 2 2048 else if (b : Int) ≥ 240 then blotterref01_read.j3 k s x4 (i : Int) (b : Int) (decide ((b : Int) < 248)) else blotterref01_read.j3 k s x4 (i : Int) (b : Int) false := fun k t => by simp only [blotterref01_read.j2]
 have e3 : ∀ k t, blotterref01_read.j3 (k + 1) s x4 (i : Int) (b : Int) t = if t = true then blotterref01_read.j4 k s x4 (i : Int) (wrap64 ((b : Int) - 240)) 3 65536 else some ([], false) := fun k t => by simp only [blotterref01_read.j3]
 have e0 : ∀ k, blotterref01_read.l0 (k + 1) s x4 (i : Int) = if (b : Int) < 128 then blotterref01_read.j4 k s x4 (i : Int) (b : Int) 0 0 else if (b : Int) ≥ 192 then blotterref01_read.j1 k s x4 (i : Int) (b : Int) (decide ((b : Int) < 224)) else blotterref01_read.j1 k s x4 (i : Int) (b : Int) false := by
  intro k
  simp only [blotterref01_read.l0]
  rw [if_pos (by omega), if_pos (by omega), hb, w]
 have b3 : (b < 192 ∧ 128 ≤ b) ∨ 248 ≤ b → Ev (fun k => blotterref01_read.j3 k s x4 (i : Int) (b : Int) false) R := fun h => by
  rw [h4 (by omega)]; exact Ev.step (f := fun _ => some ([], false)) (fun k => (e3 k false).trans (if_neg (by simp))) (Ev.now _)
 refine Ev.step e0 ?_
 by_cases a0 : b < 128
 ·simp only [if_pos (show (b : Int) < 128 by omega)]; exact h0 a0
 ·simp only [if_neg (show ¬ (b : Int) < 128 by omega)]
  by_cases a1 : 192 ≤ b
  ·simp only [if_pos (show (b : Int) ≥ 192 by omega)]
   by_cases a2 : b < 224
   ·rw [decide_eq_true (show (b : Int) < 224 by omega)]
    refine Ev.step (fun k => (e1 k true).trans (if_pos rfl)) ?_
    rw [show wrap64 ((b : Int) - 192) = (b : Int) - 192 from by unfold wrap64; omega]
    exact h1 a1 a2
   ·rw [decide_eq_false (show ¬ (b : Int) < 224 by omega)]
    refine Ev.step (fun k => (e1 k false).trans (if_neg (by simp))) ?_
    simp only [if_pos (show (b : Int) ≥ 224 by omega)]
    by_cases a3 : b < 240
    ·rw [decide_eq_true (show (b : Int) < 240 by omega)]
     refine Ev.step (fun k => (e2 k true).trans (if_pos rfl)) ?_
     rw [show wrap64 ((b : Int) - 224) = (b : Int) - 224 from by unfold wrap64; omega]
     exact h2 (by omega) a3
    ·rw [decide_eq_false (show ¬ (b : Int) < 240 by omega)]
     refine Ev.step (fun k => (e2 k false).trans (if_neg (by simp))) ?_
     simp only [if_pos (show (b : Int) ≥ 240 by omega)]
     by_cases a4 : b < 248
     ·rw [decide_eq_true (show (b : Int) < 248 by omega)]
      refine Ev.step (fun k => (e3 k true).trans (if_pos rfl)) ?_
      rw [show wrap64 ((b : Int) - 240) = (b : Int) - 240 from by unfold wrap64; omega]
      exact h3 (by omega) a4
     ·rw [decide_eq_false (show ¬ (b : Int) < 248 by omega)]; exact b3 (by omega)
  ·simp only [if_neg (show ¬ (b : Int) ≥ 192 by omega)]
   refine Ev.step (fun k => (e1 k false).trans (if_neg (by simp))) ?_
   simp only [if_neg (show ¬ (b : Int) ≥ 224 by omega)]
   refine Ev.step (fun k => (e2 k false).trans (if_neg (by simp))) ?_
   simp only [if_neg (show ¬ (b : Int) ≥ 240 by omega)]
   exact b3 (by omega)
theorem first_bad (b : Nat) (h : (128 ≤ b ∧ b < 194) ∨ 245 ≤ b) : firstT b % 8 = 1 := by
 unfold firstT; repeat' split
 all_goals omega
theorem first_two (b : Nat) (h : 194 ≤ b ∧ b < 224) : firstT b = 2 := by
 unfold firstT; repeat' split
 all_goals omega
theorem first_three (b : Nat) (h : 224 ≤ b ∧ b < 240) : firstT b = if b = 224 then 19 else if b = 237 then 35 else 3 := by
 unfold firstT; repeat' split
 all_goals omega
theorem first_four (b : Nat) (h : 240 ≤ b ∧ b < 245) : firstT b = if b = 240 then 52 else if b = 244 then 68 else 4 := by
 unfold firstT; repeat' split
 all_goals omega
def Hd (l : List UInt8) (b : Nat) (o : Option Nat) : Prop := (o = none → validD l = false) ∧ ∀ m, o = some m → validD l = validD (l.drop m) ∧ ∀ cs, Text cs l → ∃ c cs', cs = c :: cs' ∧ Text cs' (l.drop m)
theorem hd_of {l : List UInt8} (hne : l ≠ []) {b : Nat} (h0 : (l.getD 0 0).toNat = b) (h128 : 128 ≤ b) : Hd l b (checkN l.length (l.getD 1 0).toNat (l.getD 2 0).toNat (l.getD 3 0).toNat (firstT b % 8) (accLo (firstT b / 16)) (accHi (firstT b / 16))) := by
 have hlen := List.length_pos_iff.2 hne
 have hN := decodeL_N l
 rw [h0] at hN
 have text : ∀ cs, Text cs l → ∃ c cs', cs = c :: cs' ∧ Text cs' (l.drop (decodeL l).2) := fun cs ht => by
  cases cs with
  | nil => exact absurd ht.1 (by simpa using hne)
  | cons c cs' =>
   have hc := (ht.2 c (by simp)).1
   have e : l = c ++ cs'.flatten := by rw [ht.1, List.flatten_cons]
   refine ⟨c, cs', rfl, ?_, fun x hx => ht.2 x (List.mem_cons_of_mem _ hx)⟩
   have := (chunk_head hc cs'.flatten).2
   rw [← e] at this
   exact this
 rcases check_decode l.length b (l.getD 1 0).toNat (l.getD 2 0).toNat (l.getD 3 0).toNat hlen h128 (by rw [← h0]; exact byte_lt _) (byte_lt _) (byte_lt _) (byte_lt _) with ⟨h, hd⟩ | ⟨k, hk2, hk, hw⟩
 ·refine ⟨fun _ => ?_, fun m hm => by rw [h] at hm; cases hm⟩
  rw [validD_step l hne, hN, hd, if_pos ⟨rfl, rfl⟩]
 ·refine ⟨fun hn => (by rw [hk] at hn; cases hn), fun m hm => ?_⟩
  rw [hk] at hm
  cases hm
  have hw' : (decodeL l).2 = k := by rw [hN]; exact hw
  refine ⟨?_, fun cs ht => ?_⟩
  ·rw [validD_step l hne, if_neg (fun h => by have := h.2; omega), hw']
  ·have := text cs ht
   rwa [hw'] at this
theorem hd_ascii {b : UInt8} {r : List UInt8} (h : b.toNat < 128) : Hd (b :: r) b.toNat (some 1) := by
 have hd := decodeL_ascii b r h
 refine ⟨fun h => (by cases h), fun m hm => ?_⟩
 cases hm
 refine ⟨?_, fun cs ht => ?_⟩
 ·rw [validD_step _ (by simp), hd, if_neg (fun h' => by have h1 : b.toNat = 65533 := h'.1; omega)]
 ·cases cs with
  | nil => exact absurd ht.1 (by simp)
  | cons c cs' =>
   have hc := (ht.2 c (by simp)).1
   have e : (b :: r) = c ++ cs'.flatten := by rw [ht.1, List.flatten_cons]
   refine ⟨c, cs', rfl, ?_, fun x hx => ht.2 x (List.mem_cons_of_mem _ hx)⟩
   have := (chunk_head hc cs'.flatten).2
   rw [← e, hd] at this
   exact this
def RdOk (x4 : List Int) (l : List UInt8) (R : RdS) : Prop := (validD l = false → R.2 = false) ∧ ∀ cs, Text cs l → R.1.length = x4.length + cs.length ∧ R.2 = decide (R.1.length ≤ 20000)
theorem rdok_bad {x4 : List Int} {l : List UInt8} (h : validD l = false) : RdOk x4 l ([], false) := ⟨fun _ => rfl, fun cs ht => by rw [valid_of_text cs l ht] at h; cases h⟩
theorem rdok_next {x4 : List Int} {c : Int} {l : List UInt8} {b m : Nat} {R : RdS} (hd : Hd l b (some m)) (h : RdOk (x4 ++ [c]) (l.drop m) R) : RdOk x4 l R := by
 obtain ⟨h1, h2⟩ := hd.2 m rfl
 refine ⟨fun hv => h.1 (by rw [← h1]; exact hv), fun cs ht => ?_⟩
 obtain ⟨c', cs', rfl, ht'⟩ := h2 cs ht
 obtain ⟨a, b⟩ := h.2 cs' ht'
 refine ⟨?_, b⟩
 rw [a, List.length_append, List.length_singleton, List.length_cons]; omega
theorem read_loop (s : ByteArray) (hs : s.size ≤ 17592186044415) : ∀ (n i : Nat) (x4 : List Int), s.size ≤ i + n → i ≤ s.size → x4.length ≤ i →
 ∃ R, Ev (fun k => blotterref01_read.l0 k s x4 (i : Int)) R ∧ RdOk x4 (s.toList.drop i) R
 | 0, i, x4, hn, hi, hx => by
  refine ⟨(x4, decide ((x4.length : Int) ≤ 20000)), Ev.step (f := fun _ => some (x4, decide ((x4.length : Int) ≤ 20000))) (fun k => by simp only [blotterref01_read.l0]; rw [if_neg (by omega)]) (Ev.now _), ?_⟩
  rw [List.drop_of_length_le (by rw [toList_len]; omega)]
  refine ⟨fun h => (by rw [validD_nil] at h; cases h), fun cs ht => ?_⟩
  cases cs with
  | nil => exact ⟨by simp, by rw [decide_eq_decide]; show ((x4.length : Int) ≤ 20000 ↔ x4.length ≤ 20000); omega⟩
  | cons c cs =>
   have e := ht.1
   rw [List.flatten_cons] at e
   exact absurd (List.append_eq_nil_iff.1 e.symm).1 (ht.2 c (by simp)).1.1
 | n + 1, i, x4, hn, hi, hx => by
  by_cases hlt : i < s.size
  ·have hll : s.toList.length = s.size := toList_len s
   have hbt : ∀ j, i + j < s.size → bt s ((i + j : Nat) : Int) = ((((s.toList.drop i).getD j 0).toNat : Nat) : Int) := fun j hj => by
    rw [bt_nat s (i + j) hj, List.getD_eq_getElem?_getD, List.getElem?_drop, List.getElem?_eq_getElem (by omega)]; rfl
   have hlen : (s.toList.drop i).length = s.size - i := by rw [List.length_drop, hll]
   have hne : s.toList.drop i ≠ [] := fun h => by rw [h] at hlen; simp at hlen; omega
   have next : ∀ (c : Int) (m : Nat) (b : Nat), 1 ≤ m → i + m ≤ s.size → Hd (s.toList.drop i) b (some m) → ∃ R, Ev (fun k => blotterref01_read.l0 k s (x4 ++ [c]) ((i + m : Nat) : Int)) R ∧ RdOk x4 (s.toList.drop i) R := fun c m b h1 h2 hd => by
    obtain ⟨R, hR, ho⟩ := read_loop s hs n (i + m) (x4 ++ [c]) (by omega) h2 (by simp; omega)
    refine ⟨R, hR, rdok_next (c := c) hd ?_⟩
    rw [List.drop_drop]; exact ho
   generalize hl : s.toList.drop i = l at *
   obtain ⟨b0, h0⟩ : ∃ b0, (l.getD 0 0).toNat = b0 := ⟨_, rfl⟩
   have hb0 : b0 < 256 := by rw [← h0]; exact byte_lt _
   have hbt0 : bt s (i : Int) = (b0 : Int) := by have := hbt 0 (by omega); rwa [h0] at this
   have stop : validD l = false → ∃ R, R = (([] : List Int), false) ∧ RdOk x4 l R := fun h => ⟨_, rfl, rdok_bad h⟩
   by_cases c0 : b0 < 128
   ·have hd : Hd l b0 (some 1) := by
     obtain ⟨b, r, rfl⟩ := List.exists_cons_of_ne_nil hne
     have hb : b.toNat = b0 := h0
     have := hd_ascii (b := b) (r := r) (by omega)
     rwa [hb] at this
    obtain ⟨R, hR, ho⟩ := next (b0 : Int) 1 b0 (by omega) (by omega) hd
    refine ⟨R, rd_head hlt hbt0 hb0 (fun _ => rd_four hs hlt (by omega) (fun h => by omega) (fun h => rd_end (n := 0) hs (by omega) hx (fun hb => by unfold badC at hb; omega) (fun _ => hR))) (fun h => by omega) (fun h => by omega) (fun h => by omega) (fun h => by omega), ho⟩
   ·have hd := hd_of hne h0 (by omega)
    obtain ⟨b1, h1⟩ : ∃ b1, (l.getD 1 0).toNat = b1 := ⟨_, rfl⟩
    obtain ⟨b2, h2⟩ : ∃ b2, (l.getD 2 0).toNat = b2 := ⟨_, rfl⟩
    obtain ⟨b3, h3⟩ : ∃ b3, (l.getD 3 0).toNat = b3 := ⟨_, rfl⟩
    have hb1 : b1 < 256 := by rw [← h1]; exact byte_lt _
    have hb2 : b2 < 256 := by rw [← h2]; exact byte_lt _
    have hb3 : b3 < 256 := by rw [← h3]; exact byte_lt _
    have hbt1 : i + 1 < s.size → bt s ((i + 1 : Nat) : Int) = (b1 : Int) := fun h => by rw [hbt 1 h, h1]
    have hbt2 : i + 2 < s.size → bt s ((i + 2 : Nat) : Int) = (b2 : Int) := fun h => by rw [hbt 2 h, h2]
    have hbt3 : i + 3 < s.size → bt s ((i + 3 : Nat) : Int) = (b3 : Int) := fun h => by rw [hbt 3 h, h3]
    rw [h1, h2, h3, hlen] at hd
    have none_ : ∀ o, checkN (s.size - i) b1 b2 b3 (firstT b0 % 8) (accLo (firstT b0 / 16)) (accHi (firstT b0 / 16)) = o → o = none → validD l = false := fun o ho hn => hd.1 (ho.trans hn)
    by_cases cb : b0 < 194 ∨ 245 ≤ b0
    ·have hck : checkN (s.size - i) b1 b2 b3 (firstT b0 % 8) (accLo (firstT b0 / 16)) (accHi (firstT b0 / 16)) = none := by rw [first_bad b0 (by omega)]; rfl
     have hv := hd.1 hck
     refine ⟨([], false), rd_head hlt hbt0 hb0 (fun h => by omega) (fun a c => rd_four hs hlt (by omega) (fun _ => rfl) (fun h => ?_)) (fun a c => by omega) (fun a c => rd_four hs hlt (by omega) (fun _ => rfl) (fun h => ?_)) (fun _ => rfl), rdok_bad hv⟩
     ·refine rd_step hs h (by omega) (by omega) (by omega) (by omega) b1 (hbt1 h) hb1 (fun _ => rfl) (fun hc => rd_end hs h hx (fun _ => rfl) (fun hb => ?_))
      exact absurd (show badC (((b0 : Int) - 192) * 64 + b1 - 128) 128 from .inl (by omega)) hb
     ·refine rd_step hs h (by omega) (by omega) (by omega) (by omega) b1 (hbt1 (by omega)) hb1 (fun _ => rfl) (fun hc => ?_)
      refine rd_step hs h (by omega) (by omega) (by omega) (by omega) b2 (hbt2 (by omega)) hb2 (fun _ => rfl) (fun hc2 => ?_)
      refine rd_step hs h (by omega) (by omega) (by omega) (by omega) b3 (hbt3 (by omega)) hb3 (fun _ => rfl) (fun hc3 => rd_end hs h hx (fun _ => rfl) (fun hb => ?_))
      exact absurd (show badC (((((b0 : Int) - 240) * 64 + b1 - 128) * 64 + b2 - 128) * 64 + b3 - 128) 65536 from .inr (.inr (by omega))) hb
    ·by_cases c2 : b0 < 224
     ·rw [first_two b0 (by omega)] at hd
      by_cases ok : i + 1 < s.size ∧ ¬ (b1 < 128 ∨ 191 < b1)
      ·have hck : checkN (s.size - i) b1 b2 b3 (2 % 8) (accLo (2 / 16)) (accHi (2 / 16)) = some 2 := by
        show (if s.size - i < 2 ∨ b1 < 128 ∨ 191 < b1 then none else some 2) = some 2
        rw [if_neg (by omega)]
       rw [hck] at hd
       obtain ⟨R, hR, ho⟩ := next (((b0 : Int) - 192) * 64 + b1 - 128) 2 b0 (by omega) (by omega) hd
       refine ⟨R, rd_head hlt hbt0 hb0 (fun h => by omega) (fun a c => rd_four hs hlt (by omega) (fun h => absurd ok.1 h) (fun h => ?_)) (fun a c => by omega) (fun a c => by omega) (fun h => by omega), ho⟩
       exact rd_step hs h (by omega) (by omega) (by omega) (by omega) b1 (hbt1 h) hb1 (fun h' => absurd h' ok.2) (fun hc => rd_end hs h hx (fun hb => by unfold badC at hb; omega) (fun _ => hR))
      ·have hv : validD l = false := hd.1 (by
        show (if s.size - i < 2 ∨ b1 < 128 ∨ 191 < b1 then none else some 2) = none
        rw [if_pos (by omega)])
       refine ⟨([], false), rd_head hlt hbt0 hb0 (fun h => by omega) (fun a c => rd_four hs hlt (by omega) (fun _ => rfl) (fun h => ?_)) (fun a c => by omega) (fun a c => by omega) (fun _ => rfl), rdok_bad hv⟩
       exact rd_step hs h (by omega) (by omega) (by omega) (by omega) b1 (hbt1 h) hb1 (fun _ => rfl) (fun hc => absurd ⟨h, hc⟩ ok)
     ·by_cases c3 : b0 < 240
      ·obtain ⟨lo, hi', hlo⟩ : ∃ lo hi', firstT b0 % 8 = 3 ∧ accLo (firstT b0 / 16) = lo ∧ accHi (firstT b0 / 16) = hi' ∧ ((b0 = 224 ∧ lo = 160 ∧ hi' = 191) ∨ (b0 = 237 ∧ lo = 128 ∧ hi' = 159) ∨ (b0 ≠ 224 ∧ b0 ≠ 237 ∧ lo = 128 ∧ hi' = 191)) := by
        rw [first_three b0 (by omega)]
        by_cases e1 : b0 = 224
        ·rw [if_pos e1]; exact ⟨160, 191, rfl, rfl, rfl, .inl ⟨e1, rfl, rfl⟩⟩
        ·rw [if_neg e1]
         by_cases e2 : b0 = 237
         ·rw [if_pos e2]; exact ⟨128, 159, rfl, rfl, rfl, .inr (.inl ⟨e2, rfl, rfl⟩)⟩
         ·rw [if_neg e2]; exact ⟨128, 191, rfl, rfl, rfl, .inr (.inr ⟨e1, e2, rfl, rfl⟩)⟩
       obtain ⟨f1, f2, f3, f4⟩ := hlo
       rw [f1, f2, f3] at hd
       have hck : checkN (s.size - i) b1 b2 b3 3 lo hi' = if s.size - i < 3 ∨ b1 < lo ∨ hi' < b1 ∨ b2 < 128 ∨ 191 < b2 then none else some 3 := rfl
       rw [hck] at hd
       by_cases ok : s.size - i < 3 ∨ b1 < lo ∨ hi' < b1 ∨ b2 < 128 ∨ 191 < b2
       ·rw [if_pos ok] at hd
        refine ⟨([], false), rd_head hlt hbt0 hb0 (fun h => by omega) (fun a c => by omega) (fun a c => rd_four hs hlt (by omega) (fun _ => rfl) (fun h => ?_)) (fun a c => by omega) (fun _ => rfl), rdok_bad (hd.1 rfl)⟩
        refine rd_step hs h (by omega) (by omega) (by omega) (by omega) b1 (hbt1 (by omega)) hb1 (fun _ => rfl) (fun hc => ?_)
        refine rd_step hs h (by omega) (by omega) (by omega) (by omega) b2 (hbt2 (by omega)) hb2 (fun _ => rfl) (fun hc2 => rd_end hs h hx (fun _ => rfl) (fun hb => ?_))
        exact absurd (show badC ((((b0 : Int) - 224) * 64 + b1 - 128) * 64 + b2 - 128) 2048 from by unfold badC; omega) hb
       ·rw [if_neg ok] at hd
        obtain ⟨R, hR, ho⟩ := next ((((b0 : Int) - 224) * 64 + b1 - 128) * 64 + b2 - 128) 3 b0 (by omega) (by omega) hd
        refine ⟨R, rd_head hlt hbt0 hb0 (fun h => by omega) (fun a c => by omega) (fun a c => rd_four hs hlt (by omega) (fun h => by omega) (fun h => ?_)) (fun a c => by omega) (fun h => by omega), ho⟩
        refine rd_step hs h (by omega) (by omega) (by omega) (by omega) b1 (hbt1 (by omega)) hb1 (fun h' => by omega) (fun hc => ?_)
        exact rd_step hs h (by omega) (by omega) (by omega) (by omega) b2 (hbt2 (by omega)) hb2 (fun h' => by omega) (fun hc2 => rd_end hs h hx (fun hb => by unfold badC at hb; omega) (fun _ => hR))
      ·obtain ⟨lo, hi', hlo⟩ : ∃ lo hi', firstT b0 % 8 = 4 ∧ accLo (firstT b0 / 16) = lo ∧ accHi (firstT b0 / 16) = hi' ∧ ((b0 = 240 ∧ lo = 144 ∧ hi' = 191) ∨ (b0 = 244 ∧ lo = 128 ∧ hi' = 143) ∨ (b0 ≠ 240 ∧ b0 ≠ 244 ∧ lo = 128 ∧ hi' = 191)) := by
        rw [first_four b0 (by omega)]
        by_cases e1 : b0 = 240
        ·rw [if_pos e1]; exact ⟨144, 191, rfl, rfl, rfl, .inl ⟨e1, rfl, rfl⟩⟩
        ·rw [if_neg e1]
         by_cases e2 : b0 = 244
         ·rw [if_pos e2]; exact ⟨128, 143, rfl, rfl, rfl, .inr (.inl ⟨e2, rfl, rfl⟩)⟩
         ·rw [if_neg e2]; exact ⟨128, 191, rfl, rfl, rfl, .inr (.inr ⟨e1, e2, rfl, rfl⟩)⟩
       obtain ⟨f1, f2, f3, f4⟩ := hlo
       rw [f1, f2, f3] at hd
       have hck : checkN (s.size - i) b1 b2 b3 4 lo hi' = if s.size - i < 4 ∨ b1 < lo ∨ hi' < b1 ∨ b2 < 128 ∨ 191 < b2 ∨ b3 < 128 ∨ 191 < b3 then none else some 4 := rfl
       rw [hck] at hd
       by_cases ok : s.size - i < 4 ∨ b1 < lo ∨ hi' < b1 ∨ b2 < 128 ∨ 191 < b2 ∨ b3 < 128 ∨ 191 < b3
       ·rw [if_pos ok] at hd
        refine ⟨([], false), rd_head hlt hbt0 hb0 (fun h => by omega) (fun a c => by omega) (fun a c => by omega) (fun a c => rd_four hs hlt (by omega) (fun _ => rfl) (fun h => ?_)) (fun _ => rfl), rdok_bad (hd.1 rfl)⟩
        refine rd_step hs h (by omega) (by omega) (by omega) (by omega) b1 (hbt1 (by omega)) hb1 (fun _ => rfl) (fun hc => ?_)
        refine rd_step hs h (by omega) (by omega) (by omega) (by omega) b2 (hbt2 (by omega)) hb2 (fun _ => rfl) (fun hc2 => ?_)
        refine rd_step hs h (by omega) (by omega) (by omega) (by omega) b3 (hbt3 (by omega)) hb3 (fun _ => rfl) (fun hc3 => rd_end hs h hx (fun _ => rfl) (fun hb => ?_))
        exact absurd (show badC (((((b0 : Int) - 240) * 64 + b1 - 128) * 64 + b2 - 128) * 64 + b3 - 128) 65536 from by unfold badC; omega) hb
       ·rw [if_neg ok] at hd
        obtain ⟨R, hR, ho⟩ := next (((((b0 : Int) - 240) * 64 + b1 - 128) * 64 + b2 - 128) * 64 + b3 - 128) 4 b0 (by omega) (by omega) hd
        refine ⟨R, rd_head hlt hbt0 hb0 (fun h => by omega) (fun a c => by omega) (fun a c => by omega) (fun a c => rd_four hs hlt (by omega) (fun h => by omega) (fun h => ?_)) (fun h => by omega), ho⟩
        refine rd_step hs h (by omega) (by omega) (by omega) (by omega) b1 (hbt1 (by omega)) hb1 (fun h' => by omega) (fun hc => ?_)
        refine rd_step hs h (by omega) (by omega) (by omega) (by omega) b2 (hbt2 (by omega)) hb2 (fun h' => by omega) (fun hc2 => ?_)
        exact rd_step hs h (by omega) (by omega) (by omega) (by omega) b3 (hbt3 (by omega)) hb3 (fun h' => by omega) (fun hc3 => rd_end hs h hx (fun hb => by unfold badC at hb; omega) (fun _ => hR))
  ·exact read_loop s hs n i x4 (by omega) hi hx
theorem refcount_ev (s : ByteArray) (hs : s.size ≤ 17592186044415) : Ev (fun k => blotterref01_Count.f k s) (cntS s) := by
 obtain ⟨⟨out, b⟩, hR, ho⟩ := read_loop s hs s.size 0 [] (by omega) (by omega) (by simp)
 rw [List.drop_zero] at ho
 refine Ev.bind (f := fun _ (t : List Int × Bool) => if t.2 = true then some ((t.1.length : Int), (0 : Int)) else some (0, 10)) hR ?_
 unfold cntS txtOk
 have hv : vld s = validD s.toList := by unfold vld; rw [bl]
 cases h : vld s with
 | false =>
  have hb : b = false := ho.1 (by rw [← hv]; exact h)
  subst hb
  simpa using Ev.now _
 | true =>
  obtain ⟨cs, ht⟩ := vld_text h
  obtain ⟨e1, e2⟩ := ho.2 cs (by rw [bl]; exact ht)
  have hc := count_of_text ht
  simp only [List.length_nil, Nat.zero_add] at e1 e2
  simp only [Bool.true_and]
  rw [hc, e2, e1]
  by_cases hle : cs.length ≤ 20000
  ·simp only [decide_eq_true hle, if_true]; exact Ev.now _
  ·simp only [decide_eq_false hle, Bool.false_eq_true, if_false]; exact Ev.now _
end Go.Proofs.YtinbpjodheceoaaDoor.Sem
