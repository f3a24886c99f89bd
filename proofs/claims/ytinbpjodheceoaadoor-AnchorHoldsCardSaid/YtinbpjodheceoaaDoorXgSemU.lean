/- Plain laws of UTF-8: a valid text is a row of runes; two behind one another have the runes of both. -/
import Derived.Test.YtinbpjodheceoaaDoorXgSemC
import Derived.Lib.ValidLaws
namespace Go.Proofs.YtinbpjodheceoaaDoor.Sem
open Go.RowKit Go.Lib
set_option linter.unusedVariables false
set_option linter.unusedSimpArgs false
def Chunk (c : List UInt8) : Prop := c ≠ [] ∧ ∀ t, (decodeL (c ++ t)).2 = c.length ∧ ¬ ((decodeL (c ++ t)).1 = 65533 ∧ (decodeL (c ++ t)).2 = 1)
def cont (b : UInt8) : Bool := decide (128 ≤ b.toNat) && decide (b.toNat < 192)
theorem cont_of {x : UInt8} (h : 128 ≤ x.toNat) (k : x.toNat ≤ 191) : cont x = true := by
 unfold cont
 rw [decide_eq_true h, decide_eq_true (by omega)]; rfl
def Shape (c : List UInt8) : Prop := ∃ b r, c = b :: r ∧ cont b = false ∧ ∀ x ∈ r, cont x = true
theorem first_bytes : ∀ b0, b0 < 256 → ((128 ≤ b0 ∧ b0 < 192) → firstT b0 % 8 ≠ 2 ∧ firstT b0 % 8 ≠ 3 ∧ firstT b0 % 8 ≠ 4) ∧ (128 ≤ b0 → (firstT b0 % 8 = 2 ∨ firstT b0 % 8 = 3 ∨ firstT b0 % 8 = 4) → 128 ≤ accLo (firstT b0 / 16) ∧ accHi (firstT b0 / 16) ≤ 191) := by
 have h : (List.range 256).all (fun b0 => decide (((128 ≤ b0 ∧ b0 < 192) → firstT b0 % 8 ≠ 2 ∧ firstT b0 % 8 ≠ 3 ∧ firstT b0 % 8 ≠ 4) ∧ (128 ≤ b0 → (firstT b0 % 8 = 2 ∨ firstT b0 % 8 = 3 ∨ firstT b0 % 8 = 4) → 128 ≤ accLo (firstT b0 / 16) ∧ accHi (firstT b0 / 16) ≤ 191))) = true := by decide +kernel
 intro b0 hb
 exact of_decide_eq_true (List.all_eq_true.1 h b0 (List.mem_range.2 hb))
theorem check_some {n b1 b2 b3 sz lo hi k : Nat} (h : checkN n b1 b2 b3 sz lo hi = some k) :
 sz = k ∧ k ≤ n ∧ 2 ≤ k ∧ k ≤ 4 ∧ (lo ≤ b1 ∧ b1 ≤ hi) ∧ (3 ≤ k → 128 ≤ b2 ∧ b2 ≤ 191) ∧ (4 ≤ k → 128 ≤ b3 ∧ b3 ≤ 191) := by
 unfold checkN at h
 split at h
 ·split at h
  ·cases h
  ·simp only [Option.some.injEq] at h; omega
 ·split at h
  ·split at h
   ·cases h
   ·simp only [Option.some.injEq] at h; omega
  ·split at h
   ·split at h
    ·cases h
    ·simp only [Option.some.injEq] at h; omega
   ·cases h
theorem check_same {n n' b1 b2 b3 c1 c2 c3 sz lo hi k : Nat} (h : checkN n b1 b2 b3 sz lo hi = some k) (hn : k ≤ n') (h1 : c1 = b1) (h2 : 3 ≤ k → c2 = b2) (h3 : 4 ≤ k → c3 = b3) : checkN n' c1 c2 c3 sz lo hi = some k := by
 obtain ⟨rfl, h4, h5, h6, h7, h8, h9⟩ := check_some h
 subst h1
 unfold checkN
 split
 ·rw [if_neg (by omega)]; simp only [Option.some.injEq]; omega
 ·split
  ·have := h2 (by omega); have := h8 (by omega)
   rw [if_neg (by omega)]; simp only [Option.some.injEq]; omega
  ·split
   ·have := h2 (by omega); have := h3 (by omega); have := h8 (by omega); have := h9 (by omega)
    rw [if_neg (by omega)]; simp only [Option.some.injEq]; omega
   ·omega
theorem take_getD (l t : List UInt8) (k j : Nat) (hk : k ≤ l.length) (hj : j < k) : (l.take k ++ t).getD j 0 = l.getD j 0 := by
 rw [List.getD_eq_getElem?_getD, List.getD_eq_getElem?_getD, List.getElem?_append_left (by rw [List.length_take]; omega), List.getElem?_take, if_pos hj]
theorem byte_lt (b : UInt8) : b.toNat < 256 := b.toNat_lt
theorem head_chunk (l : List UInt8) (hne : l ≠ []) (hv : ¬ ((decodeL l).1 = 65533 ∧ (decodeL l).2 = 1)) :
 ∃ c t, l = c ++ t ∧ c.length = (decodeL l).2 ∧ Chunk c ∧ Shape c ∧ c.length ≤ 4 := by
 obtain ⟨b, r, rfl⟩ := List.exists_cons_of_ne_nil hne
 by_cases hb : b.toNat < 128
 ·refine ⟨[b], r, rfl, by rw [decodeL_ascii b r hb]; rfl, ⟨by simp, fun t => ?_⟩, ⟨b, [], rfl, by unfold cont; rw [decide_eq_false (by omega)]; rfl, by simp⟩, by simp⟩
  rw [List.singleton_append, decodeL_ascii b t hb]
  refine ⟨rfl, fun h => ?_⟩
  have := h.1
  simp only at this
  omega
 ·have e0 : ((b :: r).getD 0 0).toNat = b.toNat := rfl
  have hN := decodeL_N (b :: r)
  rw [e0] at hN
  have hbd := byte_lt b
  rcases check_decode (b :: r).length b.toNat ((b :: r).getD 1 0).toNat ((b :: r).getD 2 0).toNat ((b :: r).getD 3 0).toNat (by simp) (by omega) hbd (byte_lt _) (byte_lt _) (byte_lt _) with ⟨_, h⟩ | ⟨k, hk2, hk, hw⟩
  ·exact absurd (by rw [hN, h]; exact ⟨rfl, rfl⟩) hv
  ·obtain ⟨hsz, hkn, _, hk4, h1, h2, h3⟩ := check_some hk
   have hlen : ((b :: r).take k).length = k := by rw [List.length_take]; omega
   have hf := first_bytes b.toNat hbd
   have hacc := hf.2 (by omega) (by omega)
   refine ⟨(b :: r).take k, (b :: r).drop k, (List.take_append_drop _ _).symm, by rw [hlen, hN, hw], ⟨fun h => by rw [h] at hlen; simp at hlen; omega, fun t => ?_⟩, ?_, by omega⟩
   ·have hN' := decodeL_N ((b :: r).take k ++ t)
    have g : ∀ j, j < k → ((b :: r).take k ++ t).getD j 0 = (b :: r).getD j 0 := fun j hj => take_getD _ t k j hkn hj
    have hl' : k ≤ ((b :: r).take k ++ t).length := by rw [List.length_append, hlen]; omega
    have hc := check_same (n' := ((b :: r).take k ++ t).length) (c1 := (((b :: r).take k ++ t).getD 1 0).toNat) (c2 := (((b :: r).take k ++ t).getD 2 0).toNat) (c3 := (((b :: r).take k ++ t).getD 3 0).toNat) hk hl' (by rw [g 1 (by omega)]) (fun h => by rw [g 2 (by omega)]) (fun h => by rw [g 3 (by omega)])
    rw [g 0 (by omega), e0] at hN'
    rcases check_decode ((b :: r).take k ++ t).length b.toNat (((b :: r).take k ++ t).getD 1 0).toNat (((b :: r).take k ++ t).getD 2 0).toNat (((b :: r).take k ++ t).getD 3 0).toNat (by omega) (by omega) hbd (byte_lt _) (byte_lt _) (byte_lt _) with ⟨h, _⟩ | ⟨k', hk2', hk', hw'⟩
    ·rw [hc] at h; cases h
    ·rw [hc] at hk'
     obtain rfl := Option.some.inj hk'
     rw [hN', hw', hlen]
     exact ⟨rfl, fun h => by have := h.2; omega⟩
   ·obtain ⟨m, rfl⟩ : ∃ m, k = m + 1 := ⟨k - 1, by omega⟩
    refine ⟨b, r.take m, rfl, ?_, ?_⟩
    ·unfold cont
     rcases Nat.lt_or_ge b.toNat 192 with h | h
     ·have := hf.1 ⟨by omega, h⟩; omega
     ·rw [decide_eq_false (show ¬ b.toNat < 192 by omega), Bool.and_false]
    ·intro x hx
     obtain ⟨j, hj, rfl⟩ := List.mem_iff_getElem.1 hx
     rw [List.length_take] at hj
     have hjr : j < r.length := by omega
     have ex : (r.take m)[j] = (b :: r).getD (j + 1) 0 := by
      rw [List.getElem_take, List.getD_eq_getElem?_getD, List.getElem?_cons_succ, List.getElem?_eq_getElem hjr]; rfl
     rw [ex]
     have hj3 : j = 0 ∨ j = 1 ∨ j = 2 := by omega
     rcases hj3 with rfl | rfl | rfl
     ·exact cont_of (x := (b :: r).getD 1 0) (by omega) (by omega)
     ·exact cont_of (x := (b :: r).getD 2 0) (h2 (by omega)).1 (h2 (by omega)).2
     ·exact cont_of (x := (b :: r).getD 3 0) (h3 (by omega)).1 (h3 (by omega)).2
def Text (cs : List (List UInt8)) (l : List UInt8) : Prop := l = cs.flatten ∧ ∀ c ∈ cs, Chunk c ∧ Shape c ∧ c.length ≤ 4
theorem Text.append {cs ds : List (List UInt8)} {l m : List UInt8} (h : Text cs l) (k : Text ds m) : Text (cs ++ ds) (l ++ m) :=
 ⟨by rw [h.1, k.1, List.flatten_append], fun c hc => by rcases List.mem_append.1 hc with hc | hc; exact h.2 c hc; exact k.2 c hc⟩
theorem text_of_valid : ∀ (n : Nat) (l : List UInt8), l.length ≤ n → validD l = true → ∃ cs, Text cs l
 | 0, l, hn, _ => ⟨[], by rw [List.eq_nil_of_length_eq_zero (by omega : l.length = 0)]; rfl, by simp⟩
 | n + 1, l, hn, h => by
  by_cases hne : l = []
  ·subst hne; exact ⟨[], rfl, by simp⟩
  ·rw [validD_step l hne] at h
   by_cases hv : (decodeL l).1 = 65533 ∧ (decodeL l).2 = 1
   ·rw [if_pos hv] at h; cases h
   ·rw [if_neg hv] at h
    obtain ⟨c, t, e, hc, h1, h2, h3⟩ := head_chunk l hne hv
    have hd : l.drop (decodeL l).2 = t := by rw [← hc, e, List.drop_left]
    rw [hd] at h
    have hc0 : 0 < c.length := List.length_pos_iff.2 h1.1
    obtain ⟨cs, ht⟩ := text_of_valid n t (by rw [e, List.length_append] at hn; omega) h
    exact ⟨c :: cs, by rw [e, ht.1, List.flatten_cons], fun x hx => by rcases List.mem_cons.1 hx with rfl | hx; exact ⟨h1, h2, h3⟩; exact ht.2 x hx⟩
theorem chunk_head {c : List UInt8} (h : Chunk c) (t : List UInt8) : (c ++ t) ≠ [] ∧ (c ++ t).drop (decodeL (c ++ t)).2 = t := by
 refine ⟨fun e => h.1 (List.append_eq_nil_iff.1 e).1, ?_⟩
 rw [(h.2 t).1, List.drop_left]
theorem valid_of_text : ∀ (cs : List (List UInt8)) (l : List UInt8), Text cs l → validD l = true
 | [], l, h => by rw [h.1]; exact validD_nil
 | c :: cs, l, h => by
  have hc := (h.2 c (by simp)).1
  have hh := chunk_head hc cs.flatten
  rw [h.1, List.flatten_cons, validD_step _ hh.1, if_neg (hc.2 _).2, hh.2]
  exact valid_of_text cs _ ⟨rfl, fun x hx => h.2 x (List.mem_cons_of_mem _ hx)⟩
theorem count_from (s : ByteArray) : ∀ (cs : List (List UInt8)) (fuel pos : Nat), Text cs (s.data.toList.drop pos) → s.data.toList.length ≤ pos + fuel → pos ≤ s.data.toList.length → runeCountFrom s fuel pos = cs.length
 | [], fuel, pos, h, hf, hp => by
  have h1 := h.1
  have : s.data.toList.length ≤ pos := by simpa using h1
  rw [runeCountFrom_end s fuel pos (by have e : s.data.toList.length = s.size := Array.length_toList; omega)]; rfl
 | c :: cs, fuel, pos, h, hf, hp => by
  have e : s.data.toList.length = s.size := Array.length_toList
  have hc := (h.2 c (by simp)).1
  have hc0 : 0 < c.length := List.length_pos_iff.2 hc.1
  have hl := congrArg List.length h.1
  rw [List.length_drop, List.flatten_cons, List.length_append] at hl
  obtain ⟨f, rfl⟩ : ∃ f, fuel = f + 1 := ⟨fuel - 1, by omega⟩
  have hw : (Utf8.decode s pos).2 = c.length := by
   rw [← decodeL_drop s pos, h.1, List.flatten_cons]; exact (hc.2 _).1
  unfold runeCountFrom
  rw [if_pos (by omega), hw, count_from s cs f (pos + c.length) ⟨by rw [← List.drop_drop, h.1, List.flatten_cons, List.drop_left], fun x hx => h.2 x (List.mem_cons_of_mem _ hx)⟩ (by omega) (by omega)]
  simp only [List.length_cons]; omega
theorem count_of_text {s : ByteArray} {cs : List (List UInt8)} (h : Text cs s.data.toList) : runeCount s = cs.length := by
 have e : s.data.toList.length = s.size := Array.length_toList
 exact count_from s cs s.size 0 (by simpa using h) (by omega) (by omega)
theorem vld_text {s : ByteArray} (h : vld s = true) : ∃ cs, Text cs s.data.toList := text_of_valid _ _ (Nat.le_refl _) h
theorem text_vld {s : ByteArray} {cs : List (List UInt8)} (h : Text cs s.data.toList) : vld s = true := valid_of_text _ _ h
theorem app_toList (s t : ByteArray) : (s ++ t).data.toList = s.data.toList ++ t.data.toList := by
 rw [ByteArray.data_append, Array.toList_append]
theorem app_text {s t : ByteArray} (hs : vld s = true) (ht : vld t = true) : vld (s ++ t) = true ∧ runeCount (s ++ t) = runeCount s + runeCount t := by
 obtain ⟨cs, h⟩ := vld_text hs
 obtain ⟨ds, k⟩ := vld_text ht
 have hk : Text (cs ++ ds) (s ++ t).data.toList := by rw [app_toList]; exact h.append k
 exact ⟨text_vld hk, by rw [count_of_text hk, count_of_text h, count_of_text k, List.length_append]⟩
theorem count_starts {s : ByteArray} (hs : vld s = true) : runeCount s = (s.data.toList.filter (fun b => !cont b)).length := by
 obtain ⟨cs, h⟩ := vld_text hs
 rw [count_of_text h, h.1]
 have : ∀ cs : List (List UInt8), (∀ c ∈ cs, Shape c) → cs.length = (cs.flatten.filter (fun b => !cont b)).length := by
  intro cs
  induction cs with
  | nil => intro _; rfl
  | cons c cs ih =>
   intro hc
   obtain ⟨b, r, rfl, hb, hr⟩ := hc c (by simp)
   rw [List.flatten_cons, List.filter_append, List.length_append, ← ih (fun x hx => hc x (List.mem_cons_of_mem _ hx)), List.filter_cons, hb]
   have : r.filter (fun b => !cont b) = [] := List.filter_eq_nil_iff.2 (fun x hx => by rw [hr x hx]; simp)
   rw [this]
   simp only [List.length_cons, Bool.not_false, if_true, List.length_nil]
   omega
 exact this cs (fun c hc => (h.2 c hc).2.1)
end Go.Proofs.YtinbpjodheceoaaDoor.Sem
