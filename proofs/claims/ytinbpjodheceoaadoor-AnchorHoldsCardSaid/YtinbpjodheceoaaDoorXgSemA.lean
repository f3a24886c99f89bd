/- What the printed functions of package attrs come to (door seat): which keys, values, changes and attributes may be; when two are the same. -/
import Derived.Test.YtinbpjodheceoaaDoorXgSp5
import Derived.Test.YtinbpjodheceoaaDoorXgSp10
namespace Go.Proofs.YtinbpjodheceoaaDoor.Sem
open Go.RowKit Go.Proofs.YtinbpjodheceoaaDoorW.PrintWords Go.Proofs.YtinbpjodheceoaaDoorW.PrintLast Go.Proofs.YtinbpjodheceoaaDoor.Sp
set_option linter.unusedVariables false
set_option linter.unusedSimpArgs false
theorem bl (s : ByteArray) : s.toList = s.data.toList := Lib.toList_data s
theorem toList_len (s : ByteArray) : s.toList.length = s.size := by rw [bl]; exact Array.length_toList
theorem ba_ext {s t : ByteArray} : s.toList = t.toList ↔ s = t := by
 rw [bl, bl]
 constructor
 ·intro h
  cases s with | mk a => cases t with | mk b => cases a with | mk x => cases b with | mk y => simpa using h
 ·rintro rfl; rfl
theorem bt_nat (s : ByteArray) (i : Nat) (h : i < s.size) : bt s (i : Int) = ((s.toList[i]'(by rw [toList_len]; exact h)).toNat : Int) := by
 have h2 : (i : Int).toNat < s.size := by simpa using h
 rw [← bt_at s i h2]
 simp only [bl, Int.toNat_natCast]
 rfl
theorem drop_step {α : Type} (l : List α) (i : Nat) (h : i < l.length) : l.drop i = l[i] :: l.drop (i + 1) := List.drop_eq_getElem_cons h
theorem wrap_nat (i : Nat) (h : (i : Int) < 9223372036854775807) : wrap64 ((i : Int) + 1) = ((i + 1 : Nat) : Int) := by unfold wrap64; omega
theorem wrap_pred (i : Nat) (h : 0 < i) (h2 : (i : Int) ≤ 9223372036854775807) : wrap64 ((i : Int) - 1) = ((i - 1 : Nat) : Int) := by unfold wrap64; omega
def kb (b : UInt8) : Bool := (65 ≤ b && b ≤ 90) || (97 ≤ b && b ≤ 122) || (48 ≤ b && b ≤ 57) || b == 45 || b == 95
def vb (b : UInt8) : Bool := 32 ≤ b && b ≤ 126
theorem all_bytes {p : UInt8 → Bool} (h : (List.range 256).all (fun n => p (UInt8.ofNat n)) = true) (b : UInt8) : p b = true := by
 have := List.all_eq_true.1 h b.toNat (List.mem_range.2 b.toNat_lt)
 simpa using this
theorem change1 (b : UInt8) : attrs_Change_1.f (b.toNat : Int) = some (kb b) := by
 have h : (attrs_Change_1.f (b.toNat : Int) == some (kb b)) = true := all_bytes (p := fun b => attrs_Change_1.f (b.toNat : Int) == some (kb b)) (by decide +kernel) b
 simpa using h
theorem change2 (b : UInt8) : attrs_Change_2.f (b.toNat : Int) = some (vb b) := by
 have h : (attrs_Change_2.f (b.toNat : Int) == some (vb b)) = true := all_bytes (p := fun b => attrs_Change_2.f (b.toNat : Int) == some (vb b)) (by decide +kernel) b
 simpa using h
theorem made1 (s : ByteArray) (m : Int) (hn : s.size ≤ 140737488351232) : ∀ (d i : Nat), i + d = s.size → Ev (fun k => attrs_made__attrs_Change_1.l0 k s m (s.size : Int) (i : Int)) ((s.toList.drop i).all kb && decide ((s.size : Int) ≤ m))
 | 0, i, hd => by
  refine Ev.step (f := fun _ => some (decide ((s.size : Int) ≤ m))) (fun k => ?_) ?_
  ·simp only [attrs_made__attrs_Change_1.l0]; rw [if_neg (by omega)]
  ·rw [List.drop_of_length_le (by rw [toList_len]; omega)]; simpa using Ev.now _
 | d + 1, i, hd => by
  have hi : i < s.size := by omega
  have ih := made1 s m hn d (i + 1) (by omega)
  rw [drop_step _ i (by rw [toList_len]; exact hi)]
  have e : ∀ k, attrs_made__attrs_Change_1.l0 (k + 1) s m (s.size : Int) (i : Int) = if kb (s.toList[i]'(by rw [toList_len]; exact hi)) = true then attrs_made__attrs_Change_1.l0 k s m (s.size : Int) ((i + 1 : Nat) : Int) else some false := by
   intro k
   simp only [attrs_made__attrs_Change_1.l0]
   rw [if_pos (by omega), if_pos (by omega), if_pos (by omega), bt_nat s i hi, change1, Option.bind_some, wrap_nat i (by omega)]
  cases hk : kb (s.toList[i]'(by rw [toList_len]; exact hi)) with
  | true => refine Ev.step (fun k => (e k).trans (by rw [hk, if_pos rfl])) ?_; rw [List.all_cons, hk, Bool.true_and]; exact ih
  | false => refine Ev.step (f := fun _ => some false) (fun k => (e k).trans (by rw [hk]; rfl)) ?_; rw [List.all_cons, hk, Bool.false_and, Bool.false_and]; exact Ev.now false
theorem made2 (s : ByteArray) (m : Int) (hn : s.size ≤ 140737488351232) : ∀ (d i : Nat), i + d = s.size → Ev (fun k => attrs_made__attrs_Change_2.l0 k s m (s.size : Int) (i : Int)) ((s.toList.drop i).all vb && decide ((s.size : Int) ≤ m))
 | 0, i, hd => by
  refine Ev.step (f := fun _ => some (decide ((s.size : Int) ≤ m))) (fun k => ?_) ?_
  ·simp only [attrs_made__attrs_Change_2.l0]; rw [if_neg (by omega)]
  ·rw [List.drop_of_length_le (by rw [toList_len]; omega)]; simpa using Ev.now _
 | d + 1, i, hd => by
  have hi : i < s.size := by omega
  have ih := made2 s m hn d (i + 1) (by omega)
  rw [drop_step _ i (by rw [toList_len]; exact hi)]
  have e : ∀ k, attrs_made__attrs_Change_2.l0 (k + 1) s m (s.size : Int) (i : Int) = if vb (s.toList[i]'(by rw [toList_len]; exact hi)) = true then attrs_made__attrs_Change_2.l0 k s m (s.size : Int) ((i + 1 : Nat) : Int) else some false := by
   intro k
   simp only [attrs_made__attrs_Change_2.l0]
   rw [if_pos (by omega), if_pos (by omega), if_pos (by omega), bt_nat s i hi, change2, Option.bind_some, wrap_nat i (by omega)]
  cases hk : vb (s.toList[i]'(by rw [toList_len]; exact hi)) with
  | true => refine Ev.step (fun k => (e k).trans (by rw [hk, if_pos rfl])) ?_; rw [List.all_cons, hk, Bool.true_and]; exact ih
  | false => refine Ev.step (f := fun _ => some false) (fun k => (e k).trans (by rw [hk]; rfl)) ?_; rw [List.all_cons, hk, Bool.false_and, Bool.false_and]; exact Ev.now false
def keyOk (s : ByteArray) : Bool := s.toList.all kb && decide ((s.size : Int) ≤ 32) && !s.toList.isEmpty
def valOk (s : ByteArray) : Bool := s.toList.all vb && decide ((s.size : Int) ≤ 64)
theorem made_key (s : ByteArray) (hn : s.size ≤ 140737488351232) : Ev (fun k => attrs_made__attrs_Change_1.f k s 32) (s.toList.all kb && decide ((s.size : Int) ≤ 32)) := by
 have := made1 s 32 hn s.size 0 (by omega)
 simpa [attrs_made__attrs_Change_1.f] using this
theorem made_val (s : ByteArray) (hn : s.size ≤ 140737488351232) : Ev (fun k => attrs_made__attrs_Change_2.f k s 64) (valOk s) := by
 have := made2 s 64 hn s.size 0 (by omega)
 unfold valOk
 simpa [attrs_made__attrs_Change_2.f] using this
def less (a b : S90) : Bool := Op.bytesLess a.f0.toList b.f0.toList
def okl : Option S90 → List S90 → Bool
 | _, [] => true
 | p, a :: r => keyOk a.f0 && valOk a.f1 && (match p with | none => true | some q => less q a) && okl (some a) r
def changeOk (l : List S90) : Bool := decide (l.length ≤ 8) && okl none l
def Small (l : List S90) : Prop := l.length ≤ 9223372036854775807 ∧ ∀ x ∈ l, x.f0.size ≤ 140737488351232 ∧ x.f1.size ≤ 140737488351232
theorem rd_nat (l : List S90) (i : Nat) (h : i < l.length) : rd_T90 l (i : Int) = l[i] := by
 unfold rd_T90
 simp [List.getD_eq_getElem?_getD, List.getElem?_eq_getElem h]
def prevOf (l : List S90) (i : Nat) : Option S90 := if i = 0 then none else l[i - 1]?
theorem prev_succ (l : List S90) (i : Nat) (h : i < l.length) : prevOf l (i + 1) = some l[i] := by
 unfold prevOf
 simp [List.getElem?_eq_getElem h]
theorem j2_ev (l : List S90) (n i : Int) (b : Bool) {r : Int} (h1 : b = true → r = 20) (h2 : b = false → Ev (fun k => attrs_Change.l0 k l l n (wrap64 (i + 1))) r) : Ev (fun k => attrs_Change.j2 k l l n i b) r := by
 cases b with
 | true => rw [h1 rfl]; exact Ev.step (f := fun _ => some 20) (fun k => by simp only [attrs_Change.j2]; rfl) (Ev.now _)
 | false => exact Ev.step (f := fun k => attrs_Change.l0 k l l n (wrap64 (i + 1))) (fun k => by simp only [attrs_Change.j2]; rfl) (h2 rfl)
theorem change_loop (l : List S90) (hs : Small l) : ∀ (d i : Nat), i + d = l.length →
 Ev (fun k => attrs_Change.l0 k l l (l.length : Int) (i : Int)) (if (decide (i = l.length) || decide (l.length ≤ 8)) && okl (prevOf l i) (l.drop i) then 0 else 20)
 | 0, i, hd => by
  refine Ev.step (f := fun _ => some 0) (fun k => ?_) ?_
  ·simp only [attrs_Change.l0]; rw [if_neg (by omega)]
  ·rw [List.drop_of_length_le (by omega)]
   have : i = l.length := by omega
   simpa [okl, this] using Ev.now (0 : Int)
 | d + 1, i, hd => by
  have hi : i < l.length := by omega
  have ih := change_loop l hs d (i + 1) (by omega)
  have hlen := hs.1
  obtain ⟨hs0, hs1⟩ := hs.2 l[i] (List.getElem_mem hi)
  rw [prev_succ l i hi] at ih
  rw [drop_step l i hi]
  have hne : ¬ i = l.length := by omega
  have hj1 : ∀ x5 : Bool, x5 = keyOk l[i].f0 → Ev (fun k => attrs_Change.j1 k l (i : Int) x5 l (l.length : Int) (i : Int) l[i].f0 l[i].f1) (if (decide (i = l.length) || decide (l.length ≤ 8)) && okl (prevOf l i) (l[i] :: l.drop (i + 1)) then 0 else 20) := by
   intro x5 hx
   refine Ev.step (f := fun k => (attrs_made__attrs_Change_2.f k l[i].f1 64).bind fun t111 => if (i : Int) ≥ 8 then attrs_Change.j2 k l l (l.length : Int) (i : Int) true else if x5 = true then if t111 = true then if 0 < i then attrs_Change.j2 k l l (l.length : Int) (i : Int) (!(less (l.getD (i - 1) l[i]) l[i])) else attrs_Change.j2 k l l (l.length : Int) (i : Int) false else attrs_Change.j2 k l l (l.length : Int) (i : Int) true else attrs_Change.j2 k l l (l.length : Int) (i : Int) true) (fun k => ?_) ?_
   ·simp only [attrs_Change.j1]
    by_cases h0 : 0 < i
    ·have h1 : i - 1 < l.length := by omega
     rw [wrap_pred i h0 (by omega), rd_nat l (i - 1) h1]
     have hg : l.getD (i - 1) l[i] = l[i - 1] := by rw [List.getD_eq_getElem?_getD, List.getElem?_eq_getElem h1]; rfl
     simp only [hg, if_pos h0, show ((i : Int) > 0) = True from by simp; omega, if_true, show (0 ≤ ((i - 1 : Nat) : Int)) = True from by simp, show (((i - 1 : Nat) : Int) < (l.length : Int)) = True from by simp; omega, less]
    ·have : i = 0 := by omega
     subst this
     simp
   ·refine Ev.bind (made_val _ hs1) ?_
    have bad : ∀ {r : Int}, r = 20 → Ev (fun k => attrs_Change.j2 k l l (l.length : Int) (i : Int) true) r := fun h => j2_ev l _ _ true (fun _ => h) (fun h => by cases h)
    by_cases h8 : (i : Int) ≥ 8
    ·simp only [if_pos h8]
     have : ¬ l.length ≤ 8 := by omega
     exact bad (by simp [hne, this])
    ·simp only [if_neg h8]
     have hc : (decide (i = l.length) || decide (l.length ≤ 8)) = (decide (i + 1 = l.length) || decide (l.length ≤ 8)) := by
      by_cases h9 : l.length ≤ 8
      ·simp [h9]
      ·have : ¬ i + 1 = l.length := by omega
       simp [hne, this, h9]
     rw [hc]
     simp only [okl]
     subst hx
     by_cases hkk : keyOk l[i].f0 = true
     ·by_cases hvv : valOk l[i].f1 = true
      ·simp only [hkk, hvv, if_true, Bool.true_and]
       by_cases h0 : 0 < i
       ·have h1 : i - 1 < l.length := by omega
        have hp : prevOf l i = some l[i - 1] := by unfold prevOf; rw [if_neg (by omega), List.getElem?_eq_getElem h1]
        have hg : l.getD (i - 1) l[i] = l[i - 1] := by rw [List.getD_eq_getElem?_getD, List.getElem?_eq_getElem h1]; rfl
        rw [hp]
        simp only [if_pos h0, hg]
        refine j2_ev l _ _ _ (fun h => ?_) (fun h => ?_)
        ·have : less l[i - 1] l[i] = false := by simpa using h
         simp [this]
        ·have : less l[i - 1] l[i] = true := by simpa using h
         rw [wrap_nat i (by omega)]
         simpa [this] using ih
       ·have hp : prevOf l i = none := by unfold prevOf; rw [if_pos (by omega)]
        rw [hp]
        simp only [if_neg h0]
        refine j2_ev l _ _ _ (fun h => by cases h) (fun _ => ?_)
        rw [wrap_nat i (by omega)]
        simpa using ih
      ·have hvf : valOk l[i].f1 = false := by simpa using hvv
       simp only [hkk, hvf, if_true]
       exact bad (by simp)
     ·have hkf : keyOk l[i].f0 = false := by simpa using hkk
      simp only [hkf]
      exact bad (by simp)
  by_cases he : l[i].f0.toList = []
  ·refine Ev.step (f := fun k => attrs_Change.j1 k l (i : Int) false l (l.length : Int) (i : Int) l[i].f0 l[i].f1) (fun k => ?_) (hj1 false (by unfold keyOk; simp [he]))
   simp only [attrs_Change.l0]
   rw [if_pos (by omega), if_pos (by omega), if_pos (by omega), rd_nat l i hi, if_pos he]
  ·refine Ev.step (f := fun k => (attrs_made__attrs_Change_1.f k l[i].f0 32).bind fun t => attrs_Change.j1 k l (i : Int) t l (l.length : Int) (i : Int) l[i].f0 l[i].f1) (fun k => ?_) (Ev.bind (made_key _ hs0) (hj1 _ ?_))
   ·simp only [attrs_Change.l0]
    rw [if_pos (by omega), if_pos (by omega), if_pos (by omega), rd_nat l i hi, if_neg he]
   ·unfold keyOk
    have : l[i].f0.toList.isEmpty = false := by simpa using he
    simp [this]
theorem change_ev (l : List S90) (hs : Small l) : Ev (fun k => attrs_Change.f k l) (if changeOk l then 0 else 20) := by
 have := change_loop l hs l.length 0 (by omega)
 have h2 : (decide (0 = l.length) || decide (l.length ≤ 8)) = decide (l.length ≤ 8) := by
  by_cases h : l.length ≤ 8
  ·simp [h]
  ·have : ¬ 0 = l.length := by omega
   simp [h, this]
 rw [h2] at this
 simpa [attrs_Change.f, changeOk, prevOf] using this
def rightOk (l : List S90) : Bool := l.all (fun a => !a.f1.toList.isEmpty) && changeOk l
theorem index_loop (l : List S90) (hs : Small l) : ∀ (d i : Nat), i + d = l.length →
 ∃ r : Int, Ev (fun k => slices_IndexFunc__attrs_Right_1.l0 k l (l.length : Int) (i : Int)) r ∧ (decide (r ≥ 0) = !(l.drop i).all (fun a => !a.f1.toList.isEmpty))
 | 0, i, hd => by
  refine ⟨-1, Ev.step (f := fun _ => some (-1)) (fun k => ?_) (Ev.now _), ?_⟩
  ·simp only [slices_IndexFunc__attrs_Right_1.l0]; rw [if_neg (by omega)]
  ·rw [List.drop_of_length_le (by omega)]; simp
 | d + 1, i, hd => by
  have hi : i < l.length := by omega
  obtain ⟨r, hr, hq⟩ := index_loop l hs d (i + 1) (by omega)
  have hlen := hs.1
  rw [drop_step l i hi, List.all_cons]
  have e : ∀ k, slices_IndexFunc__attrs_Right_1.l0 (k + 1) l (l.length : Int) (i : Int) = if l[i].f1.toList.isEmpty = true then some (i : Int) else slices_IndexFunc__attrs_Right_1.l0 k l (l.length : Int) ((i + 1 : Nat) : Int) := by
   intro k
   simp only [slices_IndexFunc__attrs_Right_1.l0]
   rw [if_pos (by omega), if_pos (by omega), if_pos (by omega), rd_nat l i hi, wrap_nat i (by omega)]
   simp only [attrs_Right_1.f, Option.bind_some, List.isEmpty_iff, beq_iff_eq]
  cases h : l[i].f1.toList.isEmpty with
  | true => exact ⟨(i : Int), Ev.step (f := fun _ => some (i : Int)) (fun k => (e k).trans (by rw [h]; rfl)) (Ev.now _), by simp⟩
  | false => exact ⟨r, Ev.step (fun k => (e k).trans (by rw [h]; rfl)) hr, by simpa using hq⟩
theorem right_ev (l : List S90) (hs : Small l) : Ev (fun k => attrs_Right.f k l) (if rightOk l then 0 else 20) := by
 obtain ⟨r, hr, hq⟩ := index_loop l hs l.length 0 (by omega)
 have hc : Ev (fun k => slices_ContainsFunc__attrs_Right_1.f k l) (decide (r ≥ 0)) := by
  unfold slices_ContainsFunc__attrs_Right_1.f slices_IndexFunc__attrs_Right_1.f
  exact Ev.bind (f := fun _ t => some (decide (t ≥ 0))) hr (Ev.now _)
 unfold attrs_Right.f
 refine Ev.bind hc ?_
 simp only [hq, List.drop_zero]
 unfold rightOk
 cases h : l.all (fun a => !a.f1.toList.isEmpty) with
 | false => simpa using Ev.now (20 : Int)
 | true =>
  simp only [Bool.not_true, Bool.true_and]
  refine Ev.congr (f := fun k => (attrs_Change.f k l).bind fun t => some t) (fun k => by simp) ?_
  exact Ev.bind (f := fun _ t => some t) (change_ev l hs) (Ev.now _)
theorem attr_eq (a b : S90) : a = b ↔ (a.f0.toList = b.f0.toList ∧ a.f1.toList = b.f1.toList) := by
 rw [ba_ext, ba_ext]
 constructor
 ·intro h; rw [h]; exact ⟨rfl, rfl⟩
 ·rintro ⟨h1, h2⟩
  cases a with | mk x y => cases b with | mk c d => simp_all
instance attrDec : DecidableEq S90 := fun a b => decidable_of_iff _ (attr_eq a b).symm
theorem same_loop (l m : List S90) (hl : l.length = m.length) (hs : l.length ≤ 9223372036854775807) : ∀ (d i : Nat), i + d = l.length →
 Ev (fun k => slices_Equal.l0 k l m (l.length : Int) (i : Int)) (decide (l.drop i = m.drop i))
 | 0, i, hd => by
  refine Ev.step (f := fun _ => some true) (fun k => ?_) ?_
  ·simp only [slices_Equal.l0]; rw [if_neg (by omega)]
  ·rw [List.drop_of_length_le (by omega), List.drop_of_length_le (by omega)]; simpa using Ev.now true
 | d + 1, i, hd => by
  have hi : i < l.length := by omega
  have hj : i < m.length := by omega
  have ih := same_loop l m hl hs d (i + 1) (by omega)
  rw [drop_step l i hi, drop_step m i hj]
  have hab := attr_eq l[i] m[i]
  have e : ∀ k, slices_Equal.l0 (k + 1) l m (l.length : Int) (i : Int) = if l[i].f0.toList = m[i].f0.toList ∧ l[i].f1.toList = m[i].f1.toList then slices_Equal.l0 k l m (l.length : Int) ((i + 1 : Nat) : Int) else some false := by
   intro k
   simp only [slices_Equal.l0]
   rw [if_pos (by omega), if_pos (by omega), if_pos (by omega), if_pos (by omega), rd_nat l i hi, rd_nat m i hj, wrap_nat i (by omega)]
   by_cases h1 : l[i].f0.toList = m[i].f0.toList <;> by_cases h2 : l[i].f1.toList = m[i].f1.toList <;> simp [h1, h2]
  by_cases h : l[i] = m[i]
  ·refine Ev.step (fun k => (e k).trans (if_pos (hab.1 h))) ?_
   have : (l[i] :: l.drop (i + 1) = m[i] :: m.drop (i + 1)) ↔ (l.drop (i + 1) = m.drop (i + 1)) := by rw [h]; simp only [List.cons.injEq, true_and]
   rw [decide_eq_decide.2 this]; exact ih
  ·refine Ev.step (f := fun _ => some false) (fun k => (e k).trans (if_neg (fun h2 => h (hab.2 h2)))) ?_
   have : ¬ (l[i] :: l.drop (i + 1) = m[i] :: m.drop (i + 1)) := by simp only [List.cons.injEq, not_and]; exact fun h2 => absurd h2 h
   rw [decide_eq_false this]; exact Ev.now false
theorem same_ev (l m : List S90) (hs : l.length ≤ 9223372036854775807) : Ev (fun k => attrs_Same.f k l m) (decide (l = m)) := by
 have h : Ev (fun k => slices_Equal.f k l m) (decide (l = m)) := by
  unfold slices_Equal.f
  by_cases hl : l.length = m.length
  ·have := same_loop l m hl hs l.length 0 (by omega)
   simp only [show ((l.length : Int) = (m.length : Int)) = True from by simp [hl], if_true]
   simpa using this
  ·have h2 : ¬ l = m := fun h => hl (by rw [h])
   simp only [show ((l.length : Int) = (m.length : Int)) = False from by simp; omega, if_false]
   rw [decide_eq_false h2]; exact Ev.now false
 unfold attrs_Same.f
 exact Ev.bind (f := fun _ t => some t) h (Ev.now _)
end Go.Proofs.YtinbpjodheceoaaDoor.Sem
