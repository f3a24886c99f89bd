/- How an argument's datum is read as a value of the print's kinds (Kd): strings, whole numbers, bools, structs of up to five fields, slices of any of these; with the bounds that the reach gives. -/
import Derived.Test.YtinbpjodheceoaaDoorXgW
import Derived.SizedLaws
import Derived.ChangeSame
import Derived.Deep.Slices
import Derived.Lib.SmallJoins
namespace Go.Proofs.YtinbpjodheceoaaDoor.Open
open Go.ChangeShapes Go.WideShapes Go.Deep Go.RowKit Go.Proofs.YtinbpjodheceoaaDoorW.PrintWords
set_option linter.unusedVariables false
set_option linter.unusedSimpArgs false
structure Opens {α : Type} (P : Program) (t : TypeId) (d : Kd α) (good : α → Prop) : Prop where mk ::
 out : ∀ (H : Type) (enc : TypeId × Value → H) (w : World) (base : Nat) (spare : Nat → Bool) (held : Bool) (fuel : Nat) (cs : List Value) (x : DataW H × List MemPlace),
  DataW.trod enc P w base spare held fuel t cs = some x → (∀ n ∈ DataW.weights P t x.1, n ≤ reachBytes) → ∃ v, d.K w v cs ∧ good v
variable {P : Program} {t : TypeId}
theorem opens_string (ht : P.underlying t = some .string) : Opens P t Kd.string (fun s => s.size ≤ 140737488351232) := by
 refine ⟨fun H enc w base spare held fuel cs x h hw => ?_⟩
 obtain ⟨s, rfl, rfl, hs⟩ := DataW.trod_string ht h
 refine ⟨s, rfl, ?_⟩
 have := hw s.data.toList.length (by simp [DataW.weights])
 simp only [reachBytes] at this
 simpa using this
theorem opens_int {k : IntKind} (ht : P.underlying t = some (.int k)) : Opens P t (Kd.int k) (fun n => (Lit.int k n).wf = true) := by
 refine ⟨fun H enc w base spare held fuel cs x h hw => ?_⟩
 obtain ⟨n, rfl, rfl, hn⟩ := DataW.trod_int ht h
 exact ⟨n, rfl, hn⟩
theorem opens_bool (ht : P.underlying t = some .bool) : Opens P t Kd.bool (fun _ => True) := by
 refine ⟨fun H enc w base spare held fuel cs x h hw => ?_⟩
 obtain ⟨b, rfl, rfl⟩ := DataW.trod_bool ht h
 exact ⟨b, rfl, trivial⟩
theorem Opens.iso {α β : Type} {d : Kd α} {good : α → Prop} (h : Opens P t d good) (f : β → α) (g : α → β) (hfg : ∀ a, f (g a) = a) : Opens P t (Kd.iso d f) (fun b => good (f b)) := by
 refine ⟨fun H enc w base spare held fuel cs x hx hw => ?_⟩
 obtain ⟨v, hv, hg⟩ := h.out H enc w base spare held fuel cs x hx hw
 exact ⟨g v, show d.K w (f (g v)) cs by rw [hfg]; exact hv, by show good (f (g v)); rw [hfg]; exact hg⟩
theorem Opens.mono {α : Type} {d : Kd α} {good good' : α → Prop} (h : Opens P t d good) (hg : ∀ v, good v → good' v) : Opens P t d good' := by
 refine ⟨fun H enc w base spare held fuel cs x hx hw => ?_⟩
 obtain ⟨v, hv, h1⟩ := h.out H enc w base spare held fuel cs x hx hw
 exact ⟨v, hv, hg v h1⟩
structure OpensF {α : Type} (P : Program) (fs : List Field) (o : Nat) (d : Kd α) (good : α → Prop) : Prop where mk ::
 out : ∀ (H : Type) (enc : TypeId × Value → H) (w : World) (base : Nat) (spare : Nat → Bool) (held : Bool) (n : Nat) (cs : List Value) (xs : List (DataW H × List MemPlace)),
  cs.length = o + d.sz → xs.length = fs.length → (∀ (i : Nat) (f : Field), fs[i]? = some f → DataW.trod enc P w base spare held n f.type ((cs.drop f.offset).take (P.cellsOf f.type)) = xs[i]?) →
  (∀ n ∈ DataW.weightsEach P (fs.map (·.type)) (xs.map (·.1)), n ≤ reachBytes) → ∃ v, d.K w v (cs.drop o) ∧ good v
theorem opensF_one {α : Type} {d : Kd α} {good : α → Prop} {f : Field} {o : Nat} (h : Opens P f.type d good) (ho : f.offset = o) (hc : P.cellsOf f.type = d.sz) : OpensF P [f] o d good := by
 refine ⟨fun H enc w base spare held n cs xs hl hx hf hw => ?_⟩
 match xs, hx with
 | [y], _ =>
  have h1 := hf 0 f rfl
  rw [ho, hc, List.take_of_length_le (by rw [List.length_drop, hl]; omega)] at h1
  refine h.out H enc w base spare held n _ y h1 fun m hm => hw m ?_
  simpa [DataW.weightsEach] using hm
theorem opensF_cons {α β : Type} {d : Kd α} {d2 : Kd β} {good : α → Prop} {good2 : β → Prop} {f : Field} {fs : List Field} {o : Nat} (h : Opens P f.type d good) (ho : f.offset = o) (hc : P.cellsOf f.type = d.sz)
 (h2 : OpensF P fs (o + d.sz) d2 good2) : OpensF P (f :: fs) o (Kd.pair d d2) (fun p => good p.1 ∧ good2 p.2) := by
 refine ⟨fun H enc w base spare held n cs xs hl hx hf hw => ?_⟩
 have hsz : (Kd.pair d d2).sz = d.sz + d2.sz := rfl
 match xs, hx with
 | y :: ys, hx =>
  have h1 := hf 0 f rfl
  rw [ho, hc] at h1
  obtain ⟨v, hv, hg⟩ := h.out H enc w base spare held n _ y h1 (fun m hm => hw m (by simp only [List.map_cons, DataW.weightsEach, List.mem_append]; exact .inl hm))
  obtain ⟨v2, hv2, hg2⟩ := h2.out H enc w base spare held n cs ys (by rw [hl, hsz]; omega) (by simpa using hx) (fun i g hi => by simpa using hf (i + 1) g (by simpa using hi))
   (fun m hm => hw m (by simp only [List.map_cons, DataW.weightsEach, List.mem_append]; exact .inr hm))
  refine ⟨(v, v2), ⟨(cs.drop o).take d.sz, cs.drop (o + d.sz), ?_, hv, hv2⟩, hg, hg2⟩
  rw [← List.drop_drop, List.take_append_drop]
theorem opens_struct {α : Type} {d : Kd α} {good : α → Prop} {fs : Array Field} (ht : P.underlying t = some (.struct fs)) (hc : P.cellsOf t = d.sz) (h : OpensF P fs.toList 0 d good) : Opens P t d good := by
 refine ⟨fun H enc w base spare held fuel cs x hx hw => ?_⟩
 obtain ⟨xs, n, rfl, rfl, hl, hlen, hf⟩ := DataW.trod_struct ht hx
 have := h.out H enc w base spare held n cs xs (by rw [hl, hc]; omega) (by simpa using hlen) (fun i f hi => hf i f (by simpa using hi)) (fun m hm => hw m (by simp only [DataW.weights, ht]; exact hm))
 simpa using this
theorem weights_all {H : Type} {e : TypeId} : ∀ {ds : List (DataW H)} {d : DataW H}, d ∈ ds → ∀ n ∈ d.weights P e, n ∈ DataW.weightsAll P e ds
 | [], _, h, _, _ => by cases h
 | d0 :: ds, d, h, n, hn => by
  simp only [DataW.weightsAll, List.mem_append]
  rcases List.mem_cons.1 h with rfl | h
  ·exact .inl hn
  ·exact .inr (weights_all h n hn)
theorem choose_list {α : Type} (Q : Nat → α → Prop) : ∀ (n : Nat), (∀ i, i < n → ∃ a, Q i a) → ∃ l : List α, l.length = n ∧ ∀ i a, l[i]? = some a → Q i a
 | 0, _ => ⟨[], rfl, fun i a h => by simp at h⟩
 | n + 1, h => by
  obtain ⟨l, hl, hq⟩ := choose_list Q n (fun i hi => h i (by omega))
  obtain ⟨a, ha⟩ := h n (by omega)
  refine ⟨l ++ [a], by simp [hl], fun i b hb => ?_⟩
  by_cases hi : i < n
  ·rw [List.getElem?_append_left (by omega)] at hb
   exact hq i b hb
  ·have hin : i = n := by
    have := (List.getElem?_eq_some_iff.1 hb).1
    simp [hl] at this
    omega
   subst hin
   rw [List.getElem?_append_right (by omega)] at hb
   simp [hl] at hb
   subst hb
   exact ha
theorem opens_slice {α : Type} {d : Kd α} {good : α → Prop} {e : TypeId} {b : Nat} (en : Nat) (ht : P.underlying t = some (.slice e)) (hc : P.cellsOf e = d.sz) (hb : P.bytesOf e = b) (h : Opens P e d good) :
 Opens P t (Kd.slice en d) (fun xs => xs.length * b ≤ 140737488351232 ∧ xs.length ≤ 9223372036854775807 ∧ ∀ x ∈ xs, good x) := by
 refine ⟨fun H enc w base spare held fuel cs x hx hw => ?_⟩
 rcases DataW.trod_slice ht hx with ⟨rfl, rfl⟩ | ⟨a, len, cap, elems, rest, n, rfl, rfl, rfl, hba, hl, hm, hlen, hel, hsp, hns⟩
 ·exact ⟨[], ⟨none, 0, rfl, Nat.le_refl _, by simp, by simp, fun h => absurd h (by simp)⟩, by simp, by simp, by simp⟩
 ·have hm' : cap ≤ 9223372036854775807 := by simpa [maxLen] using hm
  have key : ∀ i, i < len → ∃ v, (∃ cs', cs'.length = d.sz ∧ d.K w v cs' ∧ ∀ j u, cs'[j]? = some u → w.cell? (a.add (i * d.sz + j)) = some u) ∧ good v := by
   intro i hi
   have h1 := hel i hi
   have h2 : elems[i]? = some (elems[i]'(by omega)) := List.getElem?_eq_getElem (by omega)
   rw [h2, Option.bind_eq_some_iff] at h1
   obtain ⟨cs', hcs, htr⟩ := h1
   obtain ⟨_, hcl, hat⟩ := World.cells?_some hcs
   obtain ⟨v, hv, hg⟩ := h.out H enc w base spare held n cs' _ htr (fun m hm => hw m (by
    simp only [DataW.weights, ht, List.mem_cons, List.mem_append]
    exact .inr (.inl (weights_all (List.mem_map.2 ⟨_, List.getElem_mem (by omega), rfl⟩) m hm))))
   refine ⟨v, ⟨cs', by rw [hcl, hc], hv, fun j u hu => ?_⟩, hg⟩
   have hj : j < cs'.length := (List.getElem?_eq_some_iff.1 hu).1
   have := hat j (by omega)
   rw [← Go.Deep.add_add, ← hc, this, hu]
  obtain ⟨l, hll, hq⟩ := choose_list _ len key
  have hC : ReadsRow (d.K w) d.sz w (some a) len l := by
   unfold ReadsRow
   refine ⟨hll, by omega, fun _ => ⟨a, rfl, fun j p hj => ?_⟩⟩
   obtain ⟨⟨cs', h1, h2, h3⟩, _⟩ := hq j p hj
   exact ⟨cs', h1, h2, h3⟩
  have hK : (Kd.slice en d).K w l [.slice (some a) len cap] := by
   refine ⟨some a, cap, by rw [hll], by omega, ?_⟩
   rw [hll]
   exact hC
  refine ⟨l, hK, ?_, by omega, fun x hx => ?_⟩
  ·have := hw ((elems.map (·.1)).length + (rest.map (·.1)).length |> (· * P.bytesOf e)) (by simp [DataW.weights, ht])
   simp only [reachBytes, List.length_map, hb] at this
   have h3 : len * b ≤ (elems.length + rest.length) * b := Nat.mul_le_mul_right _ (by omega)
   rw [hll]
   omega
  ·obtain ⟨i, hi, rfl⟩ := List.mem_iff_getElem.1 hx
   exact (hq i _ (List.getElem?_eq_getElem hi)).2
theorem Opens.arg {α : Type} {d : Kd α} {good : α → Prop} (h : Opens P t d good) {H : Type} {enc : TypeId × Value → H} {W : World} {base : Nat} {spare : Nat → Bool} {held : Bool} {v : Value} {x : DataW H} {ps : List MemPlace} {ts : List TypeId} {ds : List (DataW H)} {j : Nat}
 (hsz : (DataW.weightsEach P ts ds).all (· ≤ reachBytes) = true) (ht : ts[j]? = some t) (hd : ds[j]? = some x) (hr : DataW.Trod enc P W base spare held t v x ps) : ∃ y, d.K W y v.cells.toList ∧ good y := by
 obtain ⟨fuel, hf⟩ := hr
 refine h.out H enc W base spare held fuel _ _ hf fun n hn => ?_
 have := List.all_eq_true.1 hsz n (DataW.weights_mem_each ht hd n hn)
 simpa using this
end Go.Proofs.YtinbpjodheceoaaDoor.Open
