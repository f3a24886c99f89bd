/- Written by this session's programs (sprint.py, prune.py). -/
import Derived.Test.YtinbpjodheceoaaDoorXgSp0
import Derived.Test.YtinbpjodheceoaaDoorXgSp27
import Derived.Test.YtinbpjodheceoaaDoorXgSp32
import Derived.Test.YtinbpjodheceoaaDoorXgSp33
namespace Go.Proofs.YtinbpjodheceoaaDoor.Sp
open Go.RowKit Go.Proofs.YtinbpjodheceoaaDoorW.PrintWords Go.Proofs.YtinbpjodheceoaaDoorW.PrintLast Go.Proofs.YtinbpjodheceoaaDoorW.PrintMore
attribute [local go_sem] max2_int min2_int max_two min_two max_three min_three max_four min_four   -- for this text's walks alone
set_option linter.unusedVariables false
set_option linter.unusedSimpArgs false
attribute [local go_sem] own_leq own_gtr own_geq   -- for this text's walks alone
def rnLast (gs : List S73) : S73 := gs.getD (gs.length - 1) z73
def rnNew (l : List S43) (t : ByteArray) (a : List S90) : Option (List S43) := if a.length < 4398046511104 then (if l.length < 2513169434916 then some (l ++ [⟨2, 0, t, a⟩]) else none) else none
def rnJoin (l : List S43) (t : ByteArray) : Option (List S43) := if (rd_T43 l (wrap64 ((l.length : Int) - 1))).f2.size + t.size ≤ 9223372036854775807 then some (l.set (l.length - 1) ⟨(rd_T43 l (wrap64 ((l.length : Int) - 1))).f0, (rd_T43 l (wrap64 ((l.length : Int) - 1))).f1, (rd_T43 l (wrap64 ((l.length : Int) - 1))).f2 ++ t, (rd_T43 l (wrap64 ((l.length : Int) - 1))).f3⟩) else none
def rnIns (k : Nat) (l : List S43) (t : ByteArray) (a : List S90) : Option (List S43) :=
 if 0 < l.length then (blotterref02_Same.f k (rd_T43 l (wrap64 ((l.length : Int) - 1))).f3 a).bind fun s => if s = true then rnJoin l t else rnNew l t a else rnNew l t a
def rnKeepNew (gs : List S73) (ks : List S43) (o : S43) : Option (List S73 × List S43) := if o.f3.length < 4398046511104 then (if ks.length < 2513169434916 then (if gs.length < 4398046511104 then some (gs ++ [⟨[], 0⟩], ks ++ [⟨1, o.f1, ⟨#[]⟩, o.f3⟩]) else none) else none) else none
def rnKeepJoin (gs : List S73) (ks : List S43) (o : S43) : List S73 × List S43 := (gs, ks.set (ks.length - 1) ⟨(rd_T43 ks (wrap64 ((ks.length : Int) - 1))).f0, wrap64 ((rd_T43 ks (wrap64 ((ks.length : Int) - 1))).f1 + o.f1), (rd_T43 ks (wrap64 ((ks.length : Int) - 1))).f2, (rd_T43 ks (wrap64 ((ks.length : Int) - 1))).f3⟩)
def rnKeep (k : Nat) (gs : List S73) (ks : List S43) (o : S43) : Option (List S73 × List S43) :=
 if 0 < ks.length then (if (rnLast gs).f0.length = 0 then (if (rnLast gs).f1 = 0 then (blotterref02_Same.f k (rd_T43 ks (wrap64 ((ks.length : Int) - 1))).f3 o.f3).bind fun s => if s = true then some (rnKeepJoin gs ks o) else rnKeepNew gs ks o else rnKeepNew gs ks o) else rnKeepNew gs ks o) else rnKeepNew gs ks o
def rnStep (k : Nat) (gs : List S73) (ks : List S43) (o : S43) : Option (List S73 × List S43) :=
 if o.f0 = 2 then (rnIns k (rnLast gs).f0 o.f2 o.f3).bind fun l => some (gs.set (gs.length - 1) ⟨l, (rnLast gs).f1⟩, ks)
 else if o.f0 = 3 then some (gs.set (gs.length - 1) ⟨(rnLast gs).f0, wrap64 ((rnLast gs).f1 + o.f1)⟩, ks)
 else rnKeep k gs ks o
def rnGo (k : Nat) : List S43 → List S73 → List S43 → Option (List S73 × List S43)
 | [], gs, ks => some (gs, ks)
 | o :: r, gs, ks => (rnStep k gs ks o).bind fun s => rnGo k r s.1 s.2
def rnDel (n : Int) : List S43 := if n > 0 then [⟨3, n, ⟨#[]⟩, []⟩] else []
def rnOutStep (gs : List S73) (ks : List S43) (i : Nat) (out : List S43) : Option (List S43) :=
 if out.length + (gs.getD i z73).f0.length + 3 < 2513169434916 then (if i < ks.length + 1 then some (out ++ (if 0 < i then [rd_T43 ks ((i : Int) - 1)] else []) ++ (gs.getD i z73).f0 ++ rnDel (gs.getD i z73).f1) else none) else none
def rnOut (gs : List S73) (ks : List S43) : Nat → Nat → List S43 → Option (List S43)
 | 0, _, out => some out
 | d + 1, i, out => (rnOutStep gs ks i out).bind fun o => rnOut gs ks d (i + 1) o
def rnTrim (out : List S43) : List S43 := if 0 < out.length then (if (rd_T43 out (wrap64 ((out.length : Int) - 1))).f0 = 1 then (if (rd_T43 out (wrap64 ((out.length : Int) - 1))).f3.length = 0 then out.take (out.length - 1) else out) else out) else out
def blotterref03_Normal.f (k : Nat) (a0 : Int) (l0 : List S43) : Option (Int × List S43 × Int) :=
 (blotterref03_Right.f k a0 l0).bind fun e => if e = 0 then (rnGo k l0 [⟨[], 0⟩] []).bind fun s => (rnOut s.1 s.2 s.1.length 0 []).bind fun out => some (a0, rnTrim out, 0) else some (0, [], e)
theorem rnIns.mono (l t a k) : LeO (rnIns k l t a) (rnIns (k + 1) l t a) := by
 unfold rnIns
 have m0 := @blotterref02_Same.mono; exact lo
theorem rnKeep.mono (gs ks o k) : LeO (rnKeep k gs ks o) (rnKeep (k + 1) gs ks o) := by
 unfold rnKeep
 have m0 := @blotterref02_Same.mono; exact lo
theorem rnStep.mono (gs ks o k) : LeO (rnStep k gs ks o) (rnStep (k + 1) gs ks o) := by
 unfold rnStep
 have m0 := @rnIns.mono; have m1 := @rnKeep.mono; exact lo
theorem rnGo.mono (k : Nat) : ∀ r gs ks, LeO (rnGo k r gs ks) (rnGo (k + 1) r gs ks)
 | [], gs, ks => LeO.refl _
 | o :: r, gs, ks => LeO.bind (rnStep.mono _ _ _ _) (fun s => rnGo.mono k r s.1 s.2)
theorem blotterref03_Normal.mono : ∀ a0 a1 k, LeO (blotterref03_Normal.f k a0 a1) (blotterref03_Normal.f (k + 1) a0 a1) := by
 intro a0 a1 k
 unfold blotterref03_Normal.f
 have m0 := @blotterref03_Right.mono; have m1 := @rnGo.mono; exact lo
section
variable {α : Type} {d : Kd α} {e g n cap base : Nat} {w w1 : World} {ok oki : Nat → Prop} {xs : List α} {i : Int} {c : List Value}
theorem H_typed (h : Kd.H d e w base ok (.slice (some ⟨g, 0, none⟩) n cap) xs i oki c) : ∃ cells, w.heap[g]? = some (.cells cells e (0, 0)) := by
 obtain ⟨_, f, hR⟩ := h
 exact Kd.R_typed hR g (by simp [Value.ownBlock])
theorem H_frozen (h : Kd.H d e w base ok (.slice (some ⟨g, 0, none⟩) n cap) xs i oki c) (j : Nat) : w.frozen? ⟨g, j, none⟩ = false := by
 obtain ⟨cells, hc⟩ := H_typed h
 exact blk_frozen hc j
theorem H_own (h : Kd.H d e w base ok (.slice (some ⟨g, 0, none⟩) n cap) xs i oki c) : ok g ∧ ¬ oki g ∧ base ≤ g ∧ g < w.heap.size := by
 obtain ⟨_, f, hR⟩ := h
 have h1 := hR.1 g (by simp [Value.ownBlock])
 exact ⟨h1.1, h1.2, Kd.R_base hR g (by simp [Value.ownBlock]), Kd.R_lt hR g (by simp [Value.ownBlock])⟩
theorem R_own_ok {v : Value} (h : d.R e w base ok v xs) {k : Nat} (hk : v.ownBlock = some k) : ok k ∧ base ≤ k ∧ k < w.heap.size := ⟨h.1 k hk, Kd.R_base h k hk, Kd.R_lt h k hk⟩
end
theorem info73 : (Tryd.prog.info? 73).map (fun i => (i.zero, i.size, i.bytes)) = some (some (.agg #[(.slice none 0 0), (.int .i64 0)]), 2, 32) := by kernel_rfl
def Inv1 (X : Nat → Prop) (base : Nat) (W : World) (g cap : Nat) (gs : List S73) (vK : Value) (ks : List S43) : Prop :=
 (∀ k, X k → k < W.heap.size) ∧ ∃ PG PK : Nat → Prop, (∀ k, PG k → PK k → False) ∧ (∀ k, PG k ∨ PK k → ¬ X k ∧ base ≤ k ∧ k < W.heap.size) ∧ Kd.S k73 73 W base PG (.slice (some ⟨g, 0, none⟩) gs.length cap) gs ∧ Kd.R k43 43 W base PK vK ks
section
variable {X : Nat → Prop} {base g cap : Nat} {W W1 : World} {gs : List S73} {vK : Value} {ks : List S43}
theorem Inv1.below (h : Inv1 X base W g cap gs vK ks) (hb : Below W.heap.size W W1) : Inv1 X base W1 g cap gs vK ks := by
 obtain ⟨hx, PG, PK, h1, h2, h3, h4⟩ := h
 exact ⟨fun k hk => Nat.lt_of_lt_of_le (hx k hk) hb.size, PG, PK, h1, fun k hk => ⟨(h2 k hk).1, (h2 k hk).2.1, Nat.lt_of_lt_of_le (h2 k hk).2.2 hb.size⟩, Kd.S_below h3 hb, Kd.R_below h4 hb⟩
theorem Inv1.lens (h : Inv1 X base W g cap gs vK ks) : gs.length ≤ 9223372036854775807 ∧ ks.length ≤ 9223372036854775807 ∧ ∃ A c, vK = .slice A ks.length c := by
 obtain ⟨hx, PG, PK, h1, h2, h3, h4⟩ := h
 refine ⟨(Kd.S_reads' h3).2.2.2.1, ?_, Kd.R_slice h4⟩
 obtain ⟨A, c, rfl, _, hC⟩ := Kd.R_reads h4
 exact hC.2.1
theorem Inv1.avoid (h : Inv1 X base W g cap gs vK ks) (hb : Below W.heap.size W W1) {b : Nat} (h0 : b = W.heap.size) {o : Obj} (h1 : W1.heap[b]? = some o) : Inv1 (fun k => X k ∨ k = b) base W1 g cap gs vK ks := by
 obtain ⟨hx, PG, PK, h1', h2, h3, h4⟩ := h.below hb
 obtain ⟨_, _, _, _, h2', _, _⟩ := h
 have hlt := blk_lt h1
 obtain ⟨hx0, PG0, PK0, a1, a2, a3, a4⟩ := (show Inv1 X base W g cap gs vK ks from ⟨‹_›, _, _, ‹_›, h2', ‹_›, ‹_›⟩)
 exact ⟨fun k hk => hk.elim (fun h => hx k h) (fun e => by rw [e]; exact hlt), PG0, PK0, a1, fun k hk => ⟨fun e => e.elim (a2 k hk).1 (fun e => by have := (a2 k hk).2.2; omega), (a2 k hk).2.1, Nat.lt_of_lt_of_le (a2 k hk).2.2 hb.size⟩, Kd.S_below a3 hb, Kd.R_below a4 hb⟩
theorem Inv1.drop {Y : Nat → Prop} (h : Inv1 Y base W g cap gs vK ks) (hs : ∀ k, X k → Y k) : Inv1 X base W g cap gs vK ks := by
 obtain ⟨hx, PG, PK, h1, h2, h3, h4⟩ := h
 exact ⟨fun k hk => hx k (hs k hk), PG, PK, h1, fun k hk => ⟨fun e => (h2 k hk).1 (hs k e), (h2 k hk).2⟩, h3, h4⟩
theorem Inv1.far (h : Inv1 X base W g cap gs vK ks) {p : Addr} (hp : X p.block) (u : Value) : Inv1 X base (W.setCell p u) g cap gs vK ks := by
 obtain ⟨hx, PG, PK, h1, h2, h3, h4⟩ := h
 have hsz : (W.setCell p u).heap.size = W.heap.size := by simp [World.setCell]
 exact ⟨fun k hk => by rw [hsz]; exact hx k hk, PG, PK, h1, fun k hk => by rw [hsz]; exact h2 k hk, Kd.S_far h3 (fun k hk e => (h2 k (.inl hk)).1 (e ▸ hp)) u, Kd.R_far h4 (fun k hk e => (h2 k (.inr hk)).1 (e ▸ hp)) u⟩
theorem Inv1.start (hx : ∀ k, X k → k < W.heap.size) (hbase : base ≤ W.heap.size) (hg : W1.heap[W.heap.size]? = some (.cells #[.slice none 0 0, .int .i64 0] 73 (0, 0))) (hb : Below W.heap.size W W1) :
 Inv1 X base W1 W.heap.size 1 [⟨[], 0⟩] (.slice none 0 0) [] := by
 have hlt := blk_lt hg
 refine ⟨fun k hk => Nat.lt_trans (hx k hk) hlt, fun k => k = W.heap.size, fun _ => False, fun _ _ h => h, fun k hk => hk.elim (fun e => by subst e; exact ⟨fun h => Nat.lt_irrefl _ (hx _ h), hbase, hlt⟩) (fun h => h.elim), ?_, Kd.R_nil _ _ _ _ _⟩
 refine ⟨fun _ => 0, fun k hk => by simpa [Value.ownBlock] using hk.symm, [.slice none 0 0, .int .i64 0], ?_, ?_⟩
 ·exact ⟨rfl, .inr ⟨W.heap.size, 1, #[.slice none 0 0, .int .i64 0], rfl, hbase, hg, by simp, by decide, rfl, rfl⟩⟩
 refine ⟨rfl, fun j p hj => ?_⟩
 cases j with
 | zero =>
  obtain rfl : ((⟨[], 0⟩ : S73), 0) = p := by simpa using hj
  exact k73_mkM _ _ _ (⟨[], 0⟩ : S73) (Kd.R_nil _ _ _ _ _)
 | succ j => simp at hj
theorem ogetD (gs : List S73) (m : Nat) (hm : gs.length = m + 1) : rnLast gs = gs.getD (((m : Nat) : Int)).toNat z73 := by unfold rnLast; rw [hm]; rfl
theorem Inv1.last (h : Inv1 X base W g cap gs vK ks) {m : Nat} (hm : gs.length = m + 1) : ∃ Ao co, W.cell? ⟨g, m * 2, none⟩ = some (.slice Ao (rnLast gs).f0.length co) ∧ W.cell? ⟨g, m * 2 + 1, none⟩ = some (.int .i64 (rnLast gs).f1) ∧ (∀ j, W.frozen? ⟨g, j, none⟩ = false) ∧ base ≤ g ∧ ¬ X g ∧
 ∀ n, Inv1 X base (W.setCell ⟨g, m * 2 + 1, none⟩ (.int .i64 n)) g cap (gs.set m ⟨(rnLast gs).f0, n⟩) vK ks := by
 obtain ⟨hx, PG, PK, h1, h2, h3, h4⟩ := h
 obtain ⟨oki, ce, hcl, hM, hcc, hfr, hoki, hH⟩ := Kd.S_elem h3 z73 ((m : Nat) : Int) (by omega) (by omega)
 have hgo := H_own hH
 have hH' := H_frozen hH
 rw [← ogetD gs m hm] at hM
 obtain ⟨v0, rfl, gR⟩ := k73_openM hM
 obtain ⟨Ao, co, rfl⟩ := Kd.R_slice gR
 refine ⟨Ao, co, hcc 0 _ rfl, hcc 1 _ rfl, hH', hgo.2.2.1, (h2 g (.inl hgo.1)).1, fun n => ?_⟩
 have hsz : (W.setCell ⟨g, m * 2 + 1, none⟩ (.int .i64 n)).heap.size = W.heap.size := by simp [World.setCell]
 have hset := (Kd.S_seg0 hH (by omega) (by omega) (seg := [.int .i64 n]) (j := 1) (show 2 ≤ 2 from by decide) (x' := (⟨(rnLast gs).f0, n⟩ : S73)) (okp := oki) (k73_mkM _ _ _ (⟨(rnLast gs).f0, n⟩ : S73) gR) (fun _ hk => hk)).1
 refine ⟨fun k hk => by rw [hsz]; exact hx k hk, PG, PK, h1, fun k hk => by rw [hsz]; exact h2 k hk, ?_, Kd.R_far h4 (p := ⟨g, m * 2 + 1, none⟩) (fun k hk e => h1 k (e ▸ hgo.1) hk) _⟩
 rw [List.length_set]
 exact hset
theorem Inv1.insert (h : Inv1 X base W g cap gs vK ks) : ∃ ok : Nat → Prop, (∀ k, W.heap.size ≤ k → ok k) ∧ Kd.S k73 73 W base ok (.slice (some ⟨g, 0, none⟩) gs.length cap) gs ∧ (∀ k, X k → ¬ (ok k ∧ k < W.heap.size)) ∧
 ∀ (w' : World) (gs' : List S73), gs'.length = gs.length → base ≤ W.heap.size → Kd.S k73 73 w' base ok (.slice (some ⟨g, 0, none⟩) gs.length cap) gs' → Kept W w' (fun k => ok k ∧ k < W.heap.size) → Inv1 X base w' g cap gs' vK ks := by
 obtain ⟨hx, PG, PK, h1, h2, h3, h4⟩ := h
 refine ⟨fun k => PG k ∨ W.heap.size ≤ k, fun k hk => .inr hk, Kd.S_mono h3 (fun k hk => .inl hk), fun k hk h => h.1.elim (fun h => (h2 k (.inl h)).1 hk) (fun h' => by have := h.2; omega), fun w' gs' hl hb hS hK => ?_⟩
 have hS' := Kd.S_bound hS
 refine ⟨fun k hk => Nat.lt_of_lt_of_le (hx k hk) hK.1, fun k => (PG k ∨ W.heap.size ≤ k) ∧ k < w'.heap.size, PK, fun k hk hp => hk.1.elim (fun h => h1 k h hp) (fun h => by have := (h2 k (.inr hp)).2.2; omega), fun k hk => ?_, ?_, Kd.R_kept h4 hK (fun k hk hs => hs.1.elim (fun h => h1 k h hk) (fun h => by have := hs.2; omega))⟩
 ·rcases hk with hk | hk
  ·rcases hk.1 with h | h
   ·exact ⟨(h2 k (.inl h)).1, (h2 k (.inl h)).2.1, hk.2⟩
   exact ⟨fun e => by have := hx k e; omega, Nat.le_trans hb h, hk.2⟩
  exact ⟨(h2 k (.inr hk)).1, (h2 k (.inr hk)).2.1, Nat.lt_of_lt_of_le (h2 k (.inr hk)).2.2 hK.1⟩
 rw [hl]
 exact Kd.S_mono hS' (fun k hk => ⟨hk.1, hk.2.2.1⟩)
theorem Inv1.keep (h : Inv1 X base W g cap gs vK ks) {ji : Int} (h0 : 0 ≤ ji) (h1 : ji < (ks.length : Int)) : ∃ gk ck Ab cb, vK = .slice (some ⟨gk, 0, none⟩) ks.length ck ∧ W.cell? ⟨gk, ji.toNat * 4, none⟩ = some (.int .i64 (rd_T43 ks ji).f0) ∧ W.cell? ⟨gk, ji.toNat * 4 + 1, none⟩ = some (.int .i64 (rd_T43 ks ji).f1) ∧
 W.cell? ⟨gk, ji.toNat * 4 + 2, none⟩ = some (.string (rd_T43 ks ji).f2) ∧ W.cell? ⟨gk, ji.toNat * 4 + 3, none⟩ = some (.slice Ab (rd_T43 ks ji).f3.length cb) ∧ (rd_T43 ks ji).f3.length ≤ cb ∧ Kd.C k90 W Ab (rd_T43 ks ji).f3.length (rd_T43 ks ji).f3 ∧ (∀ j, W.frozen? ⟨gk, j, none⟩ = false) ∧ base ≤ gk ∧ ¬ X gk ∧
 ∀ n, Inv1 X base (W.setCell ⟨gk, ji.toNat * 4 + 1, none⟩ (.int .i64 n)) g cap gs vK (ks.set ji.toNat ⟨(rd_T43 ks ji).f0, n, (rd_T43 ks ji).f2, (rd_T43 ks ji).f3⟩) := by
 obtain ⟨hx, PG, PK, d1, h2, h3, h4⟩ := h
 obtain ⟨gk, ck, rfl, hgb, hgl, cells2, hcells2⟩ := Kd.R_form h4 (by omega)
 obtain ⟨ce2, hcl2, hM2, hcc2, hfr2⟩ := Kd.R_elem h4 z43 ji h0 h1
 obtain ⟨va, rfl, gR2⟩ := k43_openM hM2
 obtain ⟨Ab, cb, rfl⟩ := Kd.R_slice gR2
 have hP := h4.1 gk (by simp [Value.ownBlock])
 refine ⟨gk, ck, Ab, cb, rfl, hcc2 0 _ rfl, hcc2 1 _ rfl, hcc2 2 _ rfl, hcc2 3 _ rfl, (Kd.R_reads' gR2).2.1, (Kd.R_reads' gR2).2.2, fun j => blk_frozen hcells2 j, hgb, (h2 gk (.inr hP)).1, fun n => ?_⟩
 have hsz : (W.setCell ⟨gk, ji.toNat * 4 + 1, none⟩ (.int .i64 n)).heap.size = W.heap.size := by simp [World.setCell]
 have hset := (Kd.R_seg h4 ji h0 h1 hcl2 hcc2 (seg := [.int .i64 n]) (j := 1) (show 2 ≤ 4 from by decide) (x' := (⟨(rd_T43 ks ji).f0, n, (rd_T43 ks ji).f2, (rd_T43 ks ji).f3⟩ : S43)) (k43_mkM _ _ _ (⟨(rd_T43 ks ji).f0, n, (rd_T43 ks ji).f2, (rd_T43 ks ji).f3⟩ : S43) gR2) (fun k hk => hk)).1
 exact ⟨fun k hk => by rw [hsz]; exact hx k hk, PG, PK, d1, fun k hk => by rw [hsz]; exact h2 k hk, Kd.S_far h3 (p := ⟨gk, ji.toNat * 4 + 1, none⟩) (fun k hk e => d1 k hk (e ▸ hP)) _, hset⟩
theorem Inv1.grewK (h : Inv1 X base W g cap gs vK ks) (hbase : base ≤ W.heap.size) (hb : Below W.heap.size W W1) : ∃ ok : Nat → Prop, (∀ k, W.heap.size ≤ k → ok k ∧ some k ≠ vK.ownBlock) ∧ (∀ k, X k → some k ≠ vK.ownBlock) ∧ Kd.R k43 43 W1 base ok vK ks ∧
 ∀ (w4 : World) (v4 : Value) (ks' : List S43), W1.grownBy w4 vK.ownBlock → Kd.R k43 43 w4 base ok v4 ks' → Inv1 X base w4 g cap gs v4 ks' := by
 obtain ⟨hx, PG, PK, h1, h2, h3, h4⟩ := h
 have hown : ∀ k, vK.ownBlock = some k → PK k := h4.1
 refine ⟨fun k => PK k ∨ W.heap.size ≤ k, fun k hk => ⟨.inr hk, fun e => by have := (h2 k (.inr (hown k e.symm))).2.2; omega⟩, fun k hk e => (h2 k (.inr (hown k e.symm))).1 hk, Kd.R_mono (Kd.R_below h4 hb) (fun k hk => .inl hk), fun w4 v4 ks' hg hR => ?_⟩
 have hsz : W.heap.size ≤ w4.heap.size := Nat.le_trans hb.size hg.size
 refine ⟨fun k hk => Nat.lt_of_lt_of_le (hx k hk) hsz, PG, fun k => (PK k ∨ W.heap.size ≤ k) ∧ k < w4.heap.size, fun k hk hp => hp.1.elim (h1 k hk) (fun h => by have := (h2 k (.inl hk)).2.2; omega), fun k hk => ?_, Kd.S_grown (Kd.S_below h3 hb) hg (fun k hk e => h1 k hk (hown k e.symm)), Kd.R_mono (Kd.R_bound hR) (fun k hk => ⟨hk.1, hk.2.2.1⟩)⟩
 rcases hk with hk | hk
 ·exact ⟨(h2 k (.inl hk)).1, (h2 k (.inl hk)).2.1, Nat.lt_of_lt_of_le (h2 k (.inl hk)).2.2 hsz⟩
 rcases hk.1 with h | h
 ·exact ⟨(h2 k (.inr h)).1, (h2 k (.inr h)).2.1, hk.2⟩
 exact ⟨fun e => by have := hx k e; omega, Nat.le_trans hbase h, hk.2⟩
theorem Inv1.grewG (h : Inv1 X base W g cap gs vK ks) (hbase : base ≤ W.heap.size) : ∃ ok : Nat → Prop, (∀ k, W.heap.size ≤ k → ok k) ∧ ¬ X g ∧ Kd.S k73 73 W base (fun k => ok k ∧ ¬ False) (.slice (some ⟨g, 0, none⟩) gs.length cap) gs ∧
 ∀ (w4 : World) (v4 : Value) (gs' : List S73), 0 < gs'.length → W.grownBy w4 (some g) → Kd.S k73 73 w4 base ok v4 gs' → ∃ g' cap', v4 = .slice (some ⟨g', 0, none⟩) gs'.length cap' ∧ Inv1 X base w4 g' cap' gs' vK ks := by
 obtain ⟨hx, PG, PK, h1, h2, h3, h4⟩ := h
 have hown : PG g := by obtain ⟨f, hR⟩ := h3; exact hR.1 g (by simp [Value.ownBlock])
 refine ⟨fun k => PG k ∨ W.heap.size ≤ k, fun k hk => .inr hk, (h2 g (.inl hown)).1, Kd.S_mono h3 (fun k hk => ⟨.inl hk, fun h => h⟩), fun w4 v4 gs' hp hg hS => ?_⟩
 obtain ⟨g', cap', rfl, _⟩ := Kd.S_form hS hp
 refine ⟨g', cap', rfl, fun k hk => Nat.lt_of_lt_of_le (hx k hk) hg.size, fun k => (PG k ∨ W.heap.size ≤ k) ∧ k < w4.heap.size, PK, fun k hk hp => hk.1.elim (fun h => h1 k h hp) (fun h => by have := (h2 k (.inr hp)).2.2; omega), fun k hk => ?_, Kd.S_mono (Kd.S_bound hS) (fun k hk => ⟨hk.1, hk.2.2.1⟩), Kd.R_grown h4 hg (fun k hk e => h1 k (by cases e; exact hown) hk)⟩
 rcases hk with hk | hk
 ·rcases hk.1 with h | h
  ·exact ⟨(h2 k (.inl h)).1, (h2 k (.inl h)).2.1, hk.2⟩
  exact ⟨fun e => by have := hx k e; omega, Nat.le_trans hbase h, hk.2⟩
 exact ⟨(h2 k (.inr hk)).1, (h2 k (.inr hk)).2.1, Nat.lt_of_lt_of_le (h2 k (.inr hk)).2.2 hg.size⟩
end
def Inv2 (X : Nat → Prop) (base : Nat) (W : World) (g cap : Nat) (gs : List S73) (vK : Value) (ks : List S43) (vO : Value) (out : List S43) : Prop :=
 (∀ k, X k → k < W.heap.size) ∧ ∃ PG PK PN : Nat → Prop, (∀ k, PN k → ¬ PG k ∧ ¬ PK k) ∧ (∀ k, PG k ∨ PK k ∨ PN k → ¬ X k ∧ base ≤ k ∧ k < W.heap.size) ∧ (∀ k, vO.ownBlock = some k → PN k) ∧ Kd.S k73 73 W base PG (.slice (some ⟨g, 0, none⟩) gs.length cap) gs ∧ Kd.R k43 43 W base PK vK ks ∧ Kd.R k43 43 W base (fun k => PN k ∨ PG k ∨ PK k) vO out
section
variable {X : Nat → Prop} {base g cap : Nat} {W W1 : World} {gs : List S73} {vK vO : Value} {ks out : List S43}
theorem Inv2.below (h : Inv2 X base W g cap gs vK ks vO out) (hb : Below W.heap.size W W1) : Inv2 X base W1 g cap gs vK ks vO out := by
 obtain ⟨hx, PG, PK, PN, h1, h2, h3, h4, h5, h6⟩ := h
 exact ⟨fun k hk => Nat.lt_of_lt_of_le (hx k hk) hb.size, PG, PK, PN, h1, fun k hk => ⟨(h2 k hk).1, (h2 k hk).2.1, Nat.lt_of_lt_of_le (h2 k hk).2.2 hb.size⟩, h3, Kd.S_below h4 hb, Kd.R_below h5 hb, Kd.R_below h6 hb⟩
theorem Inv2.far (h : Inv2 X base W g cap gs vK ks vO out) {p : Addr} (hp : X p.block) (u : Value) : Inv2 X base (W.setCell p u) g cap gs vK ks vO out := by
 obtain ⟨hx, PG, PK, PN, h1, h2, h3, h4, h5, h6⟩ := h
 have hsz : (W.setCell p u).heap.size = W.heap.size := by simp [World.setCell]
 exact ⟨fun k hk => by rw [hsz]; exact hx k hk, PG, PK, PN, h1, fun k hk => by rw [hsz]; exact h2 k hk, h3, Kd.S_far h4 (fun k hk e => (h2 k (.inl hk)).1 (e ▸ hp)) u, Kd.R_far h5 (fun k hk e => (h2 k (.inr (.inl hk))).1 (e ▸ hp)) u,
  Kd.R_far h6 (fun k hk e => (h2 k (hk.elim (fun h => .inr (.inr h)) (fun h => h.elim .inl (fun h => .inr (.inl h))))).1 (e ▸ hp)) u⟩
theorem Inv1.two (h : Inv1 X base W g cap gs vK ks) : Inv2 X base W g cap gs vK ks (.slice none 0 0) [] := by
 obtain ⟨hx, PG, PK, h1, h2, h3, h4⟩ := h
 exact ⟨hx, PG, PK, fun _ => False, fun _ h => h.elim, fun k hk => h2 k (hk.elim .inl (fun h => h.elim .inr (fun h => h.elim))), fun k hk => by simp [Value.ownBlock] at hk, h3, h4, Kd.R_nil _ _ _ _ _⟩
theorem Inv2.keep (h : Inv2 X base W g cap gs vK ks vO out) {ji : Int} (h0 : 0 ≤ ji) (h1 : ji < (ks.length : Int)) : ∃ gk ck Ab cb, vK = .slice (some ⟨gk, 0, none⟩) ks.length ck ∧ W.cell? ⟨gk, ji.toNat * 4, none⟩ = some (.int .i64 (rd_T43 ks ji).f0) ∧ W.cell? ⟨gk, ji.toNat * 4 + 1, none⟩ = some (.int .i64 (rd_T43 ks ji).f1) ∧
 W.cell? ⟨gk, ji.toNat * 4 + 2, none⟩ = some (.string (rd_T43 ks ji).f2) ∧ W.cell? ⟨gk, ji.toNat * 4 + 3, none⟩ = some (.slice Ab (rd_T43 ks ji).f3.length cb) := by
 obtain ⟨hx, PG, PK, PN, d1, h2, h3, h4, h5, h6⟩ := h
 obtain ⟨gk, ck, rfl, hgb, hgl, cells2, hcells2⟩ := Kd.R_form h5 (by omega)
 obtain ⟨ce2, hcl2, hM2, hcc2, hfr2⟩ := Kd.R_elem h5 z43 ji h0 h1
 obtain ⟨va, rfl, gR2⟩ := k43_openM hM2
 obtain ⟨Ab, cb, rfl⟩ := Kd.R_slice gR2
 exact ⟨gk, ck, Ab, cb, rfl, hcc2 0 _ rfl, hcc2 1 _ rfl, hcc2 2 _ rfl, hcc2 3 _ rfl⟩
theorem Inv2.elem (h : Inv2 X base W g cap gs vK ks vO out) {ji : Int} (h0 : 0 ≤ ji) (h1 : ji < (out.length : Int)) : ∃ gk ck Ab cb, vO = .slice (some ⟨gk, 0, none⟩) out.length ck ∧ W.cell? ⟨gk, ji.toNat * 4, none⟩ = some (.int .i64 (rd_T43 out ji).f0) ∧ W.cell? ⟨gk, ji.toNat * 4 + 3, none⟩ = some (.slice Ab (rd_T43 out ji).f3.length cb) := by
 obtain ⟨hx, PG, PK, PN, d1, h2, h3, h4, h5, h6⟩ := h
 obtain ⟨gk, ck, rfl, hgb, hgl, cells2, hcells2⟩ := Kd.R_form h6 (by omega)
 obtain ⟨ce2, hcl2, hM2, hcc2, hfr2⟩ := Kd.R_elem h6 z43 ji h0 h1
 obtain ⟨va, rfl, gR2⟩ := k43_openM hM2
 obtain ⟨Ab, cb, rfl⟩ := Kd.R_slice gR2
 exact ⟨gk, ck, Ab, cb, rfl, hcc2 0 _ rfl, hcc2 3 _ rfl⟩
theorem Inv2.lens (h : Inv2 X base W g cap gs vK ks vO out) : out.length ≤ 9223372036854775807 ∧ gs.length ≤ 9223372036854775807 ∧ ks.length ≤ 9223372036854775807 := by
 obtain ⟨hx, PG, PK, PN, d1, h2, h3, h4, h5, h6⟩ := h
 refine ⟨?_, (Kd.S_reads' h4).2.2.2.1, ?_⟩
 ·obtain ⟨A, c, rfl, _, hC⟩ := Kd.R_reads h6
  exact hC.2.1
 obtain ⟨A, c, rfl, _, hC⟩ := Kd.R_reads h5
 exact hC.2.1
theorem Inv2.group (h : Inv2 X base W g cap gs vK ks vO out) {i : Nat} (hi : i < gs.length) : ∃ Ao co, W.cell? ⟨g, i * 2, none⟩ = some (.slice Ao (gs.getD i z73).f0.length co) ∧ W.cell? ⟨g, i * 2 + 1, none⟩ = some (.int .i64 (gs.getD i z73).f1) := by
 obtain ⟨hx, PG, PK, PN, d1, h2, h3, h4, h5, h6⟩ := h
 obtain ⟨oki, ce, hcl, hM, hcc, hfr, hoki, hH⟩ := Kd.S_elem h4 z73 ((i : Nat) : Int) (by omega) (by omega)
 obtain ⟨v0, rfl, gR⟩ := k73_openM hM
 obtain ⟨Ao, co, rfl⟩ := Kd.R_slice gR
 exact ⟨Ao, co, hcc 0 _ rfl, hcc 1 _ rfl⟩
theorem Inv2.grew (h : Inv2 X base W g cap gs vK ks vO out) (hbase : base ≤ W.heap.size) : ∃ ok okp : Nat → Prop, (∀ k, W.heap.size ≤ k → ok k) ∧ (∀ k, okp k → ok k ∧ some k ≠ vO.ownBlock) ∧ (∀ k, X k → some k ≠ vO.ownBlock) ∧ Kd.R k43 43 W base ok vO out ∧
 (∀ (ji : Int) (Ab : Option Addr) (cb : Nat), 0 ≤ ji → ji < (ks.length : Int) → (∀ gk ck, vK = .slice (some ⟨gk, 0, none⟩) ks.length ck → W.cell? ⟨gk, ji.toNat * 4 + 3, none⟩ = some (.slice Ab (rd_T43 ks ji).f3.length cb)) → k43.M W base okp (rd_T43 ks ji) [.int .i64 (rd_T43 ks ji).f0, .int .i64 (rd_T43 ks ji).f1, .string (rd_T43 ks ji).f2, .slice Ab (rd_T43 ks ji).f3.length cb]) ∧
 (∀ (i : Nat) (Ao : Option Addr) (co : Nat), i < gs.length → W.cell? ⟨g, i * 2, none⟩ = some (.slice Ao (gs.getD i z73).f0.length co) → ReadsRow (k43.M W base okp) k43.sz W Ao (gs.getD i z73).f0.length (gs.getD i z73).f0) ∧
 ∀ (w4 : World) (v4 : Value) (out' : List S43), W.grownBy w4 vO.ownBlock → (v4.ownBlock = vO.ownBlock ∨ ∃ b, v4.ownBlock = some b ∧ W.heap.size ≤ b) → Kd.R k43 43 w4 base ok v4 out' → Inv2 X base w4 g cap gs vK ks v4 out' := by
 obtain ⟨hx, PG, PK, PN, d1, h2, h3, h4, h5, h6⟩ := h
 refine ⟨fun k => (PN k ∨ PG k ∨ PK k) ∨ W.heap.size ≤ k, fun k => PG k ∨ PK k, fun k hk => .inr hk, fun k hk => ⟨.inl (.inr hk), fun e => (hk.elim (d1 k (h3 k e.symm)).1 (d1 k (h3 k e.symm)).2)⟩, fun k hk e => (h2 k (.inr (.inr (h3 k e.symm)))).1 hk, Kd.R_mono h6 (fun k hk => .inl hk), fun ji Ab cb h0 h1 hcell => ?_, fun i Ao co hi hcell => ?_, fun w4 v4 out' hg hat hR => ?_⟩
 ·obtain ⟨gk, ck, rfl, hgb, hgl, cells2, hcells2⟩ := Kd.R_form h5 (by omega)
  obtain ⟨ce2, hcl2, hM2, hcc2, hfr2⟩ := Kd.R_elem h5 z43 ji h0 h1
  obtain ⟨va, rfl, gR2⟩ := k43_openM hM2
  have e := (hcc2 3 _ rfl).symm.trans (hcell gk ck rfl)
  obtain rfl : va = .slice Ab (rd_T43 ks ji).f3.length cb := Option.some.inj e
  exact k43_mkM _ _ _ (rd_T43 ks ji) (Kd.R_mono gR2 (fun k hk => .inr hk.1))
 ·obtain ⟨oki, ce, hcl, hM, hcc, hfr, hoki, hH⟩ := Kd.S_elem h4 z73 ((i : Nat) : Int) (by omega) (by omega)
  obtain ⟨v0, rfl, gR⟩ := k73_openM hM
  have e := (hcc 0 _ rfl).symm.trans hcell
  obtain rfl : v0 = .slice Ao (gs.getD i z73).f0.length co := Option.some.inj e
  have gR' : Kd.R k43 43 W base oki (.slice Ao (gs.getD i z73).f0.length co) (gs.getD i z73).f0 := gR
  obtain ⟨A', c', he, hl, hr⟩ := OwnRow.reads gR'.2
  injection he with he _ _
  subst he
  exact hr.imp_ (Below.refl _ _) (fun x cs hp => k43.M_mono (fun k hk => .inl (hoki k hk.1).1) hp)
 have hown : ∀ k, vO.ownBlock = some k → ¬ PG k ∧ ¬ PK k := fun k hk => d1 k (h3 k hk)
 refine ⟨fun k hk => Nat.lt_of_lt_of_le (hx k hk) hg.size, PG, PK, fun k => (PN k ∨ W.heap.size ≤ k) ∧ k < w4.heap.size, fun k hk => hk.1.elim (d1 k) (fun h => ⟨fun h' => by have := (h2 k (.inl h')).2.2; omega, fun h' => by have := (h2 k (.inr (.inl h'))).2.2; omega⟩), fun k hk => ?_, fun k hk => ⟨?_, Kd.R_lt hR k hk⟩, Kd.S_grown h4 hg (fun k hk e => (hown k e.symm).1 hk), Kd.R_grown h5 hg (fun k hk e => (hown k e.symm).2 hk), Kd.R_mono (Kd.R_bound hR) (fun k hk => ?_)⟩
 ·rcases hk with hk | hk | hk
  ·exact ⟨(h2 k (.inl hk)).1, (h2 k (.inl hk)).2.1, Nat.lt_of_lt_of_le (h2 k (.inl hk)).2.2 hg.size⟩
  ·exact ⟨(h2 k (.inr (.inl hk))).1, (h2 k (.inr (.inl hk))).2.1, Nat.lt_of_lt_of_le (h2 k (.inr (.inl hk))).2.2 hg.size⟩
  rcases hk.1 with h | h
  ·exact ⟨(h2 k (.inr (.inr h))).1, (h2 k (.inr (.inr h))).2.1, hk.2⟩
  exact ⟨fun e => by have := hx k e; omega, Nat.le_trans hbase h, hk.2⟩
 ·rcases hat with h | ⟨b, hb, hle⟩
  ·exact .inl (h3 k (h ▸ hk))
  rw [hb] at hk; cases hk; exact .inr hle
 rcases hk.1 with (h | h | h) | h
 ·exact .inl ⟨.inl h, hk.2.2.1⟩
 ·exact .inr (.inl h)
 ·exact .inr (.inr h)
 exact .inl ⟨.inr h, hk.2.2.1⟩
theorem Inv2.slice (h : Inv2 X base W g cap gs vK ks vO out) : ∃ A c, vO = .slice A out.length c := by
 obtain ⟨hx, PG, PK, PN, d1, h2, h3, h4, h5, h6⟩ := h
 exact Kd.R_slice h6
theorem Inv2.row (h : Inv2 X base W g cap gs vK ks vO out) : ∃ ok : Nat → Prop, (∀ k, ok k → ¬ X k ∧ base ≤ k) ∧ Kd.R k43 43 W base ok vO out := by
 obtain ⟨hx, PG, PK, PN, d1, h2, h3, h4, h5, h6⟩ := h
 exact ⟨_, fun k hk => ⟨(h2 k (hk.elim (fun h => .inr (.inr h)) (fun h => h.elim .inl (fun h => .inr (.inl h))))).1, (h2 k (hk.elim (fun h => .inr (.inr h)) (fun h => h.elim .inl (fun h => .inr (.inl h))))).2.1⟩, h6⟩
end
def blotterref03_group_insert.T2 : Bool × List (List Nat × List Nat) := (true, [([], []), ([0], [0]), ([1], [1]), ([2], [2]), ([], []), ([], []), ([5], [5]), ([6], [6]), ([7], [7]), ([], []), ([8, 9], [8, 9]), ([10], [10]), ([11], [11]), ([], []), ([12, 13], [12, 13]), ([3, 4, 0, 1, 2, 3, 4, 5, 6, 7, 8, 9, 10, 11, 12, 13, 14], [3, 4]), ([15, 0, 1, 2, 3, 4, 5, 6, 7, 8, 9, 10, 11, 12, 13, 14], [15]), ([16, 14, 0, 1, 2, 3, 4, 5, 6, 7, 8, 9, 10, 11, 12, 13, 14], [14, 16])])
def blotterref03_group_insert.B2 : List Nat := [0, 1, 3, 7, 0, 0, 32, 96, 224, 0, 992, 2016, 4064, 0, 16352, 32767, 65535, 131071]
theorem blotterref03_group_insert.tab2 : rtab .any (opsOf Tryd.f55 2) = blotterref03_group_insert.T2 := by kernel_rfl
theorem blotterref03_group_insert.bits2 : waitsOk blotterref03_group_insert.T2.2 blotterref03_group_insert.B2 = true := by kernel_rfl
def blotterref03_group_insert.T3 : Bool × List (List Nat × List Nat) := (true, [([], []), ([], []), ([1], [1]), ([2], [2]), ([3], [3]), ([], []), ([], []), ([6], [6]), ([5, 7], [5, 7]), ([8], [8]), ([4, 9, 7], [4, 9]), ([0, 0, 1, 2, 3, 4, 5, 6, 7, 8, 9, 10], [0]), ([11, 0, 1, 2, 3, 4, 5, 6, 7, 8, 9, 10], [11]), ([12, 10, 10, 0, 1, 2, 3, 4, 5, 6, 7, 8, 9, 10], [10, 12])])
def blotterref03_group_insert.B3 : List Nat := [0, 0, 2, 6, 14, 0, 0, 64, 224, 480, 1022, 2047, 4095, 8191]
theorem blotterref03_group_insert.tab3 : rtab .any (opsOf Tryd.f55 3) = blotterref03_group_insert.T3 := by kernel_rfl
theorem blotterref03_group_insert.bits3 : waitsOk blotterref03_group_insert.T3.2 blotterref03_group_insert.B3 = true := by kernel_rfl
set_option maxHeartbeats 8000000 in
set_option maxRecDepth 100000 in
theorem blotterref03_group_insert.calls (k : Nat) (g cap m : Nat) (gs : List S73) (ok : Nat → Prop) (base : Nat) (t : ByteArray) (A : Option Addr) (c : Nat) (a : List S90) (r : List S43) (w0 w : World) (hm : gs.length = m + 1) (HS_ : Kd.S k73 73 w base ok (.slice (some ⟨g, 0, none⟩) gs.length cap) gs) (hA_ : Kd.C k90 w A a.length a) (hc_ : a.length ≤ c) (HB_ : Below base w0 w) (hfresh_ : ∀ k, w.heap.size ≤ k → ok k) (hbase_ : base ≤ w.heap.size) (h_ : rnIns k (rnLast gs).f0 t a = some r) :
 Calls Tryd.prog 55 #[.pointer (some ⟨g, m * 2, none⟩), .string t, .slice A a.length c] w fun e w' => e = .returned (.tuple #[]) ∧ Kd.S k73 73 w' base ok (.slice (some ⟨g, 0, none⟩) gs.length cap) (gs.set m ⟨r, (rnLast gs).f1⟩) ∧ Kept w w' (fun k => ok k ∧ k < w.heap.size) ∧ Below base w0 w' := by
 have hlast : rnLast gs = gs.getD (((m : Nat) : Int)).toNat z73 := by unfold rnLast; rw [hm]; rfl
 obtain ⟨oki, ce, hcl, hM, hcc, hfr, hoki, hH⟩ := Kd.S_elem (Kd.S_mono (ok' := fun k => ok k ∧ ¬ (ok k ∧ w.heap.size ≤ k)) (Kd.S_bound HS_) (fun k hk => ⟨hk.1, fun h2 => by have := hk.2.2.1; omega⟩)) z73 ((m : Nat) : Int) (by omega) (by omega)
 rw [← hlast] at hM
 obtain ⟨v0, rfl, gR⟩ := k73_openM hM
 generalize rnLast gs = lg at *
 obtain ⟨L, n1⟩ := lg
 simp only at gR h_ ⊢
 obtain ⟨Ao, co, rfl⟩ := Kd.R_slice gR
 have hcz0 : w.cell? ⟨g, m * 2, none⟩ = some (.slice Ao L.length co) := hcc 0 _ rfl
 have hfz0 : w.frozen? ⟨g, m * 2, none⟩ = false := hfr 0
 have GR := am gR
 have HH := am hH
 have HM := am hm
 have HA := am hA_
 have HC := am hc_
 have HB := am HB_
 have HF := am hfresh_
 have HBS := am hbase_
 have HK := am hoki
 have H := am h_
 clear gR hH hA_ hc_ HB_ hfresh_ h_ hoki hM hcc hfr hcl HS_ hlast hm hbase_
 obtain ⟨ji, hji⟩ : ∃ j_ : Int, wrap64 ((L.length : Int) - 1) = j_ := ⟨_, rfl⟩
 have hjiw : IntKind.i64.wrap ((L.length : Int) - 1) = ji := (i64_w _).trans hji
 have HJ := am hji
 by_cases hl : 0 < L.length
 ·obtain ⟨gi, co2, e2, hgb, hgl, cells2, hcells2⟩ := Kd.R_form GR.out hl
  injection e2 with e2 _ e3
  subst e2 e3
  have hLm : L.length ≤ 9223372036854775807 := (Kd.R_reads' GR.out).2.2.2.1
  have hjn : ji = ((L.length - 1 : Nat) : Int) := by rw [← hji]; unfold wrap64; omega
  have hj0 : 0 ≤ ji := by omega
  have hj1 : ji < (L.length : Int) := by omega
  have hjt : ji.toNat = L.length - 1 := by omega
  obtain ⟨ce2, hcl2, hM2, hcc2, hfr2⟩ := Kd.R_elem GR.out z43 ji hj0 hj1
  obtain ⟨va, rfl, gR2⟩ := k43_openM hM2
  obtain ⟨Ab, cb, rfl⟩ := Kd.R_slice gR2
  have hx0 : w.cell? ⟨gi, ji.toNat * 4, none⟩ = some (.int .i64 (rd_T43 L ji).f0) := hcc2 0 _ rfl
  have hx1 : w.cell? ⟨gi, ji.toNat * 4 + 1, none⟩ = some (.int .i64 (rd_T43 L ji).f1) := hcc2 1 _ rfl
  have hx2 : w.cell? ⟨gi, ji.toNat * 4 + 2, none⟩ = some (.string (rd_T43 L ji).f2) := hcc2 2 _ rfl
  have hx3 : w.cell? ⟨gi, ji.toNat * 4 + 3, none⟩ = some (.slice Ab (rd_T43 L ji).f3.length cb) := hcc2 3 _ rfl
  have hf2 : w.frozen? ⟨gi, ji.toNat * 4 + 2, none⟩ = false := hfr2 2
  have HX2 := am hcc2
  have HR2 := am (show k90.R 90 w base (fun k => oki k ∧ k ≠ gi) (.slice Ab (rd_T43 L ji).f3.length cb) (rd_T43 L ji).f3 from gR2)
  have HJT := am hjt
  have HJN := am hj1
  have hs0 := H.out
  unfold rnIns at hs0
  rw [if_pos hl, HJ.out] at hs0
  obtain ⟨sm, hsm, hs1⟩ := Option.bind_eq_some_iff.1 hs0
  have HSM := am hsm
  have HS1 := am hs1
  clear hcc2 hfr2 hcl2 hM2 gR2 hs0 hsm hs1 hji hjn hjt hcells2 hgb hgl hl
  have hd : decide (0 ≤ ji) = true := decide_eq_true hj0
  have hd2 : decide (ji < (L.length : Int)) = true := decide_eq_true hj1
  have hp0 : (0 ≤ ji) = True := eq_true hj0
  have hp1 : (ji < (L.length : Int)) = True := eq_true hj1
  clear hj0 hj1
  cases sm with
  | true =>
   have hsz : (rd_T43 L ji).f2.size + t.size ≤ 9223372036854775807 := by
    have hs := HS1.out
    simp only [if_true] at hs
    unfold rnJoin at hs
    rw [HJ.out] at hs
    by_cases h : (rd_T43 L ji).f2.size + t.size ≤ 9223372036854775807
    ·exact h
    rw [if_neg h] at hs; cases hs
   have hr : r = L.set ji.toNat ⟨(rd_T43 L ji).f0, (rd_T43 L ji).f1, (rd_T43 L ji).f2 ++ t, (rd_T43 L ji).f3⟩ := by
    have hs := HS1.out
    simp only [if_true] at hs
    unfold rnJoin at hs
    rw [HJ.out, if_pos hsz, ← HJT.out] at hs
    exact (Option.some.inj hs).symm
   have HR := am hr
   have hszf : (9223372036854775807 < (rd_T43 L ji).f2.size + t.size) = False := eq_false (Nat.not_lt.2 hsz)
   clear hr hsz
   go_enter Tryd.func55, Tryd.ntmps55
   go_wp2_with (fail)
   refine (blotterref02_Same.calls k _ _ _ _ _ a true _ (Kd.R_reads' HR2.out).2.2 (Kd.R_reads' HR2.out).2.1 HA.out HC.out HSM.out).mono ?_
   rintro e w1 ⟨rfl, ⟨nd, rfl⟩⟩
   go_wp2
   have GR2 := am (Kd.R_drew (Kd.R_drewN GR.out nd))
   have HH2 := am (Kd.H_drew (Kd.H_drewN HH.out nd))
   have HXX := am (show ∀ (j : Nat) (u : Value), [Value.int .i64 (rd_T43 L ji).f0, .int .i64 (rd_T43 L ji).f1, .string (rd_T43 L ji).f2, .slice Ab (rd_T43 L ji).f3.length cb][j]? = some u → (w.drewN nd).drew.cell? ⟨gi, ji.toNat * 4 + j, none⟩ = some u from HX2.out)
   have HRR := am (Kd.R_drew (Kd.R_drewN HR2.out nd))
   have HB2 := am (show Below base w0 (w.drewN nd).drew from (pw_below_drewN HB.out nd).drew)
   have KP2 := am (show Kept w (w.drewN nd).drew (fun _ => False) from Kept.of_below (below_drew (pw_below_drewN (Below.refl _ _) nd)) _)
   replace hx2 : (w.drewN nd).drew.cell? ⟨gi, ji.toNat * 4 + 2, none⟩ = _ := hx2
   replace hcz0 : (w.drewN nd).drew.cell? ⟨g, m * 2, none⟩ = _ := hcz0
   replace hf2 : (w.drewN nd).drew.frozen? ⟨gi, ji.toNat * 4 + 2, none⟩ = _ := hf2
   refine start_ (n := 18) (S := fun w' => w'.cell? ⟨g, m * 2, none⟩ = some (.slice (some ⟨gi, 0, none⟩) L.length co) ∧ w'.cell? ⟨gi, ji.toNat * 4 + 2, none⟩ = some (.string (rd_T43 L ji).f2)) (ds := [17]) #[false, false, false, false, false, false, false, false, false, false, false, false, false, false, false, false, false, false] (by kernel_rfl) rfl rfl ⟨hcz0, hx2⟩ (fun hHeld => ?_); refine with_tabW blotterref03_group_insert.tab2 blotterref03_group_insert.bits2 (fun HT_ HW_ => ?_)
   generalize (w.drewN nd).drew = w2 at GR2 HH2 HXX HRR HB2 KP2 hx2 hcz0 hf2 hHeld ⊢
   refine pu 0 27 HT_ ?_
   refine pu 1 28 HT_ ?_
   refine pu 2 29 HT_ ?_
   refine tk 3 30 HT_ HW_ hHeld ?_
   refine pu 4 31 HT_ ?_
   refine pu 5 32 HT_ ?_
   refine pu 6 33 HT_ ?_
   refine pu 7 34 HT_ ?_
   refine tk 8 35 HT_ HW_ hHeld ?_
   refine pu 9 36 HT_ ?_
   refine pu 10 37 HT_ ?_
   refine pu 11 38 HT_ ?_
   refine tk 12 39 HT_ HW_ hHeld ?_
   refine pu 13 40 HT_ ?_
   refine pu 14 41 HT_ ?_
   refine pu 15 42 HT_ ?_
   refine pu 16 43 HT_ ?_
   refine last_ (i := 17) (N := none) #[true, true, true, true, true, true, true, true, true, true, true, true, true, true, true, true, true, true] rfl rfl (one_of HT_.out (by kernel_rfl)) (by decide) (fun K hK => ?_)
   refine skip_ (w1 := ?_) (by rfl) rfl ?_ ?_
   rotate_left
   ·go_simp
    rfl
   refine hK.out _ _ ?_
   clear hK K
   refine done_ (done_of HT_.out (by kernel_rfl)) ?_
   try go_wp2
   first | go_end0 | ((try simp only [Exit.inBlock, Exit.then]); refine bodyPost_ret (results_none rfl _ _ _) rfl ?_)
   obtain ⟨hseg, hgs⟩ := Kd.R_seg GR2.out ji (of_eq_true hp0) (of_eq_true hp1) (c := [.int .i64 (rd_T43 L ji).f0, .int .i64 (rd_T43 L ji).f1, .string (rd_T43 L ji).f2, .slice Ab (rd_T43 L ji).f3.length cb]) rfl HXX.out (seg := [.string ((rd_T43 L ji).f2 ++ t)]) (j := 2) (show 3 ≤ 4 from by decide) (x' := (⟨(rd_T43 L ji).f0, (rd_T43 L ji).f1, (rd_T43 L ji).f2 ++ t, (rd_T43 L ji).f3⟩ : S43)) (k43_mkM _ _ _ (⟨(rd_T43 L ji).f0, (rd_T43 L ji).f1, (rd_T43 L ji).f2 ++ t, (rd_T43 L ji).f3⟩ : S43) HRR.out) (fun k hk => hk)
   have hoi := GR.out.1 gi (by simp [Value.ownBlock])
   have hlt := (R_own_ok GR.out (k := gi) (by simp [Value.ownBlock])).2
   refine ⟨rfl, ?_, Kept.setCell (Kept.mono (S' := fun k => ok k ∧ k < w.heap.size) KP2.out (fun _ h => h.elim)) (.inl ⟨(HK.out gi hoi).1.1, hlt.2⟩) _, HB2.out.setCell (p := ⟨gi, ji.toNat * 4 + 2, none⟩) hlt.1 _⟩
   rw [HR.out]
   exact Kd.S_mono (Kd.H_back (Kd.H_grown HH2.out hgs (fun k hk => by cases hk; exact hoi)) (k73_mkM _ _ _ (⟨L.set ji.toNat ⟨(rd_T43 L ji).f0, (rd_T43 L ji).f1, (rd_T43 L ji).f2 ++ t, (rd_T43 L ji).f3⟩, n1⟩ : S73) hseg) (fun k hk => hk)) (fun k hk => hk.1)
  | false =>
   go_enter Tryd.func55, Tryd.ntmps55
   go_wp2_with (fail)
   refine (blotterref02_Same.calls k _ _ _ _ _ a false _ (Kd.R_reads' HR2.out).2.2 (Kd.R_reads' HR2.out).2.1 HA.out HC.out HSM.out).mono ?_
   rintro e w1 ⟨rfl, ⟨nd, rfl⟩⟩
   go_wp2
   have hN : rnNew L t a = some r := by have hs := HS1.out; simpa using hs
   unfold rnNew at hN
   by_cases ha : a.length < 4398046511104
   ·rw [if_pos ha] at hN
    by_cases hL : L.length < 2513169434916
    ·rw [if_pos hL] at hN
     obtain rfl := Option.some.inj hN
     have HLN := am hL
     have HCP := am (show blotterref03_copied.f a = some a by unfold blotterref03_copied.f; simp only [Option.bind_some, List.length_nil, List.nil_append]; rw [if_pos (by omega)])
     clear hN ha hL
     have GR2 := am (Kd.R_drew (w := (w.drewN nd)) (Kd.R_below GR.out (pw_below_drewN (Below.refl _ _) nd)))
     have HH2 := am (Kd.H_drew (w := (w.drewN nd)) (Kd.H_below HH.out (pw_below_drewN (Below.refl _ _) nd)))
     have HA2 := am (Kd.C_below HA.out (show Below w.heap.size w ((w.drewN nd)).drew from below_drew (pw_below_drewN (Below.refl _ _) nd)))
     have HB2 := am (show Below base w0 ((w.drewN nd)).drew from HB.out.trans (Below.mono (below_drew (pw_below_drewN (Below.refl _ _) nd)) HBS.out))
     have KP2 := am (show Kept w ((w.drewN nd)).drew (fun _ => False) from Kept.of_below (below_drew (pw_below_drewN (Below.refl _ _) nd)) _)
     have SZ2 := am (show ((w.drewN nd)).drew.heap.size = w.heap.size from rfl)
     refine start_ (n := 14) (S := fun w' => w'.cell? ⟨g, m * 2, none⟩ = some (.slice (some ⟨gi, 0, none⟩) L.length co)) (ds := [13]) #[false, false, false, false, false, false, false, false, false, false, false, false, false, false] (by kernel_rfl) rfl rfl hcz0 (fun hHeld => ?_); refine with_tabW blotterref03_group_insert.tab3 blotterref03_group_insert.bits3 (fun HT_ HW_ => ?_)
     generalize ((w.drewN nd)).drew = w2 at GR2 HH2 HA2 HB2 KP2 SZ2 hHeld ⊢
     refine pu 0 44 HT_ ?_
     refine pu 1 45 HT_ ?_
     refine pu 2 46 HT_ ?_
     refine pu 3 47 HT_ ?_
     refine tk 4 48 HT_ HW_ hHeld ?_
     refine pu 5 49 HT_ ?_
     refine pu 6 50 HT_ ?_
     refine one_ (i := 7) (N := some 51) #[true, true, true, true, true, true, true, true, false, false, false, false, false, false] rfl rfl (one_of HT_.out (by kernel_rfl)) (by decide) (fun K hK => ?_)
     refine goes_ Tryd.func56 (by kernel_rfl) rfl #[.slice A a.length c] (by rfl) rfl rfl (by (try simp only [List.map_toArray, List.map_cons, List.map_nil]); first | done | rfl) ?_
     refine (blotterref03_copied.calls _ _ a a _ HA2.out HC.out HCP.out).mono ?_
     rintro e w3 ⟨va, rfl, hR, hb⟩
     refine ⟨_, rfl, ?_⟩
     obtain ⟨Aa, ca, rfl⟩ := Kd.R_slice hR
     have HR3 := am hR
     have HB3 := am hb
     clear hR hb
     refine hK.out _ _ (pw_cell_below HB3.out hHeld) (fun hHeld => ?_)
     clear hK K
     refine norm_ (a' := ?_) ?_ ?_
     rotate_left
     ·show Act.put _ (some 51) _ = _
      simp only [Act.put, List.setIfInBounds_toArray, List.set_cons_zero, List.set_cons_succ, i64_w, i32_w]
      rfl
     refine pu 8 52 HT_ ?_
     refine one_ (i := 9) (N := some 53) #[true, true, true, true, true, true, true, true, true, true, false, false, false, false] rfl rfl (one_of HT_.out (by kernel_rfl)) (by decide) (fun K hK => ?_)
     have hH3 := am hHeld
     refine value_ (w1 := ?_) (v := ?_) (by rfl) rfl ?_ ?_
     rotate_left 2
     ·go_simp
      constructor
      ·rfl
      rfl
     refine hK.out _ _ (pw_cell_below (below_alloc (Below.refl _ _) _) hHeld) (fun hHeld => ?_)
     clear hK K
     refine norm_ (a' := ?_) ?_ ?_
     rotate_left
     ·show Act.put _ (some 53) _ = _
      simp only [Act.put, List.setIfInBounds_toArray, List.set_cons_zero, List.set_cons_succ, i64_w, i32_w]
      rfl
     refine one_ (i := 10) (N := some 54) #[true, true, true, true, true, true, true, true, true, true, true, false, false, false] rfl rfl (one_of HT_.out (by kernel_rfl)) (by decide) (fun K hK => ?_)
     refine Kd.R_append_step k43 (w0 := w0) base (by rfl) (.tmp 48) (.tmp 53) 24 43 (.agg #[(.int .i64 0), (.int .i64 0), (.string ⟨#[]⟩), (.slice none 0 0)]) 56 rfl Tryd.underlying24 info43 rfl (by decide) (by omega) (.slice (some ⟨gi, 0, none⟩) L.length co) L (⟨2, 0, t, a⟩ : S43) [.int .i64 2, .int .i64 0, .string t, .slice Aa a.length ca] (fun k => oki k ∨ w2.heap.size ≤ k) (fun k => w2.heap.size ≤ k) rfl rfl ?aP ?aK ?aF ?aO ?aB ?aS ?aL ?_
     (case aP => exact k43_mkM _ _ _ (⟨2, 0, t, a⟩ : S43) (Kd.R_lower (Kd.R_mono (Kd.R_bound HR3.out) (fun k hk => hk.2.1)) (SZ2.out ▸ HBS.out)))
     (case aK => exact fun k hk => ⟨.inr hk, fun e => by have := Kd.R_lt GR2.out k e.symm; omega⟩)
     (case aF => exact fun k hk => .inr (Nat.le_trans HB3.out.size hk))
     (case aO => exact Kd.R_mono (Kd.R_below GR2.out HB3.out) (fun k hk => .inl hk))
     (case aB => exact HB2.out.trans (Below.mono HB3.out (SZ2.out ▸ HBS.out)))
     (case aS => exact Nat.le_trans (SZ2.out ▸ HBS.out : base ≤ w2.heap.size) HB3.out.size)
     (case aL => have := HLN.out; omega)
     intro v1 w4 ho hb4 hg hat
     have HH4 := am (Kd.H_grown (Kd.H_below HH2.out HB3.out) hg (fun k hk => (R_own_ok GR2.out hk).1))
     have hne4 : some g ≠ (Value.slice (some ⟨gi, 0, none⟩) L.length co).ownBlock := fun e => (H_own HH2.out).2.1 (R_own_ok GR2.out e.symm).1
     obtain ⟨A1, c1, e1⟩ := Kd.R_slice ho
     subst e1
     refine hK.out _ _ (hg.cell hH3.out hne4) (fun hHeld => ?_)
     have HO4 := am ho
     have HB4 := am hb4
     have KP4 := am (Kept.of_grown hg (Kept.below (Kept.mono (S' := fun k => ok k ∧ k < w.heap.size) KP2.out (fun _ h => h.elim)) HB3.out) (fun k hk => .inl ⟨(HK.out k (R_own_ok GR2.out hk).1).1.1, SZ2.out ▸ (R_own_ok GR2.out hk).2.2⟩))
     clear ho hb4 hg hat hne4
     clear hK K
     refine norm_ (a' := ?_) ?_ ?_
     rotate_left
     ·show Act.put _ (some 54) _ = _
      simp only [Act.put, List.setIfInBounds_toArray, List.set_cons_zero, List.set_cons_succ, i64_w, i32_w]
      rfl
     refine pu 11 55 HT_ ?_
     refine pu 12 56 HT_ ?_
     refine last_ (i := 13) (N := none) #[true, true, true, true, true, true, true, true, true, true, true, true, true, true] rfl rfl (one_of HT_.out (by kernel_rfl)) (by decide) (fun K hK => ?_)
     have hf4 := H_frozen HH4.out (m * 2)
     refine skip_ (w1 := ?_) (by rfl) rfl ?_ ?_
     rotate_left
     ·go_simp
      rfl
     refine hK.out _ _ ?_
     clear hK K
     refine done_ (done_of HT_.out (by kernel_rfl)) ?_
     try go_wp2
     first | go_end0 | ((try simp only [Exit.inBlock, Exit.then]); refine bodyPost_ret (results_none rfl _ _ _) rfl ?_)
     have hgo := H_own HH.out
     refine ⟨rfl, ?_, Kept.setCell KP4.out (.inl ⟨hgo.1.1, hgo.2.2.2⟩) _, HB4.out.setCell (p := ⟨g, m * 2, none⟩) hgo.2.2.1 _⟩
     have hfin := (Kd.S_seg (okg := fun k => ok k ∧ w.heap.size ≤ k) HH4.out (by omega) (by have := HM.out; omega) (seg := [.slice A1 (L ++ [(⟨2, 0, t, a⟩ : S43)]).length c1]) (j := 0) (show 1 ≤ 2 from by decide) (x' := (⟨L ++ [⟨2, 0, t, a⟩], n1⟩ : S73)) (k73_mkM _ _ _ (⟨L ++ [⟨2, 0, t, a⟩], n1⟩ : S73) HO4.out) (fun k hk => hk.elim .inl (fun h => .inr ⟨HF.out k (SZ2.out ▸ h), SZ2.out ▸ h⟩)) (fun k hk => ⟨hk.1, fun e => by have := hgo.2.2.2; have := hk.2; omega⟩)).1
     rw [List.length_append, List.length_singleton] at hfin
     exact hfin
    rw [if_neg hL] at hN; cases hN
   rw [if_neg ha] at hN; cases hN
 have hd : decide (0 ≤ ji) = false := decide_eq_false (by rw [← hji]; unfold wrap64; omega)
 have HL := am hl
 clear hji hl
 go_enter Tryd.func55, Tryd.ntmps55
 go_wp2
 have hN : rnNew L t a = some r := by have hs := H.out; unfold rnIns at hs; rwa [if_neg HL.out] at hs
 unfold rnNew at hN
 by_cases ha : a.length < 4398046511104
 ·rw [if_pos ha] at hN
  by_cases hL : L.length < 2513169434916
  ·rw [if_pos hL] at hN
   obtain rfl := Option.some.inj hN
   have HLN := am hL
   have HCP := am (show blotterref03_copied.f a = some a by unfold blotterref03_copied.f; simp only [Option.bind_some, List.length_nil, List.nil_append]; rw [if_pos (by omega)])
   clear hN ha hL
   have GR2 := am (Kd.R_drew (w := w) (Kd.R_below GR.out (Below.refl _ _)))
   have HH2 := am (Kd.H_drew (w := w) (Kd.H_below HH.out (Below.refl _ _)))
   have HA2 := am (Kd.C_below HA.out (show Below w.heap.size w (w).drew from below_drew (Below.refl _ _)))
   have HB2 := am (show Below base w0 (w).drew from HB.out.trans (Below.mono (below_drew (Below.refl _ _)) HBS.out))
   have KP2 := am (show Kept w (w).drew (fun _ => False) from Kept.of_below (below_drew (Below.refl _ _)) _)
   have SZ2 := am (show (w).drew.heap.size = w.heap.size from rfl)
   refine start_ (n := 14) (S := fun w' => w'.cell? ⟨g, m * 2, none⟩ = some (.slice Ao L.length co)) (ds := [13]) #[false, false, false, false, false, false, false, false, false, false, false, false, false, false] (by kernel_rfl) rfl rfl hcz0 (fun hHeld => ?_); refine with_tabW blotterref03_group_insert.tab3 blotterref03_group_insert.bits3 (fun HT_ HW_ => ?_)
   generalize w.drew = w2 at GR2 HH2 HA2 HB2 KP2 SZ2 hHeld ⊢
   refine pu 0 44 HT_ ?_
   refine pu 1 45 HT_ ?_
   refine pu 2 46 HT_ ?_
   refine pu 3 47 HT_ ?_
   refine tk 4 48 HT_ HW_ hHeld ?_
   refine pu 5 49 HT_ ?_
   refine pu 6 50 HT_ ?_
   refine one_ (i := 7) (N := some 51) #[true, true, true, true, true, true, true, true, false, false, false, false, false, false] rfl rfl (one_of HT_.out (by kernel_rfl)) (by decide) (fun K hK => ?_)
   refine goes_ Tryd.func56 (by kernel_rfl) rfl #[.slice A a.length c] (by rfl) rfl rfl (by (try simp only [List.map_toArray, List.map_cons, List.map_nil]); first | done | rfl) ?_
   refine (blotterref03_copied.calls _ _ a a _ HA2.out HC.out HCP.out).mono ?_
   rintro e w3 ⟨va, rfl, hR, hb⟩
   refine ⟨_, rfl, ?_⟩
   obtain ⟨Aa, ca, rfl⟩ := Kd.R_slice hR
   have HR3 := am hR
   have HB3 := am hb
   clear hR hb
   refine hK.out _ _ (pw_cell_below HB3.out hHeld) (fun hHeld => ?_)
   clear hK K
   refine norm_ (a' := ?_) ?_ ?_
   rotate_left
   ·show Act.put _ (some 51) _ = _
    simp only [Act.put, List.setIfInBounds_toArray, List.set_cons_zero, List.set_cons_succ, i64_w, i32_w]
    rfl
   refine pu 8 52 HT_ ?_
   refine one_ (i := 9) (N := some 53) #[true, true, true, true, true, true, true, true, true, true, false, false, false, false] rfl rfl (one_of HT_.out (by kernel_rfl)) (by decide) (fun K hK => ?_)
   have hH3 := am hHeld
   refine value_ (w1 := ?_) (v := ?_) (by rfl) rfl ?_ ?_
   rotate_left 2
   ·go_simp
    constructor
    ·rfl
    rfl
   refine hK.out _ _ (pw_cell_below (below_alloc (Below.refl _ _) _) hHeld) (fun hHeld => ?_)
   clear hK K
   refine norm_ (a' := ?_) ?_ ?_
   rotate_left
   ·show Act.put _ (some 53) _ = _
    simp only [Act.put, List.setIfInBounds_toArray, List.set_cons_zero, List.set_cons_succ, i64_w, i32_w]
    rfl
   refine one_ (i := 10) (N := some 54) #[true, true, true, true, true, true, true, true, true, true, true, false, false, false] rfl rfl (one_of HT_.out (by kernel_rfl)) (by decide) (fun K hK => ?_)
   refine Kd.R_append_step k43 (w0 := w0) base (by rfl) (.tmp 48) (.tmp 53) 24 43 (.agg #[(.int .i64 0), (.int .i64 0), (.string ⟨#[]⟩), (.slice none 0 0)]) 56 rfl Tryd.underlying24 info43 rfl (by decide) (by omega) (.slice Ao L.length co) L (⟨2, 0, t, a⟩ : S43) [.int .i64 2, .int .i64 0, .string t, .slice Aa a.length ca] (fun k => oki k ∨ w2.heap.size ≤ k) (fun k => w2.heap.size ≤ k) rfl rfl ?aP ?aK ?aF ?aO ?aB ?aS ?aL ?_
   (case aP => exact k43_mkM _ _ _ (⟨2, 0, t, a⟩ : S43) (Kd.R_lower (Kd.R_mono (Kd.R_bound HR3.out) (fun k hk => hk.2.1)) (SZ2.out ▸ HBS.out)))
   (case aK => exact fun k hk => ⟨.inr hk, fun e => by have := Kd.R_lt GR2.out k e.symm; omega⟩)
   (case aF => exact fun k hk => .inr (Nat.le_trans HB3.out.size hk))
   (case aO => exact Kd.R_mono (Kd.R_below GR2.out HB3.out) (fun k hk => .inl hk))
   (case aB => exact HB2.out.trans (Below.mono HB3.out (SZ2.out ▸ HBS.out)))
   (case aS => exact Nat.le_trans (SZ2.out ▸ HBS.out : base ≤ w2.heap.size) HB3.out.size)
   (case aL => have := HLN.out; omega)
   intro v1 w4 ho hb4 hg hat
   have HH4 := am (Kd.H_grown (Kd.H_below HH2.out HB3.out) hg (fun k hk => (R_own_ok GR2.out hk).1))
   have hne4 : some g ≠ (Value.slice Ao L.length co).ownBlock := fun e => (H_own HH2.out).2.1 (R_own_ok GR2.out e.symm).1
   obtain ⟨A1, c1, e1⟩ := Kd.R_slice ho
   subst e1
   refine hK.out _ _ (hg.cell hH3.out hne4) (fun hHeld => ?_)
   have HO4 := am ho
   have HB4 := am hb4
   have KP4 := am (Kept.of_grown hg (Kept.below (Kept.mono (S' := fun k => ok k ∧ k < w.heap.size) KP2.out (fun _ h => h.elim)) HB3.out) (fun k hk => .inl ⟨(HK.out k (R_own_ok GR2.out hk).1).1.1, SZ2.out ▸ (R_own_ok GR2.out hk).2.2⟩))
   clear ho hb4 hg hat hne4
   clear hK K
   refine norm_ (a' := ?_) ?_ ?_
   rotate_left
   ·show Act.put _ (some 54) _ = _
    simp only [Act.put, List.setIfInBounds_toArray, List.set_cons_zero, List.set_cons_succ, i64_w, i32_w]
    rfl
   refine pu 11 55 HT_ ?_
   refine pu 12 56 HT_ ?_
   refine last_ (i := 13) (N := none) #[true, true, true, true, true, true, true, true, true, true, true, true, true, true] rfl rfl (one_of HT_.out (by kernel_rfl)) (by decide) (fun K hK => ?_)
   have hf4 := H_frozen HH4.out (m * 2)
   refine skip_ (w1 := ?_) (by rfl) rfl ?_ ?_
   rotate_left
   ·go_simp
    rfl
   refine hK.out _ _ ?_
   clear hK K
   refine done_ (done_of HT_.out (by kernel_rfl)) ?_
   try go_wp2
   first | go_end0 | ((try simp only [Exit.inBlock, Exit.then]); refine bodyPost_ret (results_none rfl _ _ _) rfl ?_)
   have hgo := H_own HH.out
   refine ⟨rfl, ?_, Kept.setCell KP4.out (.inl ⟨hgo.1.1, hgo.2.2.2⟩) _, HB4.out.setCell (p := ⟨g, m * 2, none⟩) hgo.2.2.1 _⟩
   have hfin := (Kd.S_seg (okg := fun k => ok k ∧ w.heap.size ≤ k) HH4.out (by omega) (by have := HM.out; omega) (seg := [.slice A1 (L ++ [(⟨2, 0, t, a⟩ : S43)]).length c1]) (j := 0) (show 1 ≤ 2 from by decide) (x' := (⟨L ++ [⟨2, 0, t, a⟩], n1⟩ : S73)) (k73_mkM _ _ _ (⟨L ++ [⟨2, 0, t, a⟩], n1⟩ : S73) HO4.out) (fun k hk => hk.elim .inl (fun h => .inr ⟨HF.out k (SZ2.out ▸ h), SZ2.out ▸ h⟩)) (fun k hk => ⟨hk.1, fun e => by have := hgo.2.2.2; have := hk.2; omega⟩)).1
   rw [List.length_append, List.length_singleton] at hfin
   exact hfin
  rw [if_neg hL] at hN; cases hN
 rw [if_neg ha] at hN; cases hN
def blotterref03_Normal.T14 : Bool × List (List Nat × List Nat) := (true, [([], []), ([], []), ([], []), ([], []), ([2, 3], [2, 3]), ([4], [4]), ([5], [5]), ([], []), ([7], [7]), ([6, 8], [6, 8]), ([0, 1, 0, 1, 2, 3, 4, 5, 6, 7, 8, 9], [0, 1]), ([10, 0, 1, 2, 3, 4, 5, 6, 7, 8, 9], [10]), ([11, 9, 0, 1, 2, 3, 4, 5, 6, 7, 8, 9], [9, 11])])
def blotterref03_Normal.B14 : List Nat := [0, 0, 0, 0, 12, 28, 60, 0, 128, 508, 1023, 2047, 4095]
theorem blotterref03_Normal.tab14 : rtab .any (opsOf Tryd.f31 14) = blotterref03_Normal.T14 := by kernel_rfl
theorem blotterref03_Normal.bits14 : waitsOk blotterref03_Normal.T14.2 blotterref03_Normal.B14 = true := by kernel_rfl
def blotterref03_Normal.T15 : Bool × List (List Nat × List Nat) := (true, [([], []), ([], []), ([1], [1]), ([], []), ([3], [3]), ([4], [4]), ([2, 5], [2, 5]), ([6], [6]), ([0, 7, 5], [0, 7]), ([8, 8, 0, 1, 2, 3, 4, 5, 6, 7, 8], [0, 8])])
def blotterref03_Normal.B15 : List Nat := [0, 0, 2, 0, 8, 24, 62, 126, 255, 511]
theorem blotterref03_Normal.tab15 : rtab .any (opsOf Tryd.f31 15) = blotterref03_Normal.T15 := by kernel_rfl
theorem blotterref03_Normal.bits15 : waitsOk blotterref03_Normal.T15.2 blotterref03_Normal.B15 = true := by kernel_rfl
def blotterref03_Normal.T20 : Bool × List (List Nat × List Nat) := (true, [([], []), ([], []), ([1], [1]), ([2], [2]), ([3], [3]), ([], []), ([5], [5]), ([4, 6], [4, 6]), ([0, 0, 1, 2, 3, 4, 5, 6, 7], [0]), ([8, 0, 1, 2, 3, 4, 5, 6, 7], [8]), ([9, 7, 0, 1, 2, 3, 4, 5, 6, 7], [7, 9])])
def blotterref03_Normal.B20 : List Nat := [0, 0, 2, 6, 14, 0, 32, 126, 255, 511, 1023]
theorem blotterref03_Normal.tab20 : rtab .any (opsOf Tryd.f31 20) = blotterref03_Normal.T20 := by kernel_rfl
theorem blotterref03_Normal.bits20 : waitsOk blotterref03_Normal.T20.2 blotterref03_Normal.B20 = true := by kernel_rfl
def blotterref03_Normal.T26 : Bool × List (List Nat × List Nat) := (true, [([], []), ([0], [0]), ([], []), ([], []), ([3], [3]), ([2, 4], [2, 4]), ([5], [5]), ([6], [6]), ([1, 7], [1, 7]), ([0, 1, 2, 3, 4, 5, 6, 7, 8], []), ([9, 8, 8, 0, 1, 2, 3, 4, 5, 6, 7, 8], [8, 9])])
def blotterref03_Normal.B26 : List Nat := [0, 1, 0, 0, 8, 28, 60, 124, 255, 511, 1023]
theorem blotterref03_Normal.tab26 : rtab .any (opsOf Tryd.f31 26) = blotterref03_Normal.T26 := by kernel_rfl
theorem blotterref03_Normal.bits26 : waitsOk blotterref03_Normal.T26.2 blotterref03_Normal.B26 = true := by kernel_rfl
def blotterref03_Normal.T27 : Bool × List (List Nat × List Nat) := (true, [([], []), ([0], [0]), ([], []), ([], []), ([2, 3], [2, 3]), ([4], [4]), ([5], [5]), ([1, 6], [1, 6]), ([0, 1, 2, 3, 4, 5, 6, 7], []), ([8, 7, 7, 0, 1, 2, 3, 4, 5, 6, 7], [7, 8])])
def blotterref03_Normal.B27 : List Nat := [0, 1, 0, 0, 12, 28, 60, 127, 255, 511]
theorem blotterref03_Normal.tab27 : rtab .any (opsOf Tryd.f31 27) = blotterref03_Normal.T27 := by kernel_rfl
theorem blotterref03_Normal.bits27 : waitsOk blotterref03_Normal.T27.2 blotterref03_Normal.B27 = true := by kernel_rfl
def blotterref03_Normal.T29 : Bool × List (List Nat × List Nat) := (true, [([], []), ([0], [0]), ([], []), ([], []), ([2, 3], [2, 3]), ([4], [4]), ([5], [5]), ([6], [6]), ([7], [7]), ([1, 8], [1, 8]), ([0, 1, 2, 3, 4, 5, 6, 7, 8, 9], []), ([10, 9, 9, 0, 1, 2, 3, 4, 5, 6, 7, 8, 9], [9, 10])])
def blotterref03_Normal.B29 : List Nat := [0, 1, 0, 0, 12, 28, 60, 124, 252, 511, 1023, 2047]
theorem blotterref03_Normal.tab29 : rtab .any (opsOf Tryd.f31 29) = blotterref03_Normal.T29 := by kernel_rfl
theorem blotterref03_Normal.bits29 : waitsOk blotterref03_Normal.T29.2 blotterref03_Normal.B29 = true := by kernel_rfl
set_option maxHeartbeats 8000000 in
set_option maxRecDepth 100000 in
theorem blotterref03_Normal.calls (k : Nat) (a0 : Int) (A : Option Addr) (c : Nat) (l : List (S43)) (r1 : Int) (r2 : List (S43)) (r3 : Int) (w : World) (hr_ : Kd.C k43 w A l.length l) (hc_ : l.length ≤ c) (h_ : blotterref03_Normal.f k a0 l = some (r1, r2, r3)) :
 Calls Tryd.prog 31 #[.agg #[.int .i64 a0, .slice A l.length c]] w fun e w' => ∃ v1_ : Value, e = .returned (.tuple #[.agg #[.int .i64 r1, v1_], .int .i64 r3]) ∧ Kd.V k43 43 w' w.heap.size (fun k_ => (w.heap.size ≤ k_)) v1_ r2 ∧ Below w.heap.size w w' := by
 have hu26 := Tryd.underlying26
 have hu73 := Tryd.underlying73
 have hu43 := Tryd.underlying43
 have HR := am hr_
 have HC := am hc_
 unfold blotterref03_Normal.f at h_
 obtain ⟨e0, he0, h1⟩ := Option.bind_eq_some_iff.1 h_
 have HE := am he0
 clear hr_ hc_ h_ he0
 by_cases c3 : e0 = 0
 ·rw [if_pos c3] at h1
  subst c3
  obtain ⟨⟨gsF, ksF⟩, hgo, h2⟩ := Option.bind_eq_some_iff.1 h1
  obtain ⟨outF, hout, h3⟩ := Option.bind_eq_some_iff.1 h2
  simp only [Option.some.injEq, Prod.mk.injEq] at h3
  obtain ⟨rfl, rfl, rfl⟩ := h3
  have HGO := am hgo
  have HOUT := am hout
  clear h1 h2 hgo hout
  go_enter Tryd.func31, Tryd.ntmps31
  go_wp2_with (first | ((with_reducible refine gate_dst (N := 1) rfl ?_); (try (refine gate_guard (by rfl) ?_; dsimp only)); refine bev #[.int .i64 a0, .slice A l.length c] 26 ?_; intro gb1 hg w1 hbox hb; have HB1 := am hb; have BK1 := am hbox; have G1 := am (Nat.le_of_eq hg.symm : w.heap.size ≤ gb1); clear hg hbox hb) | ((with_reducible refine gate_dst (N := 2) rfl ?_); (try (refine gate_guard (by rfl) ?_; dsimp only)); refine bev #[.int .i64 0, .slice none 0 0] 26 ?_; intro gb2 hg w2 hbox hb; have HB2 := am (below_step HB1.out hb); have BK1b := am (blk_below BK1.out hb); have BK2 := am hbox; have G2 := am (show w.heap.size ≤ gb2 from by rw [hg]; exact HB1.out.size); have N12 := am (show gb1 ≠ gb2 from by rw [hg]; exact Nat.ne_of_lt (blk_lt BK1.out)); have hc10 : w2.cell? ⟨gb1, 0, none⟩ = some (.int .i64 a0) := (blk_cell BK1b.out 0).trans rfl; have hc11 : w2.cell? ⟨gb1, 1, none⟩ = some (.slice A l.length c) := (blk_cell BK1b.out 1).trans rfl; clear hg hbox hb) | ((with_reducible refine gate_callee (f := 54) rfl ?_); refine goesL_ (some 15) rfl rfl Tryd.func54 (by kernel_rfl) rfl #[.agg #[.int .i64 a0, .slice A l.length c]] rfl (by (try simp only [List.map_toArray, List.map_cons, List.map_nil]); first | done | rfl) ?_; refine (blotterref03_Right.calls k _ _ _ l _ _ (Kd.C_below HR.out HB2.out) HC.out HE.out).mono ?_; rintro e w3 ⟨rfl, hb⟩; refine ⟨_, rfl, ?_⟩; have HB3 := am (below_step HB2.out hb); have BK1c := am (blk_below BK1b.out hb); have BK2c := am (blk_below BK2.out hb); clear hb hc10 hc11 BK1 BK1b BK2 HB1 HB2))
  go_loopg [5, 6, 7] l.length (fun kq v5 v6 v7 w' => ∃ (i g cap : Nat) (gs : List S73) (AK : Option Addr) (cK : Nat) (ks : List S43), v5 = .slice (some ⟨g, 0, none⟩) gs.length cap ∧ v6 = .slice AK ks.length cK ∧ v7 = .int .i64 (i : Int) ∧ Aside0 (kq + i = l.length) ∧ Aside0 (0 < gs.length) ∧ Aside0 (rnGo k (l.drop i) gs ks = some (gsF, ksF)) ∧ Aside0 (Inv1 (fun k => k = gb1 ∨ k = gb2) w.heap.size w' g cap gs (.slice AK ks.length cK) ks) ∧ Aside0 (w'.heap[gb1]? = some (.cells #[.int .i64 a0, .slice A l.length c] 26 (0, 0))) ∧ Aside0 (w'.heap[gb2]? = some (.cells #[.int .i64 0, .slice none 0 0] 26 (0, 0))) ∧ Aside0 (Below w.heap.size w w'))
  case atStart =>
   exact ⟨0, w3.heap.size, 1, [⟨[], 0⟩], none, 0, [], rfl, rfl, rfl, ⟨rfl⟩, ⟨by decide⟩, ⟨HGO.out⟩, ⟨Inv1.start (fun k hk => hk.elim (fun e => by rw [e]; exact blk_lt BK1c.out) (fun e => by rw [e]; exact blk_lt BK2c.out)) HB3.out.size (blk_new w3 _) (below_alloc (Below.refl _ _) _)⟩, ⟨blk_alloc BK1c.out _⟩, ⟨blk_alloc BK2c.out _⟩, ⟨below_alloc HB3.out _⟩⟩
  case round =>
   obtain ⟨i, g, cap, gs, AK, cK, ks, rfl, rfl, rfl, HKI, HGP, HG, HI, BK1, BK2, HB⟩ := hrel
   have hcz1 : wr.cell? ⟨gb1, 1, none⟩ = some (.slice A l.length c) := (blk_cell BK1.out 1).trans rfl
   by_cases hlt : i < l.length
   ·have hg0 := HG.out
    rw [List.drop_eq_getElem_cons hlt] at hg0
    unfold rnGo at hg0
    obtain ⟨⟨gs1, ks1⟩, hst, hg1⟩ := Option.bind_eq_some_iff.1 hg0
    have hrd : l[i] = rd_T43 l (i : Int) := by unfold rd_T43; rw [Int.toNat_natCast, List.getD_eq_getElem?_getD, List.getElem?_eq_getElem hlt]; rfl
    rw [hrd] at hst
    have HST := am hst
    have HG1 := am hg1
    clear hg0 hst hg1 hrd HG
    obtain ⟨m, hm⟩ : ∃ m, gs.length = m + 1 := ⟨gs.length - 1, by have := HGP.out; omega⟩
    have HM := am hm
    obtain ⟨ad, A3, c3, e_, hx0, hx1, hx2, hx3, hl3, hi3⟩ := at_T43 HR.out (i : Int) (by omega) (by omega)
    cases e_
    replace hx0 := hbc HB hx0
    replace hx1 := hbc HB hx1
    replace hx2 := hbc HB hx2
    replace hx3 := hbc HB hx3
    have HR3 := am hi3
    have HC3 := am hl3
    have hlm : l.length ≤ 9223372036854775807 := HR.out.2.1
    have HLM := am hlm
    clear hi3 hl3 hm hlm
    simp only [Int.toNat_natCast] at hx0 hx1 hx2 hx3
    go_upto_region 10 with (first | ((with_reducible refine gate_dst (N := 8) rfl ?_); (try (refine gate_guard (by rfl) ?_; dsimp only)); refine bev #[.int .i64 0, .int .i64 0, .string (⟨#[]⟩ : ByteArray), .slice none 0 0] 43 ?_; intro gb8 hg w4 hbox hb; have HB4 := am (below_step HB.out hb); have BK1d := am (blk_below BK1.out hb); have BK2d := am (blk_below BK2.out hb); have BK8 := am hbox; have HI4 := am (Inv1.avoid HI.out hb hg hbox); have G8 := am (show w.heap.size ≤ gb8 from by rw [hg]; exact HB.out.size); have N81 := am (show gb1 ≠ gb8 from by rw [hg]; exact Nat.ne_of_lt (blk_lt BK1.out)); have N82 := am (show gb2 ≠ gb8 from by rw [hg]; exact Nat.ne_of_lt (blk_lt BK2.out)); have hz80 : w4.cell? ⟨gb8, 0, none⟩ = some (.int .i64 0) := (blk_cell BK8.out 0).trans rfl; have hz81 : w4.cell? ⟨gb8, 1, none⟩ = some (.int .i64 0) := (blk_cell BK8.out 1).trans rfl; have hz82 : w4.cell? ⟨gb8, 2, none⟩ = some (.string ⟨#[]⟩) := (blk_cell BK8.out 2).trans rfl; have hz83 : w4.cell? ⟨gb8, 3, none⟩ = some (.slice none 0 0) := (blk_cell BK8.out 3).trans rfl; have hzf0 := blk_frozen BK8.out 0; have hzf1 := blk_frozen BK8.out 1; have hzf2 := blk_frozen BK8.out 2; have hzf3 := blk_frozen BK8.out 3; clear hg hbox hb))
    have HI5 := am (show Inv1 (fun k => (k = gb1 ∨ k = gb2) ∨ k = gb8) w.heap.size ((((w4.setCell ⟨gb8, 0, none⟩ (.int .i64 (rd_T43 l (i : Int)).f0)).setCell ⟨gb8, 1, none⟩ (.int .i64 (rd_T43 l (i : Int)).f1)).setCell ⟨gb8, 2, none⟩ (.string (rd_T43 l (i : Int)).f2)).setCell ⟨gb8, 3, none⟩ (.slice A3 (rd_T43 l (i : Int)).f3.length c3)) g cap gs (.slice AK ks.length cK) ks from (Inv1.far (p := ⟨gb8, 3, none⟩) (Inv1.far (p := ⟨gb8, 2, none⟩) (Inv1.far (p := ⟨gb8, 1, none⟩) (Inv1.far (p := ⟨gb8, 0, none⟩) HI4.out (.inr rfl) (.int .i64 (rd_T43 l (i : Int)).f0)) (.inr rfl) (.int .i64 (rd_T43 l (i : Int)).f1)) (.inr rfl) (.string (rd_T43 l (i : Int)).f2)) (.inr rfl) (.slice A3 (rd_T43 l (i : Int)).f3.length c3)))
    have BK15 := am (show ((((w4.setCell ⟨gb8, 0, none⟩ (.int .i64 (rd_T43 l (i : Int)).f0)).setCell ⟨gb8, 1, none⟩ (.int .i64 (rd_T43 l (i : Int)).f1)).setCell ⟨gb8, 2, none⟩ (.string (rd_T43 l (i : Int)).f2)).setCell ⟨gb8, 3, none⟩ (.slice A3 (rd_T43 l (i : Int)).f3.length c3)).heap[gb1]? = some (.cells #[.int .i64 a0, .slice (some ad) l.length c] 26 (0, 0)) from (blk_far (blk_far (blk_far (blk_far BK1d.out N81.out _) N81.out _) N81.out _) N81.out _))
    have BK25 := am (show ((((w4.setCell ⟨gb8, 0, none⟩ (.int .i64 (rd_T43 l (i : Int)).f0)).setCell ⟨gb8, 1, none⟩ (.int .i64 (rd_T43 l (i : Int)).f1)).setCell ⟨gb8, 2, none⟩ (.string (rd_T43 l (i : Int)).f2)).setCell ⟨gb8, 3, none⟩ (.slice A3 (rd_T43 l (i : Int)).f3.length c3)).heap[gb2]? = some (.cells #[.int .i64 0, .slice none 0 0] 26 (0, 0)) from (blk_far (blk_far (blk_far (blk_far BK2d.out N82.out _) N82.out _) N82.out _) N82.out _))
    have BK85 := am (show ((((w4.setCell ⟨gb8, 0, none⟩ (.int .i64 (rd_T43 l (i : Int)).f0)).setCell ⟨gb8, 1, none⟩ (.int .i64 (rd_T43 l (i : Int)).f1)).setCell ⟨gb8, 2, none⟩ (.string (rd_T43 l (i : Int)).f2)).setCell ⟨gb8, 3, none⟩ (.slice A3 (rd_T43 l (i : Int)).f3.length c3)).heap[gb8]? = some (.cells #[.int .i64 (rd_T43 l (i : Int)).f0, .int .i64 (rd_T43 l (i : Int)).f1, .string (rd_T43 l (i : Int)).f2, .slice A3 (rd_T43 l (i : Int)).f3.length c3] 43 (0, 0)) from (blk_put (cs := #[.int .i64 (rd_T43 l (i : Int)).f0, .int .i64 (rd_T43 l (i : Int)).f1, .string (rd_T43 l (i : Int)).f2, .slice none 0 0]) (blk_put (cs := #[.int .i64 (rd_T43 l (i : Int)).f0, .int .i64 (rd_T43 l (i : Int)).f1, .string ⟨#[]⟩, .slice none 0 0]) (blk_put (cs := #[.int .i64 (rd_T43 l (i : Int)).f0, .int .i64 0, .string ⟨#[]⟩, .slice none 0 0]) (blk_put (cs := #[(.int .i64 0 : Value), .int .i64 0, .string ⟨#[]⟩, .slice none 0 0]) BK8.out 0 (.int .i64 (rd_T43 l (i : Int)).f0) rfl) 1 (.int .i64 (rd_T43 l (i : Int)).f1) rfl) 2 (.string (rd_T43 l (i : Int)).f2) rfl) 3 (.slice A3 (rd_T43 l (i : Int)).f3.length c3) rfl))
    have HB5 := am (show Below w.heap.size w ((((w4.setCell ⟨gb8, 0, none⟩ (.int .i64 (rd_T43 l (i : Int)).f0)).setCell ⟨gb8, 1, none⟩ (.int .i64 (rd_T43 l (i : Int)).f1)).setCell ⟨gb8, 2, none⟩ (.string (rd_T43 l (i : Int)).f2)).setCell ⟨gb8, 3, none⟩ (.slice A3 (rd_T43 l (i : Int)).f3.length c3)) from (below_set (below_set (below_set (below_set HB4.out G8.out) G8.out) G8.out) G8.out))
    clear hz80 hz81 hz82 hz83 hzf0 hzf1 hzf2 hzf3 hx0 hx1 hx2 hx3 hcz1 BK1 BK2 HB HI HI4 BK1d BK2d BK8 HB4 BK1c BK2c HB3
    generalize ((((w4.setCell ⟨gb8, 0, none⟩ (.int .i64 (rd_T43 l (i : Int)).f0)).setCell ⟨gb8, 1, none⟩ (.int .i64 (rd_T43 l (i : Int)).f1)).setCell ⟨gb8, 2, none⟩ (.string (rd_T43 l (i : Int)).f2)).setCell ⟨gb8, 3, none⟩ (.slice A3 (rd_T43 l (i : Int)).f3.length c3)) = w5 at HI5 BK15 BK25 BK85 HB5 ⊢
    have hk0 : w5.cell? ⟨gb8, 0, none⟩ = some (.int .i64 (rd_T43 l (i : Int)).f0) := (blk_cell BK85.out 0).trans rfl
    have hk1 : w5.cell? ⟨gb8, 1, none⟩ = some (.int .i64 (rd_T43 l (i : Int)).f1) := (blk_cell BK85.out 1).trans rfl
    have hk2 : w5.cell? ⟨gb8, 2, none⟩ = some (.string (rd_T43 l (i : Int)).f2) := (blk_cell BK85.out 2).trans rfl
    have hk3 : w5.cell? ⟨gb8, 3, none⟩ = some (.slice A3 (rd_T43 l (i : Int)).f3.length c3) := (blk_cell BK85.out 3).trans rfl
    have hgl : gs.length ≤ 9223372036854775807 := HI5.out.lens.1
    have hjw : IntKind.i64.wrap ((gs.length : Int) - 1) = (m : Int) := by rw [i64_w]; have := HM.out; unfold wrap64; omega
    have hml : m < gs.length := by have := HM.out; omega
    clear hgl
    by_cases k2 : (rd_T43 l (i : Int)).f0 = 2
    ·have hs := HST.out
     unfold rnStep at hs
     rw [if_pos k2] at hs
     obtain ⟨r, hins, he⟩ := Option.bind_eq_some_iff.1 hs
     simp only [Option.some.injEq, Prod.mk.injEq] at he
     obtain ⟨rfl, rfl⟩ := he
     have HIN := am hins
     have ek : ((rd_T43 l (i : Int)).f0 == 2) = true := beq_iff_eq.mpr k2
     clear hs hins k2
     obtain ⟨ok, hfr, hS, hXn, hcont⟩ := Inv1.insert HI5.out
     have HFR := am hfr
     have HS := am hS
     have HXN := am hXn
     have HCO := am hcont
     clear hfr hS hXn hcont
     go_wp2_with (first | ((with_reducible refine gate_callee (f := 55) rfl ?_); refine goesL_ (some 103) rfl rfl Tryd.func55 (by kernel_rfl) rfl #[.pointer (some ⟨g, m * 2, none⟩), .string (rd_T43 l (i : Int)).f2, .slice A3 (rd_T43 l (i : Int)).f3.length c3] rfl (by (try simp only [List.map_toArray, List.map_cons, List.map_nil]); first | done | rfl) ?_; refine (blotterref03_group_insert.calls k g cap m gs ok w.heap.size (rd_T43 l (i : Int)).f2 A3 c3 (rd_T43 l (i : Int)).f3 r w w5 HM.out HS.out (Kd.C_below HR3.out HB5.out) HC3.out HB5.out HFR.out HB5.out.size HIN.out).mono ?_; rintro e w6 ⟨rfl, hS6, hK6, hB6⟩; refine ⟨_, rfl, ?_⟩; have HS6 := am hS6; have HK6 := am hK6; have HB6 := am hB6; clear hS6 hK6 hB6 hk0 hk1 hk2 hk3))
     have hm1 : gs.length - 1 = m := by have := HM.out; omega
     have HM1 := am hm1
     clear hm1
     go_roundg (gk - 1)
     case measure => have := HKI.out; omega
     case rel => exact ⟨i + 1, g, cap, (gs.set (gs.length - 1) ⟨r, (rnLast gs).f1⟩), AK, cK, _, by first | rfl | (simp; done), by first | rfl | (simp; done), by (have h_ : wrap64 ((i : Int) + 1) = ((i + 1 : Nat) : Int) := (by have := HLM.out; unfold wrap64; omega); first | rw [h_] | rw [i64_w, h_] | go_num), ⟨by have := HKI.out; omega⟩, ⟨by have := HM.out; first | omega | (simp; done) | (simp; omega)⟩, ⟨HG1.out⟩, ⟨Inv1.drop (HCO.out w6 _ (by simp) HB5.out.size (by rw [HM1.out]; exact HS6.out) HK6.out) (fun k h => Or.inl h)⟩, ⟨blk_kept BK15.out HK6.out (HXN.out _ (.inl (.inl rfl)))⟩, ⟨blk_kept BK25.out HK6.out (HXN.out _ (.inl (.inr rfl)))⟩, ⟨HB6.out⟩⟩
    by_cases k3 : (rd_T43 l (i : Int)).f0 = 3
    ·have hs := HST.out
     unfold rnStep at hs
     rw [if_neg k2, if_pos k3] at hs
     simp only [Option.some.injEq, Prod.mk.injEq] at hs
     obtain ⟨rfl, rfl⟩ := hs
     have ek2 : ((rd_T43 l (i : Int)).f0 == 2) = false := beq_eq_false_iff_ne.mpr k2
     have ek3 : ((rd_T43 l (i : Int)).f0 == 3) = true := beq_iff_eq.mpr k3
     clear k2 k3
     go_wp2
     have HI6 := am (Inv1.below HI5.out (below_drew (Below.refl _ _)))
     have BK16 := am (blk_drew BK15.out)
     have BK26 := am (blk_drew BK25.out)
     have BK86 := am (blk_drew BK85.out)
     have HB6 := am (below_drew HB5.out)
     obtain ⟨Ao, co, hl0, hl1, hfl, hgb, hgX, hset⟩ := Inv1.last HI6.out HM.out
     have HSET := am hset
     have HFL := am hfl
     have HGX := am hgX
     have HGB := am hgb
     replace hk1 : w5.drew.cell? ⟨gb8, 1, none⟩ = _ := hk1
     clear hset hl0 hfl hgX hgb hk0 hk2 hk3
     refine start_ (n := 11) (S := fun w' => w'.cell? ⟨g, m * 2 + 1, none⟩ = some (.int .i64 (rnLast gs).f1) ∧ w'.cell? ⟨gb8, 1, none⟩ = some (.int .i64 (rd_T43 l (i : Int)).f1)) (ds := [10]) #[false, false, false, false, false, false, false, false, false, false, false] (by kernel_rfl) rfl rfl ⟨hl1, hk1⟩ (fun hHeld => ?_); refine with_tabW blotterref03_Normal.tab20 blotterref03_Normal.bits20 (fun HT_ HW_ => ?_)
     generalize w5.drew = w6 at HI6 BK16 BK26 BK86 HB6 HSET HFL hl1 hk1 hHeld ⊢
     refine pu 0 106 HT_ ?_
     refine pu 1 107 HT_ ?_
     refine pu 2 108 HT_ ?_
     refine pu 3 109 HT_ ?_
     refine tk 4 110 HT_ HW_ hHeld ?_
     refine pu 5 111 HT_ ?_
     refine tk 6 112 HT_ HW_ hHeld ?_
     refine pu 7 113 HT_ ?_
     refine pu 8 114 HT_ ?_
     refine pu 9 115 HT_ ?_
     refine last_ (i := 10) (N := none) #[true, true, true, true, true, true, true, true, true, true, true] rfl rfl (one_of HT_.out (by kernel_rfl)) (by decide) (fun K hK => ?_)
     have hff := HFL.out (m * 2 + 1)
     refine skip_ (w1 := ?_) (by rfl) rfl ?_ ?_
     rotate_left
     ·go_simp
      rfl
     refine hK.out _ _ ?_
     clear hK K
     refine done_ (done_of HT_.out (by kernel_rfl)) ?_
     try go_wp2
     have hm1 : gs.length - 1 = m := by have := HM.out; omega
     have HM1 := am hm1
     clear hm1 hl1 hk1
     have ng1 := fun e : gb1 = g => HGX.out (.inl (.inl e.symm))
     have ng2 := fun e : gb2 = g => HGX.out (.inl (.inr e.symm))
     have NG1 := am ng1
     have NG2 := am ng2
     clear ng1 ng2
     go_roundg (gk - 1)
     case measure => have := HKI.out; omega
     case rel => exact ⟨i + 1, g, cap, (gs.set (gs.length - 1) ⟨(rnLast gs).f0, wrap64 ((rnLast gs).f1 + (rd_T43 l (i : Int)).f1)⟩), AK, cK, _, by first | rfl | (simp; done), by first | rfl | (simp; done), by (have h_ : wrap64 ((i : Int) + 1) = ((i + 1 : Nat) : Int) := (by have := HLM.out; unfold wrap64; omega); first | rw [h_] | rw [i64_w, h_] | go_num), ⟨by have := HKI.out; omega⟩, ⟨by have := HM.out; first | omega | (simp; done) | (simp; omega)⟩, ⟨HG1.out⟩, ⟨Inv1.drop (Y := (fun k => (k = gb1 ∨ k = gb2) ∨ k = gb8)) (by rw [HM1.out]; exact HSET.out _) (fun k h => Or.inl h)⟩, ⟨blk_far BK16.out NG1.out _⟩, ⟨blk_far BK26.out NG2.out _⟩, ⟨below_set HB6.out HGB.out⟩⟩
    have hs := HST.out
    unfold rnStep at hs
    rw [if_neg k2, if_neg k3] at hs
    have HKEEP := am hs
    have ek2 : ((rd_T43 l (i : Int)).f0 == 2) = false := beq_eq_false_iff_ne.mpr k2
    have ek3 : ((rd_T43 l (i : Int)).f0 == 3) = false := beq_eq_false_iff_ne.mpr k3
    clear k2 k3 hs
    obtain ⟨kj, hkj⟩ : ∃ j_ : Int, wrap64 ((ks.length : Int) - 1) = j_ := ⟨_, rfl⟩
    have hkjw : IntKind.i64.wrap ((ks.length : Int) - 1) = kj := (i64_w _).trans hkj
    have HKJ := am hkj
    have hkl := HI5.out.lens.2.1
    have HKLN := am hkl
    clear hkj hkl
    go_upto_region 13 with (fail)
    go_cut [70] (fun v70 wc => ∃ b : Bool, v70 = .bool b ∧ Aside0 (b = true → 0 < ks.length ∧ (gs1, ks1) = rnKeepJoin gs ks (rd_T43 l (i : Int))) ∧ Aside0 (b = false → rnKeepNew gs ks (rd_T43 l (i : Int)) = some (gs1, ks1)) ∧ Aside0 (Inv1 (fun k => (k = gb1 ∨ k = gb2) ∨ k = gb8) w.heap.size wc g cap gs (.slice AK ks.length cK) ks) ∧ Aside0 (wc.heap[gb1]? = some (.cells #[.int .i64 a0, .slice (some ad) l.length c] 26 (0, 0))) ∧ Aside0 (wc.heap[gb2]? = some (.cells #[.int .i64 0, .slice none 0 0] 26 (0, 0))) ∧ Aside0 (wc.heap[gb8]? = some (.cells #[.int .i64 (rd_T43 l (i : Int)).f0, .int .i64 (rd_T43 l (i : Int)).f1, .string (rd_T43 l (i : Int)).f2, .slice A3 (rd_T43 l (i : Int)).f3.length c3] 43 (0, 0))) ∧ Aside0 (Below w.heap.size w wc))
    case first =>
     have hs := HKEEP.out
     unfold rnKeep at hs
     by_cases q1 : 0 < ks.length
     ·rw [if_pos q1] at hs
      have hd0 : decide (0 ≤ kj) = true := decide_eq_true (by rw [← HKJ.out]; have := HKLN.out; unfold wrap64; omega)
      have hj1 : kj < (ks.length : Int) := by rw [← HKJ.out]; have := HKLN.out; unfold wrap64; omega
      by_cases q2 : (rnLast gs).f0.length = 0
      ·rw [if_pos q2] at hs
       have e2 : (((rnLast gs).f0.length : Int) == 0) = true := by rw [q2]; rfl
       by_cases q3 : (rnLast gs).f1 = 0
       ·rw [if_pos q3] at hs
        have e3 : ((rnLast gs).f1 == 0) = true := beq_iff_eq.mpr q3
        obtain ⟨sm, hsm, hs⟩ := Option.bind_eq_some_iff.1 hs
        rw [HKJ.out] at hsm
        have HSM := am hsm
        clear hsm
        cases sm with
        | true =>
         simp only [if_true, Option.some.injEq] at hs
         have HJN := am hs
         have HQ1 := am q1
         clear hs q1 q2 q3
         obtain ⟨Ao, co, hl0, hl1, hfl, hgb, hgX, hset⟩ := Inv1.last HI5.out HM.out
         clear hset hfl hgX hgb
         obtain ⟨gq, ck, Ab, cb, eK, hK0, hK1, hK2, hK3, hKl, hKC, hKf, hKb, hKX, hKset⟩ := Inv1.keep HI5.out (of_decide_eq_true hd0) hj1
         injection eK with eA _ eC
         subst eA eC
         have HKC := am hKC
         have HKL := am hKl
         clear hK0 hK1 hK2 hKf hKb hKX hKset hKC hKl
         have hp0 : (0 ≤ kj) = True := eq_true (of_decide_eq_true hd0)
         have hp1 : (kj < (ks.length : Int)) = True := eq_true hj1
         have hp2 : decide (kj < (ks.length : Int)) = true := decide_eq_true hj1
         have HA6 := am (Kd.C_below HR3.out HB5.out)
         go_quiet ((go_at_call 53; exact Calls.quiet_of ((blotterref02_Same.calls k _ _ (rd_T43 ks kj).f3 _ _ (rd_T43 l (i : Int)).f3 true _ (Kd.C_below HKC.out (pw_below_drewN (Below.refl _ _) _)) HKL.out (Kd.C_below HA6.out (pw_below_drewN (Below.refl _ _) _)) HC3.out HSM.out).mono fun e w' h => ⟨h.1, h.2.out⟩)))
         have HI6 := am (Inv1.below HI5.out (pw_below_drewN (Below.refl _ _) nq))
         have BK16 := am (blk_drewN BK15.out nq)
         have BK26 := am (blk_drewN BK25.out nq)
         have BK86 := am (blk_drewN BK85.out nq)
         have HB6 := am (pw_below_drewN HB5.out nq)
         try go_wp2
         go_meet
         case rel => exact ⟨true, rfl, ⟨fun _ => ⟨HQ1.out, HJN.out.symm⟩⟩, ⟨fun e => by cases e⟩, ⟨HI6.out⟩, ⟨BK16.out⟩, ⟨BK26.out⟩, ⟨BK86.out⟩, ⟨HB6.out⟩⟩
        | false =>
         simp only [Bool.false_eq_true, if_false] at hs
         have HKN := am hs
         clear hs q1 q2 q3
         obtain ⟨Ao, co, hl0, hl1, hfl, hgb, hgX, hset⟩ := Inv1.last HI5.out HM.out
         clear hset hfl hgX hgb
         obtain ⟨gq, ck, Ab, cb, eK, hK0, hK1, hK2, hK3, hKl, hKC, hKf, hKb, hKX, hKset⟩ := Inv1.keep HI5.out (of_decide_eq_true hd0) hj1
         injection eK with eA _ eC
         subst eA eC
         have HKC := am hKC
         have HKL := am hKl
         clear hK0 hK1 hK2 hKf hKb hKX hKset hKC hKl
         have hp0 : (0 ≤ kj) = True := eq_true (of_decide_eq_true hd0)
         have hp1 : (kj < (ks.length : Int)) = True := eq_true hj1
         have hp2 : decide (kj < (ks.length : Int)) = true := decide_eq_true hj1
         have HA6 := am (Kd.C_below HR3.out HB5.out)
         go_quiet ((go_at_call 53; exact Calls.quiet_of ((blotterref02_Same.calls k _ _ (rd_T43 ks kj).f3 _ _ (rd_T43 l (i : Int)).f3 false _ (Kd.C_below HKC.out (pw_below_drewN (Below.refl _ _) _)) HKL.out (Kd.C_below HA6.out (pw_below_drewN (Below.refl _ _) _)) HC3.out HSM.out).mono fun e w' h => ⟨h.1, h.2.out⟩)))
         have HI6 := am (Inv1.below HI5.out (pw_below_drewN (Below.refl _ _) nq))
         have BK16 := am (blk_drewN BK15.out nq)
         have BK26 := am (blk_drewN BK25.out nq)
         have BK86 := am (blk_drewN BK85.out nq)
         have HB6 := am (pw_below_drewN HB5.out nq)
         try go_wp2
         go_meet
         case rel => exact ⟨false, rfl, ⟨fun e => by cases e⟩, ⟨fun _ => HKN.out⟩, ⟨HI6.out⟩, ⟨BK16.out⟩, ⟨BK26.out⟩, ⟨BK86.out⟩, ⟨HB6.out⟩⟩
       rw [if_neg q3] at hs
       have e3 : ((rnLast gs).f1 == 0) = false := beq_eq_false_iff_ne.mpr q3
       have HKN := am hs
       clear hs q1 q2 q3 hj1
       obtain ⟨Ao, co, hl0, hl1, hfl, hgb, hgX, hset⟩ := Inv1.last HI5.out HM.out
       clear hset hfl hgX hgb
       go_quiet (fail)
       have HI6 := am (Inv1.below HI5.out (pw_below_drewN (Below.refl _ _) nq))
       have BK16 := am (blk_drewN BK15.out nq)
       have BK26 := am (blk_drewN BK25.out nq)
       have BK86 := am (blk_drewN BK85.out nq)
       have HB6 := am (pw_below_drewN HB5.out nq)
       try go_wp2
       go_meet
       case rel => exact ⟨false, rfl, ⟨fun e => by cases e⟩, ⟨fun _ => HKN.out⟩, ⟨HI6.out⟩, ⟨BK16.out⟩, ⟨BK26.out⟩, ⟨BK86.out⟩, ⟨HB6.out⟩⟩
      rw [if_neg q2] at hs
      have e2 : (((rnLast gs).f0.length : Int) == 0) = false := beq_eq_false_iff_ne.mpr (by omega)
      have HKN := am hs
      clear hs q1 q2 hj1
      obtain ⟨Ao, co, hl0, hl1, hfl, hgb, hgX, hset⟩ := Inv1.last HI5.out HM.out
      clear hset hfl hgX hgb
      go_quiet (fail)
      have HI6 := am (Inv1.below HI5.out (pw_below_drewN (Below.refl _ _) nq))
      have BK16 := am (blk_drewN BK15.out nq)
      have BK26 := am (blk_drewN BK25.out nq)
      have BK86 := am (blk_drewN BK85.out nq)
      have HB6 := am (pw_below_drewN HB5.out nq)
      try go_wp2
      go_meet
      case rel => exact ⟨false, rfl, ⟨fun e => by cases e⟩, ⟨fun _ => HKN.out⟩, ⟨HI6.out⟩, ⟨BK16.out⟩, ⟨BK26.out⟩, ⟨BK86.out⟩, ⟨HB6.out⟩⟩
     rw [if_neg q1] at hs
     have hd0 : decide (0 ≤ kj) = false := decide_eq_false (by rw [← HKJ.out]; unfold wrap64; omega)
     have HKN := am hs
     clear hs q1
     go_quiet (fail)
     have HI6 := am (Inv1.below HI5.out (pw_below_drewN (Below.refl _ _) nq))
     have BK16 := am (blk_drewN BK15.out nq)
     have BK26 := am (blk_drewN BK25.out nq)
     have BK86 := am (blk_drewN BK85.out nq)
     have HB6 := am (pw_below_drewN HB5.out nq)
     try go_wp2
     go_meet
     case rel => exact ⟨false, rfl, ⟨fun e => by cases e⟩, ⟨fun _ => HKN.out⟩, ⟨HI6.out⟩, ⟨BK16.out⟩, ⟨BK26.out⟩, ⟨BK86.out⟩, ⟨HB6.out⟩⟩
    case rest =>
     clear HKEEP HI5 BK15 BK25 BK85 HB5 hk0 hk1 hk2 hk3
     obtain ⟨b, rfl, HJ, HKN, HI5, BK15, BK25, BK85, HB5⟩ := hcut
     have hk1 : wc.cell? ⟨gb8, 1, none⟩ = some (.int .i64 (rd_T43 l (i : Int)).f1) := (blk_cell BK85.out 1).trans rfl
     have hk3 : wc.cell? ⟨gb8, 3, none⟩ = some (.slice A3 (rd_T43 l (i : Int)).f3.length c3) := (blk_cell BK85.out 3).trans rfl
     cases b with
     | true =>
      obtain ⟨q1, hj⟩ := HJ.out rfl
      unfold rnKeepJoin at hj
      rw [HKJ.out] at hj
      simp only [Prod.mk.injEq] at hj
      obtain ⟨rfl, rfl⟩ := hj
      have hd0 : decide (0 ≤ kj) = true := decide_eq_true (by rw [← HKJ.out]; have := HKLN.out; unfold wrap64; omega)
      have hj1 : kj < (ks.length : Int) := by rw [← HKJ.out]; have := HKLN.out; unfold wrap64; omega
      have HKT := am (show ks.length - 1 = kj.toNat by rw [← HKJ.out]; have := HKLN.out; unfold wrap64; omega)
      clear q1
      go_wp2
      have HI6 := am (Inv1.below HI5.out (below_drew (Below.refl _ _)))
      have BK16 := am (blk_drew BK15.out)
      have BK26 := am (blk_drew BK25.out)
      have BK86 := am (blk_drew BK85.out)
      have HB6 := am (below_drew HB5.out)
      obtain ⟨gq, ck, Ab, cb, eK, hK0, hK1, hK2, hK3, hKl, hKC, hKf, hKb, hKX, hKset⟩ := Inv1.keep HI6.out (of_decide_eq_true hd0) hj1
      injection eK with eA _ eC
      subst eA eC
      have HKF := am hKf
      have HKB := am hKb
      have HKX := am hKX
      have HKS := am hKset
      clear hK0 hK2 hK3 hKf hKb hKX hKset hKC hKl
      replace hk1 : wc.drew.cell? ⟨gb8, 1, none⟩ = _ := hk1
      have hp0 : (0 ≤ kj) = True := eq_true (of_decide_eq_true hd0)
      have hp1 : (kj < (ks.length : Int)) = True := eq_true hj1
      have hp2 : decide (kj < (ks.length : Int)) = true := decide_eq_true hj1
      refine start_ (n := 13) (S := fun w' => w'.cell? ⟨gq, kj.toNat * 4 + 1, none⟩ = some (.int .i64 (rd_T43 ks kj).f1) ∧ w'.cell? ⟨gb8, 1, none⟩ = some (.int .i64 (rd_T43 l (i : Int)).f1)) (ds := [12]) #[false, false, false, false, false, false, false, false, false, false, false, false, false] (by kernel_rfl) rfl rfl ⟨hK1, hk1⟩ (fun hHeld => ?_); refine with_tabW blotterref03_Normal.tab14 blotterref03_Normal.bits14 (fun HT_ HW_ => ?_)
      generalize wc.drew = w6 at HI6 BK16 BK26 BK86 HB6 HKS HKF hK1 hk1 hHeld ⊢
      refine pu 0 71 HT_ ?_
      refine pu 1 72 HT_ ?_
      refine pu 2 73 HT_ ?_
      refine pu 3 74 HT_ ?_
      refine pu 4 75 HT_ ?_
      refine pu 5 76 HT_ ?_
      refine tk 6 77 HT_ HW_ hHeld ?_
      refine pu 7 78 HT_ ?_
      refine tk 8 79 HT_ HW_ hHeld ?_
      refine pu 9 80 HT_ ?_
      refine pu 10 81 HT_ ?_
      refine pu 11 82 HT_ ?_
      refine last_ (i := 12) (N := none) #[true, true, true, true, true, true, true, true, true, true, true, true, true] rfl rfl (one_of HT_.out (by kernel_rfl)) (by decide) (fun K hK => ?_)
      have hff := HKF.out (kj.toNat * 4 + 1)
      refine skip_ (w1 := ?_) (by rfl) rfl ?_ ?_
      rotate_left
      ·go_simp
       rfl
      refine hK.out _ _ ?_
      clear hK K
      refine done_ (done_of HT_.out (by kernel_rfl)) ?_
      try go_wp2
      clear hK1 hk1 hk3
      have NG1 := am (fun e : gb1 = gq => HKX.out (.inl (.inl e.symm)))
      have NG2 := am (fun e : gb2 = gq => HKX.out (.inl (.inr e.symm)))
      go_roundg (gk - 1)
      case measure => have := HKI.out; omega
      case rel => exact ⟨i + 1, g, cap, _, (some ⟨gq, 0, none⟩), cK, (ks.set (ks.length - 1) ⟨(rd_T43 ks kj).f0, wrap64 ((rd_T43 ks kj).f1 + (rd_T43 l (i : Int)).f1), (rd_T43 ks kj).f2, (rd_T43 ks kj).f3⟩), by first | rfl | (simp; done), by first | rfl | (simp; done), by (have h_ : wrap64 ((i : Int) + 1) = ((i + 1 : Nat) : Int) := (by have := HLM.out; unfold wrap64; omega); first | rw [h_] | rw [i64_w, h_] | go_num), ⟨by have := HKI.out; omega⟩, ⟨by have := HM.out; first | omega | (simp; done) | (simp; omega)⟩, ⟨HG1.out⟩, ⟨Inv1.drop (Y := (fun k => (k = gb1 ∨ k = gb2) ∨ k = gb8)) (by rw [List.length_set, HKT.out]; exact HKS.out _) (fun k h => Or.inl h)⟩, ⟨blk_far BK16.out NG1.out _⟩, ⟨blk_far BK26.out NG2.out _⟩, ⟨below_set HB6.out HKB.out⟩⟩
     | false =>
      have hn := HKN.out rfl
      unfold rnKeepNew at hn
      have hb1 : (rd_T43 l (i : Int)).f3.length < 4398046511104 := by by_cases h : (rd_T43 l (i : Int)).f3.length < 4398046511104; exact h; rw [if_neg h] at hn; cases hn
      rw [if_pos hb1] at hn
      have hb2 : ks.length < 2513169434916 := by by_cases h : ks.length < 2513169434916; exact h; rw [if_neg h] at hn; cases hn
      rw [if_pos hb2] at hn
      have hb3 : gs.length < 4398046511104 := by by_cases h : gs.length < 4398046511104; exact h; rw [if_neg h] at hn; cases hn
      rw [if_pos hb3] at hn
      simp only [Option.some.injEq, Prod.mk.injEq] at hn
      obtain ⟨rfl, rfl⟩ := hn
      have HB2 := am hb2
      have HB3 := am hb3
      have HCP := am (show blotterref03_copied.f (rd_T43 l (i : Int)).f3 = some (rd_T43 l (i : Int)).f3 by unfold blotterref03_copied.f; simp only [Option.bind_some, List.length_nil, List.nil_append]; rw [if_pos (by omega)])
      clear hb1 hb2 hb3
      go_wp2
      have HI6 := am (Inv1.below HI5.out (below_drew (Below.refl _ _)))
      have BK16 := am (blk_drew BK15.out)
      have BK26 := am (blk_drew BK25.out)
      have BK86 := am (blk_drew BK85.out)
      have HB6 := am (below_drew HB5.out)
      replace hk1 : wc.drew.cell? ⟨gb8, 1, none⟩ = _ := hk1
      replace hk3 : wc.drew.cell? ⟨gb8, 3, none⟩ = _ := hk3
      refine start_ (n := 10) (S := fun w' => w'.cell? ⟨gb8, 1, none⟩ = some (.int .i64 (rd_T43 l (i : Int)).f1) ∧ w'.cell? ⟨gb8, 3, none⟩ = some (.slice A3 (rd_T43 l (i : Int)).f3.length c3)) (ds := []) #[false, false, false, false, false, false, false, false, false, false] (by kernel_rfl) rfl rfl ⟨hk1, hk3⟩ (fun hHeld => ?_); refine with_tabW blotterref03_Normal.tab15 blotterref03_Normal.bits15 (fun HT_ HW_ => ?_)
      generalize wc.drew = w6 at HI6 BK16 BK26 BK86 HB6 hk1 hk3 hHeld ⊢; obtain ⟨hK1_, hK3_⟩ := id hHeld
      refine pu 0 83 HT_ ?_
      refine pu 1 84 HT_ ?_
      refine tk 2 85 HT_ HW_ hHeld ?_
      refine pu 3 86 HT_ ?_
      refine tk 4 87 HT_ HW_ hHeld ?_
      refine one_ (i := 5) (N := some 88) #[true, true, true, true, true, true, false, false, false, false] rfl rfl (one_of HT_.out (by kernel_rfl)) (by decide) (fun K hK => ?_)
      refine goes_ Tryd.func56 (by kernel_rfl) rfl #[.slice A3 (rd_T43 l (i : Int)).f3.length c3] (by rfl) rfl rfl (by (try simp only [List.map_toArray, List.map_cons, List.map_nil]); first | done | rfl) ?_
      refine (blotterref03_copied.calls _ _ (rd_T43 l (i : Int)).f3 (rd_T43 l (i : Int)).f3 _ (Kd.C_below HR3.out HB6.out) HC3.out HCP.out).mono ?_
      rintro e w7 ⟨va, rfl, hR, hb⟩
      refine ⟨_, rfl, ?_⟩
      obtain ⟨Aa, ca, rfl⟩ := Kd.R_slice hR
      have HR7 := am hR
      have HB7 := am hb
      clear hR hb
      refine hK.out _ _ ⟨pw_cell_below HB7.out hHeld.1, pw_cell_below HB7.out hHeld.2⟩ (fun hHeld => ?_)
      clear hK K
      refine norm_ (a' := ?_) ?_ ?_
      rotate_left
      ·show Act.put _ (some 88) _ = _
       simp only [Act.put, List.setIfInBounds_toArray, List.set_cons_zero, List.set_cons_succ, i64_w, i32_w]
       rfl
      refine pu 6 89 HT_ ?_
      refine one_ (i := 7) (N := some 90) #[true, true, true, true, true, true, true, true, false, false] rfl rfl (one_of HT_.out (by kernel_rfl)) (by decide) (fun K hK => ?_)
      refine value_ (w1 := ?_) (v := ?_) (by rfl) rfl ?_ ?_
      rotate_left 2
      ·go_simp
       constructor
       ·rfl
       rfl
      refine hK.out _ _ ⟨pw_cell_below (below_alloc (Below.refl _ _) _) hHeld.1, pw_cell_below (below_alloc (Below.refl _ _) _) hHeld.2⟩ (fun hHeld => ?_)
      clear hK K
      refine norm_ (a' := ?_) ?_ ?_
      rotate_left
      ·show Act.put _ (some 90) _ = _
       simp only [Act.put, List.setIfInBounds_toArray, List.set_cons_zero, List.set_cons_succ, i64_w, i32_w]
       rfl
      refine one_ (i := 8) (N := some 91) #[true, true, true, true, true, true, true, true, true, false] rfl rfl (one_of HT_.out (by kernel_rfl)) (by decide) (fun K hK => ?_)
      obtain ⟨okK, hokf, hXK, hRK, hcK⟩ := Inv1.grewK HI6.out HB6.out.size HB7.out
      refine Kd.R_append_step k43 (w0 := w) w.heap.size (by rfl) (.tmp 83) (.tmp 90) 24 43 (.agg #[(.int .i64 0), (.int .i64 0), (.string ⟨#[]⟩), (.slice none 0 0)]) 56 rfl Tryd.underlying24 info43 rfl (by decide) (by omega) (.slice AK ks.length cK) ks (⟨1, (rd_T43 l (i : Int)).f1, ⟨#[]⟩, (rd_T43 l (i : Int)).f3⟩ : S43) [.int .i64 1, .int .i64 (rd_T43 l (i : Int)).f1, .string ⟨#[]⟩, .slice Aa (rd_T43 l (i : Int)).f3.length ca] okK (fun k => w6.heap.size ≤ k) rfl rfl ?aP hokf (fun k hk => (hokf k (Nat.le_trans HB7.out.size hk)).1) hRK (below_step HB6.out HB7.out) (below_step HB6.out HB7.out).size ?aL ?_
      (case aP => exact k43_mkM _ _ _ (⟨1, (rd_T43 l (i : Int)).f1, ⟨#[]⟩, (rd_T43 l (i : Int)).f3⟩ : S43) (Kd.R_lower (Kd.R_mono (Kd.R_bound HR7.out) (fun k hk => hk.2.1)) HB6.out.size))
      (case aL => have := HB2.out; omega)
      intro v1 w8 ho hb8 hg hat
      have HI8 := am (hcK w8 v1 _ hg ho)
      have BK18 := am (blk_grown (blk_below BK16.out HB7.out) hg (hXK gb1 (.inl (.inl rfl))))
      have BK28 := am (blk_grown (blk_below BK26.out HB7.out) hg (hXK gb2 (.inl (.inr rfl))))
      have HB8 := am hb8
      have hc1 := hg.cell (pw_cell_below HB7.out hK1_) (hXK gb8 (.inr rfl))
      have hc3 := hg.cell (pw_cell_below HB7.out hK3_) (hXK gb8 (.inr rfl))
      obtain ⟨A1, c1, e1⟩ := Kd.R_slice ho
      subst e1
      refine hK.out _ _ ⟨hc1, hc3⟩ (fun hHeld => ?_)
      clear ho hb8 hg hat hokf hXK hRK hcK hc1 hc3
      clear hK K
      refine norm_ (a' := ?_) ?_ ?_
      rotate_left
      ·show Act.put _ (some 91) _ = _
       simp only [Act.put, List.setIfInBounds_toArray, List.set_cons_zero, List.set_cons_succ, i64_w, i32_w]
       rfl
      refine pu 9 6 HT_ ?_
      refine done_ (done_of HT_.out (by kernel_rfl)) ?_
      clear hk1 hk3 hK1_ hK3_
      go_wp2_with (first | (at_builtin; obtain ⟨okG, hfG, hgX, hSG, hcG⟩ := Inv1.grewG HI8.out HB8.out.size; refine Kd.S_append k73 (w0 := w) w.heap.size rfl (.tmp 92) (.tmp 94) 74 73 (.agg #[(.slice none 0 0), (.int .i64 0)]) 32 rfl Tryd.underlying74 info73 rfl (by decide) (by omega) (.slice (some ⟨g, 0, none⟩) gs.length cap) gs (⟨[], 0⟩ : S73) [.slice none 0 0, .int .i64 0] okG (fun _ => False) rfl rfl (k73_mkM _ _ _ (⟨[], 0⟩ : S73) (Kd.R_nil _ _ _ _ _)) (fun k h => h.elim) hfG hSG HB8.out HB8.out.size (by have := HB3.out; omega) ?_; intro v9 w9 ho hb9 hg hat; obtain ⟨g9, cap9, rfl, hI9⟩ := hcG w9 v9 _ (by simp) hg ho; have HI9 := am hI9; have BK19 := am (blk_grown BK18.out hg (fun e => hgX (.inl (.inl (Option.some.inj e).symm)))); have BK29 := am (blk_grown BK28.out hg (fun e => hgX (.inl (.inr (Option.some.inj e).symm)))); have HB9 := am hb9; clear ho hb9 hg hat hI9 hfG hgX hSG hcG))
      go_roundg (gk - 1)
      case measure => have := HKI.out; omega
      case rel => exact ⟨i + 1, g9, cap9, (gs ++ [⟨[], 0⟩]), A1, c1, _, by first | rfl | (simp; done), by first | rfl | (simp; done), by (have h_ : wrap64 ((i : Int) + 1) = ((i + 1 : Nat) : Int) := (by have := HLM.out; unfold wrap64; omega); first | rw [h_] | rw [i64_w, h_] | go_num), ⟨by have := HKI.out; omega⟩, ⟨by have := HM.out; first | omega | (simp; done) | (simp; omega)⟩, ⟨HG1.out⟩, ⟨Inv1.drop HI9.out (fun k h => Or.inl h)⟩, ⟨BK19.out⟩, ⟨BK29.out⟩, ⟨HB9.out⟩⟩
   have hg0 := HG.out
   rw [List.drop_of_length_le (by omega)] at hg0
   simp only [rnGo, Option.some.injEq, Prod.mk.injEq] at hg0
   obtain ⟨rfl, rfl⟩ := hg0
   have hcz0 : wr.cell? ⟨gb1, 0, none⟩ = some (.int .i64 a0) := (blk_cell BK1.out 0).trans rfl
   go_wp2
   generalize hg : wr.heap.size = gb11
   have hbx : Below wr.heap.size wr (wr.alloc (.cells #[.int .i64 a0, .slice none 0 0] 26 (0, 0))) := below_alloc (Below.refl _ _) _
   have BK11 := am (show (wr.alloc (.cells #[.int .i64 a0, .slice none 0 0] 26 (0, 0))).heap[gb11]? = some (.cells #[.int .i64 a0, .slice none 0 0] 26 (0, 0)) from by rw [← hg]; exact blk_new wr _)
   have HB5 := am (below_step HB.out hbx)
   have BK25 := am (blk_below BK2.out hbx)
   have HI5 := am (Inv1.avoid HI.out hbx hg.symm BK11.out)
   have G11 := am (show w.heap.size ≤ gb11 from by rw [← hg]; exact HB.out.size)
   have N211 := am (show gb2 ≠ gb11 from by rw [← hg]; exact Nat.ne_of_lt (blk_lt BK2.out))
   clear hg hbx hcz0 hcz1
   go_loopg [12] gs.length (fun kq v12 w' => ∃ (i : Nat) (AO : Option Addr) (cO : Nat) (out : List S43), v12 = .int .i64 (i : Int) ∧ Aside0 (kq + i = gs.length) ∧ Aside0 (rnOut gs ks kq i out = some outF) ∧ Aside0 (Inv2 (fun k => k = gb2 ∨ k = gb11) w.heap.size w' g cap gs (.slice AK ks.length cK) ks (.slice AO out.length cO) out) ∧ Aside0 (w'.heap[gb2]? = some (.cells #[.int .i64 0, .slice none 0 0] 26 (0, 0))) ∧ Aside0 (w'.heap[gb11]? = some (.cells #[.int .i64 a0, .slice AO out.length cO] 26 (0, 0))) ∧ Aside0 (Below w.heap.size w w'))
   case atStart => exact ⟨0, none, 0, [], rfl, ⟨rfl⟩, ⟨HOUT.out⟩, ⟨Inv1.two (Inv1.drop HI5.out (fun k h => h.elim (fun e => Or.inl (Or.inr e)) Or.inr))⟩, ⟨BK25.out⟩, ⟨BK11.out⟩, ⟨HB5.out⟩⟩
   case round =>
    clear BK25 HI5 HI BK1 BK2 BK11 HB HB5 HKI HG hlt
    obtain ⟨i, AO, cO, out, rfl, HKI, HO, HI, BK2, BK11, HB⟩ := hrel
    by_cases hlt : i < gs.length
    ·obtain ⟨d, hd⟩ : ∃ d, gk = d + 1 := ⟨gk - 1, by have := HKI.out; omega⟩
     subst hd
     have ho := HO.out
     unfold rnOut at ho
     obtain ⟨o1, hs1, ho2⟩ := Option.bind_eq_some_iff.1 ho
     unfold rnOutStep at hs1
     generalize hgd : gs.getD i z73 = gd at hs1
     have HGD := am hgd
     clear hgd
     have hb1 : out.length + gd.f0.length + 3 < 2513169434916 := by by_cases h : out.length + gd.f0.length + 3 < 2513169434916; exact h; rw [if_neg h] at hs1; cases hs1
     rw [if_pos hb1] at hs1
     have hb2 : i < ks.length + 1 := by by_cases h : i < ks.length + 1; exact h; rw [if_neg h] at hs1; cases hs1
     rw [if_pos hb2] at hs1
     have HS1 := am (Option.some.inj hs1)
     have HO2 := am ho2
     have HLN0 := am hb1
     have HIK := am hb2
     have HLT := am hlt
     clear ho hs1 ho2 hb1 hb2
     go_upto_if 126 with (fail)
     go_cut [] (fun wc => ∃ (AO1 : Option Addr) (cO1 : Nat) (out1 : List S43), Aside0 (out1 = out ++ (if 0 < i then [rd_T43 ks ((i : Int) - 1)] else [])) ∧ Aside0 (Inv2 (fun k => k = gb2 ∨ k = gb11) w.heap.size wc g cap gs (.slice AK ks.length cK) ks (.slice AO1 out1.length cO1) out1) ∧ Aside0 (wc.heap[gb2]? = some (.cells #[.int .i64 0, .slice none 0 0] 26 (0, 0))) ∧ Aside0 (wc.heap[gb11]? = some (.cells #[.int .i64 a0, .slice AO1 out1.length cO1] 26 (0, 0))) ∧ Aside0 (Below w.heap.size w wc))
     case first =>
      by_cases q : 0 < i
      ·have hq : decide ((0 : Int) < (i : Int)) = true := decide_eq_true (by omega)
       have HQ := am q
       have HLN := am (show out.length < 2513169434916 by have := HLN0.out; omega)
       try go_wp2
       obtain ⟨kj, hkj⟩ : ∃ j_ : Int, wrap64 ((i : Int) - 1) = j_ := ⟨_, rfl⟩
       have hkjw : IntKind.i64.wrap ((i : Int) - 1) = kj := (i64_w _).trans hkj
       have hkn : kj = (i : Int) - 1 := by rw [← hkj]; have := HI.out.lens; have := HLT.out; unfold wrap64; omega
       have HKN := am hkn
       have hk0 : 0 ≤ kj := by omega
       have hk1 : kj < (ks.length : Int) := by have := HIK.out; omega
       clear hkj hkn
       have HI6 := am (Inv2.below HI.out (below_drew (Below.refl _ _)))
       have BK26 := am (blk_drew BK2.out)
       have BK116 := am (blk_drew BK11.out)
       have HB6 := am (below_drew HB.out)
       have ho1 : wr.drew.cell? ⟨gb11, 1, none⟩ = some (.slice AO out.length cO) := (blk_cell BK116.out 1).trans rfl
       obtain ⟨gq, ck, Ab, cb, eK, hK0, hK1, hK2, hK3⟩ := Inv2.keep HI6.out hk0 hk1
       injection eK with eA _ eC
       subst eA eC
       have hp0 : (0 ≤ kj) = True := eq_true hk0
       have hp1 : (kj < (ks.length : Int)) = True := eq_true hk1
       have hp2 : decide (0 ≤ kj) = true := decide_eq_true hk0
       have hp3 : decide (kj < (ks.length : Int)) = true := decide_eq_true hk1
       refine start_ (n := 11) (S := fun w' => w'.cell? ⟨gb11, 1, none⟩ = some (.slice AO out.length cO) ∧ w'.cell? ⟨gq, kj.toNat * 4, none⟩ = some (.int .i64 (rd_T43 ks kj).f0) ∧ w'.cell? ⟨gq, kj.toNat * 4 + 1, none⟩ = some (.int .i64 (rd_T43 ks kj).f1) ∧ w'.cell? ⟨gq, kj.toNat * 4 + 2, none⟩ = some (.string (rd_T43 ks kj).f2) ∧ w'.cell? ⟨gq, kj.toNat * 4 + 3, none⟩ = some (.slice Ab (rd_T43 ks kj).f3.length cb)) (ds := [8, 10]) #[false, false, false, false, false, false, false, false, false, false, false] (by kernel_rfl) rfl rfl ⟨ho1, hK0, hK1, hK2, hK3⟩ (fun hHeld => ?_); refine with_tabW blotterref03_Normal.tab26 blotterref03_Normal.bits26 (fun HT_ HW_ => ?_)
       generalize wr.drew = w6 at HI6 BK26 BK116 HB6 ho1 hK0 hK1 hK2 hK3 hHeld ⊢
       refine pu 0 127 HT_ ?_
       refine tk 1 128 HT_ HW_ hHeld ?_
       refine pu 2 129 HT_ ?_
       refine pu 3 130 HT_ ?_
       refine pu 4 131 HT_ ?_
       refine pu 5 132 HT_ ?_
       refine tk 6 133 HT_ HW_ hHeld ?_
       refine one_ (i := 7) (N := some 134) #[true, true, true, true, true, true, true, true, false, false, false] rfl rfl (one_of HT_.out (by kernel_rfl)) (by decide) (fun K hK => ?_)
       have HK3 := am hHeld.2.2.2.2
       refine value_ (w1 := ?_) (v := ?_) (by rfl) rfl ?_ ?_
       rotate_left 2
       ·go_simp
        constructor
        ·rfl
        rfl
       refine hK.out _ _ ⟨pw_cell_below (below_alloc (Below.refl _ _) _) hHeld.1, pw_cell_below (below_alloc (Below.refl _ _) _) hHeld.2.1, pw_cell_below (below_alloc (Below.refl _ _) _) hHeld.2.2.1, pw_cell_below (below_alloc (Below.refl _ _) _) hHeld.2.2.2.1, pw_cell_below (below_alloc (Below.refl _ _) _) hHeld.2.2.2.2⟩ (fun hHeld => ?_)
       clear hK K
       refine norm_ (a' := ?_) ?_ ?_
       rotate_left
       ·show Act.put _ (some 134) _ = _
        simp only [Act.put, List.setIfInBounds_toArray, List.set_cons_zero, List.set_cons_succ, i64_w, i32_w]
        rfl
       refine last_ (i := 8) (N := some 135) #[true, true, true, true, true, true, true, true, true, false, false] rfl rfl (one_of HT_.out (by kernel_rfl)) (by decide) (fun K hK => ?_)
       obtain ⟨okO, okp, hfO, hokp, hXO, hRO, hkM, hgM, hcO⟩ := Inv2.grew HI6.out HB6.out.size
       refine Kd.R_append_step k43 (w0 := w) w.heap.size (by rfl) (.tmp 128) (.tmp 134) 24 43 (.agg #[(.int .i64 0), (.int .i64 0), (.string ⟨#[]⟩), (.slice none 0 0)]) 56 rfl Tryd.underlying24 info43 rfl (by decide) (by omega) (.slice AO out.length cO) out (rd_T43 ks kj) [.int .i64 (rd_T43 ks kj).f0, .int .i64 (rd_T43 ks kj).f1, .string (rd_T43 ks kj).f2, .slice Ab (rd_T43 ks kj).f3.length cb] okO okp rfl rfl (hkM kj Ab cb hk0 hk1 (fun gk' ck' e => by injection e with e _ _; injection e with e; injection e with e _ _; subst e; exact HK3.out)) hokp hfO hRO HB6.out HB6.out.size (by have := HLN.out; omega) ?_
       intro v1 w8 ho hb8 hg hat
       have HI8 := am (hcO w8 v1 _ hg hat ho)
       have BK28 := am (blk_grown BK26.out hg (hXO gb2 (.inl rfl)))
       have BK118 := am (blk_grown BK116.out hg (hXO gb11 (.inr rfl)))
       have HB8 := am hb8
       obtain ⟨A1, c1, e1⟩ := Kd.R_slice ho
       subst e1
       have hs1 : w8.cell? ⟨gb11, 1, none⟩ = some (.slice AO out.length cO) := (blk_cell BK118.out 1).trans rfl
       have hsf := blk_frozen BK118.out 1
       refine hK.out _ _ ?_
       clear ho hb8 hg hat hfO hokp hXO hRO hkM hgM hcO
       clear hK K
       refine norm_ (a' := ?_) ?_ ?_
       rotate_left
       ·show Act.put _ (some 135) _ = _
        simp only [Act.put, List.setIfInBounds_toArray, List.set_cons_zero, List.set_cons_succ, i64_w, i32_w]
        rfl
       refine pu 9 136 HT_ ?_
       refine last_ (i := 10) (N := none) #[true, true, true, true, true, true, true, true, true, true, true] rfl rfl (one_of HT_.out (by kernel_rfl)) (by decide) (fun K hK => ?_)
       refine skip_ (w1 := ?_) (by rfl) rfl ?_ ?_
       rotate_left
       ·go_simp
        rfl
       refine hK.out _ _ ?_
       clear hK K
       refine done_ (done_of HT_.out (by kernel_rfl)) ?_
       try go_wp2
       go_meet
       case rel => exact ⟨A1, c1, _, ⟨by rw [if_pos HQ.out, HKN.out]⟩, ⟨Inv2.far (p := ⟨gb11, 1, none⟩) HI8.out (.inr rfl) _⟩, ⟨blk_far BK28.out N211.out _⟩, ⟨blk_put (cs := #[.int .i64 a0, .slice AO out.length cO]) BK118.out 1 _ (by first | rfl | simp)⟩, ⟨below_set HB8.out G11.out⟩⟩
      obtain rfl : i = 0 := by omega
      have HQ := am q
      clear q
      try go_wp2
      go_meet
      case rel => exact ⟨AO, cO, _, ⟨by rw [if_neg HQ.out, List.append_nil]⟩, ⟨HI.out⟩, ⟨BK2.out⟩, ⟨BK11.out⟩, ⟨HB.out⟩⟩
     case rest =>
      clear HI BK2 BK11 HB
      obtain ⟨AO1, cO1, out1, HEQ, HI, BK2, BK11, HB⟩ := hcut
      have hio : decide ((i : Int) < (gs.length : Int)) = true := decide_eq_true (by have := HLT.out; omega)
      have hp0 : (0 ≤ (i : Int)) = True := eq_true (by omega)
      have hlt : i < gs.length := HLT.out
      have hol : out1.length + gd.f0.length + 2 < 2513169434916 := by have h1 := HLN0.out; have h2 := congrArg List.length HEQ.out; rw [List.length_append] at h2; have h3 : (if 0 < i then [rd_T43 ks ((i : Int) - 1)] else []).length ≤ 1 := (by split <;> simp); omega
      have HLN := am hol
      have HS2 := am (show o1 = out1 ++ gd.f0 ++ rnDel gd.f1 from by rw [HEQ.out, ← HS1.out])
      clear hol HEQ HS1 HLN0 HO
      generalize hAO : AO1 = AO at *
      generalize hcO_ : cO1 = cO at *
      generalize hout : out1 = out at *
      clear hAO hcO_ hout
      try go_wp2
      have HI6 := am (Inv2.below HI.out (below_drew (Below.refl _ _)))
      have BK26 := am (blk_drew BK2.out)
      have BK116 := am (blk_drew BK11.out)
      have HB6 := am (below_drew HB.out)
      have ho1 : wc.drew.cell? ⟨gb11, 1, none⟩ = some (.slice AO out.length cO) := (blk_cell BK116.out 1).trans rfl
      obtain ⟨Ag, cg, hg0, hg1⟩ := Inv2.group HI6.out HLT.out
      rw [HGD.out] at hg0 hg1
      refine start_ (n := 10) (S := fun w' => w'.cell? ⟨gb11, 1, none⟩ = some (.slice AO out.length cO) ∧ w'.cell? ⟨g, i * 2, none⟩ = some (.slice Ag gd.f0.length cg)) (ds := [7, 9]) #[false, false, false, false, false, false, false, false, false, false] (by kernel_rfl) rfl rfl ⟨ho1, hg0⟩ (fun hHeld => ?_); refine with_tabW blotterref03_Normal.tab27 blotterref03_Normal.bits27 (fun HT_ HW_ => ?_)
      generalize wc.drew = w6 at HI6 BK26 BK116 HB6 ho1 hg0 hg1 hHeld ⊢
      refine pu 0 137 HT_ ?_
      refine tk 1 138 HT_ HW_ hHeld ?_
      refine pu 2 139 HT_ ?_
      refine pu 3 140 HT_ ?_
      refine pu 4 141 HT_ ?_
      refine pu 5 142 HT_ ?_
      refine tk 6 143 HT_ HW_ hHeld ?_
      refine last_ (i := 7) (N := some 144) #[true, true, true, true, true, true, true, true, false, false] rfl rfl (one_of HT_.out (by kernel_rfl)) (by decide) (fun K hK => ?_)
      have HG0 := am hHeld.2
      obtain ⟨okO, okp, hfO, hokp, hXO, hRO, hkM, hgM, hcO⟩ := Inv2.grew HI6.out HB6.out.size
      have hrr := hgM i Ag cg HLT.out
      rw [HGD.out] at hrr
      refine Kd.R_append_rows_step k43 (w0 := w) w.heap.size (by rfl) (.tmp 138) (.tmp 143) 24 43 (.agg #[(.int .i64 0), (.int .i64 0), (.string ⟨#[]⟩), (.slice none 0 0)]) 56 rfl Tryd.underlying24 info43 rfl (by decide) (by omega) (.slice AO out.length cO) out gd.f0 Ag gd.f0.length cg okO okp rfl rfl hRO (hrr HG0.out) (fun _ _ h => h) hokp hfO HB6.out HB6.out.size (by have := HLN.out; omega) ?_
      intro v1 w8 ho hb8 hg hat
      have HI8 := am (hcO w8 v1 _ hg hat ho)
      have BK28 := am (blk_grown BK26.out hg (hXO gb2 (.inl rfl)))
      have BK118 := am (blk_grown BK116.out hg (hXO gb11 (.inr rfl)))
      have HB8 := am hb8
      obtain ⟨A1, c1, e1⟩ := Kd.R_slice ho
      subst e1
      have hs1 : w8.cell? ⟨gb11, 1, none⟩ = some (.slice AO out.length cO) := (blk_cell BK118.out 1).trans rfl
      have hsf := blk_frozen BK118.out 1
      refine hK.out _ _ ?_
      clear ho hb8 hg hat hfO hokp hXO hRO hkM hgM hcO
      clear hK K
      refine norm_ (a' := ?_) ?_ ?_
      rotate_left
      ·show Act.put _ (some 144) _ = _
       simp only [Act.put, List.setIfInBounds_toArray, List.set_cons_zero, List.set_cons_succ, i64_w, i32_w]
       rfl
      refine pu 8 145 HT_ ?_
      refine last_ (i := 9) (N := none) #[true, true, true, true, true, true, true, true, true, true] rfl rfl (one_of HT_.out (by kernel_rfl)) (by decide) (fun K hK => ?_)
      refine skip_ (w1 := ?_) (by rfl) rfl ?_ ?_
      rotate_left
      ·go_simp
       rfl
      refine hK.out _ _ ?_
      clear hK K
      refine done_ (done_of HT_.out (by kernel_rfl)) ?_
      clear hg0 hg1 ho1
      obtain ⟨w5, hw5⟩ : ∃ W, w8.setCell ⟨gb11, 1, none⟩ (.slice A1 (out ++ gd.f0).length c1) = W := ⟨_, rfl⟩
      have HI5 := am (show Inv2 (fun k => k = gb2 ∨ k = gb11) w.heap.size w5 g cap gs (.slice AK ks.length cK) ks (.slice A1 (out ++ gd.f0).length c1) (out ++ gd.f0) from by rw [← hw5]; exact Inv2.far (p := ⟨gb11, 1, none⟩) HI8.out (.inr rfl) _)
      have BK25 := am (show w5.heap[gb2]? = some (.cells #[.int .i64 0, .slice none 0 0] 26 (0, 0)) from by rw [← hw5]; exact blk_far BK28.out N211.out _)
      have BK115 := am (show w5.heap[gb11]? = some (.cells #[.int .i64 a0, .slice A1 (out ++ gd.f0).length c1] 26 (0, 0)) from by rw [← hw5]; exact blk_put (cs := #[.int .i64 a0, .slice AO out.length cO]) BK118.out 1 _ (by first | rfl | simp))
      have HB5 := am (show Below w.heap.size w w5 from by rw [← hw5]; exact below_set HB8.out G11.out)
      simp only [List.length_append] at hw5
      first | rw [hw5] | simp only [hw5, List.length_append]
      obtain ⟨AO, cO, out, HI, BK2, BK11, HB, HS3, HLN3⟩ : ∃ (AO : Option Addr) (cO : Nat) (out : List S43), Aside0 (Inv2 (fun k => k = gb2 ∨ k = gb11) w.heap.size w5 g cap gs (.slice AK ks.length cK) ks (.slice AO out.length cO) out) ∧ Aside0 (w5.heap[gb2]? = some (.cells #[.int .i64 0, .slice none 0 0] 26 (0, 0))) ∧ Aside0 (w5.heap[gb11]? = some (.cells #[.int .i64 a0, .slice AO out.length cO] 26 (0, 0))) ∧ Aside0 (Below w.heap.size w w5) ∧ Aside0 (o1 = out ++ rnDel gd.f1) ∧ Aside0 (out.length + 2 < 2513169434916) := ⟨_, _, _, HI5, BK25, BK115, HB5, HS2, ⟨by have := HLN.out; rw [List.length_append]; exact this⟩⟩
      clear HI5 BK25 BK115 HB5 HS2 HLN hw5 HI6 BK26 BK116 HB6 HI8 BK28 BK118 HB8 hs1 hsf hHeld HG0 hrr HT_ HW_
      obtain ⟨Ag, cg, hg0, hg1⟩ := Inv2.group HI.out HLT.out
      rw [HGD.out] at hg0 hg1
      by_cases q : 0 < gd.f1
      ·have hq : decide ((0 : Int) < gd.f1) = true := decide_eq_true q
       have HLN := am (show out.length < 2513169434916 by have := HLN3.out; omega)
       have HDE := am (show rnDel gd.f1 = [⟨3, gd.f1, ⟨#[]⟩, []⟩] from by unfold rnDel; rw [if_pos q])
       clear q
       go_wp2
       have HI6 := am (Inv2.below HI.out (below_drew (Below.refl _ _)))
       have BK26 := am (blk_drew BK2.out)
       have BK116 := am (blk_drew BK11.out)
       have HB6 := am (below_drew HB.out)
       have ho1 : w5.drew.cell? ⟨gb11, 1, none⟩ = some (.slice AO out.length cO) := (blk_cell BK116.out 1).trans rfl
       replace hg1 : w5.drew.cell? ⟨g, i * 2 + 1, none⟩ = _ := hg1
       clear hg0
       refine start_ (n := 12) (S := fun w' => w'.cell? ⟨gb11, 1, none⟩ = some (.slice AO out.length cO) ∧ w'.cell? ⟨g, i * 2 + 1, none⟩ = some (.int .i64 gd.f1)) (ds := [9, 11]) #[false, false, false, false, false, false, false, false, false, false, false, false] (by kernel_rfl) rfl rfl ⟨ho1, hg1⟩ (fun hHeld => ?_); refine with_tabW blotterref03_Normal.tab29 blotterref03_Normal.bits29 (fun HT_ HW_ => ?_)
       generalize w5.drew = w6 at HI6 BK26 BK116 HB6 ho1 hg1 hHeld ⊢
       refine pu 0 152 HT_ ?_
       refine tk 1 153 HT_ HW_ hHeld ?_
       refine pu 2 154 HT_ ?_
       refine pu 3 155 HT_ ?_
       refine pu 4 156 HT_ ?_
       refine pu 5 157 HT_ ?_
       refine tk 6 158 HT_ HW_ hHeld ?_
       refine pu 7 159 HT_ ?_
       refine one_ (i := 8) (N := some 160) #[true, true, true, true, true, true, true, true, true, false, false, false] rfl rfl (one_of HT_.out (by kernel_rfl)) (by decide) (fun K hK => ?_)
       refine value_ (w1 := ?_) (v := ?_) (by rfl) rfl ?_ ?_
       rotate_left 2
       ·go_simp
        constructor
        ·rfl
        rfl
       refine hK.out _ _ ⟨pw_cell_below (below_alloc (Below.refl _ _) _) hHeld.1, pw_cell_below (below_alloc (Below.refl _ _) _) hHeld.2⟩ (fun hHeld => ?_)
       clear hK K
       refine norm_ (a' := ?_) ?_ ?_
       rotate_left
       ·show Act.put _ (some 160) _ = _
        simp only [Act.put, List.setIfInBounds_toArray, List.set_cons_zero, List.set_cons_succ, i64_w, i32_w]
        rfl
       refine last_ (i := 9) (N := some 161) #[true, true, true, true, true, true, true, true, true, true, false, false] rfl rfl (one_of HT_.out (by kernel_rfl)) (by decide) (fun K hK => ?_)
       obtain ⟨okO, okp, hfO, hokp, hXO, hRO, hkM, hgM, hcO⟩ := Inv2.grew HI6.out HB6.out.size
       refine Kd.R_append_step k43 (w0 := w) w.heap.size (by rfl) (.tmp 153) (.tmp 160) 24 43 (.agg #[(.int .i64 0), (.int .i64 0), (.string ⟨#[]⟩), (.slice none 0 0)]) 56 rfl Tryd.underlying24 info43 rfl (by decide) (by omega) (.slice AO out.length cO) out (⟨3, gd.f1, ⟨#[]⟩, []⟩ : S43) [.int .i64 3, .int .i64 gd.f1, .string ⟨#[]⟩, .slice none 0 0] okO okp rfl rfl (k43_mkM _ _ _ (⟨3, gd.f1, ⟨#[]⟩, []⟩ : S43) (Kd.R_nil _ _ _ _ _)) hokp hfO hRO HB6.out HB6.out.size (by have := HLN.out; omega) ?_
       intro v1 w8 ho hb8 hg hat
       have HI8 := am (hcO w8 v1 _ hg hat ho)
       have BK28 := am (blk_grown BK26.out hg (hXO gb2 (.inl rfl)))
       have BK118 := am (blk_grown BK116.out hg (hXO gb11 (.inr rfl)))
       have HB8 := am hb8
       obtain ⟨A1, c1, e1⟩ := Kd.R_slice ho
       subst e1
       have hs1 : w8.cell? ⟨gb11, 1, none⟩ = some (.slice AO out.length cO) := (blk_cell BK118.out 1).trans rfl
       have hsf := blk_frozen BK118.out 1
       refine hK.out _ _ ?_
       clear ho hb8 hg hat hfO hokp hXO hRO hkM hgM hcO
       clear hK K
       refine norm_ (a' := ?_) ?_ ?_
       rotate_left
       ·show Act.put _ (some 161) _ = _
        simp only [Act.put, List.setIfInBounds_toArray, List.set_cons_zero, List.set_cons_succ, i64_w, i32_w]
        rfl
       refine pu 10 162 HT_ ?_
       refine last_ (i := 11) (N := none) #[true, true, true, true, true, true, true, true, true, true, true, true] rfl rfl (one_of HT_.out (by kernel_rfl)) (by decide) (fun K hK => ?_)
       refine skip_ (w1 := ?_) (by rfl) rfl ?_ ?_
       rotate_left
       ·go_simp
        rfl
       refine hK.out _ _ ?_
       clear hK K
       refine done_ (done_of HT_.out (by kernel_rfl)) ?_
       try go_wp2
       go_roundg d
       case measure => omega
       case rel => exact ⟨i + 1, A1, c1, _, by (have h_ : wrap64 ((i : Int) + 1) = ((i + 1 : Nat) : Int) := (by have := HI.out.lens.2.1; have := HLT.out; unfold wrap64; omega); first | rw [h_] | rw [i64_w, h_] | go_num), ⟨by have := HKI.out; omega⟩, ⟨by have h_ := HO2.out; rw [HS3.out, HDE.out] at h_; exact h_⟩, ⟨Inv2.far (p := ⟨gb11, 1, none⟩) HI8.out (.inr rfl) _⟩, ⟨blk_far BK28.out N211.out _⟩, ⟨blk_put (cs := #[.int .i64 a0, .slice AO out.length cO]) BK118.out 1 _ (by first | rfl | simp)⟩, ⟨below_set HB8.out G11.out⟩⟩
      have hq : decide ((0 : Int) < gd.f1) = false := decide_eq_false q
      have HDE := am (show rnDel gd.f1 = [] from by unfold rnDel; rw [if_neg q])
      clear q
      try go_wp2
      go_roundg d
      case measure => omega
      case rel => exact ⟨i + 1, AO, cO, out, by (have h_ : wrap64 ((i : Int) + 1) = ((i + 1 : Nat) : Int) := (by have := HI.out.lens.2.1; have := HLT.out; unfold wrap64; omega); first | rw [h_] | rw [i64_w, h_] | go_num), ⟨by have := HKI.out; omega⟩, ⟨by have h_ := HO2.out; rw [HS3.out, HDE.out, List.append_nil] at h_; exact h_⟩, ⟨HI.out⟩, ⟨BK2.out⟩, ⟨BK11.out⟩, ⟨HB.out⟩⟩
    obtain rfl : gk = 0 := by have := HKI.out; omega
    have ho := HO.out
    simp only [rnOut, Option.some.injEq] at ho
    subst ho
    have hio : decide ((i : Int) < (gs.length : Int)) = false := decide_eq_false (by omega)
    clear HO HOUT
    have ho0 : wr.cell? ⟨gb11, 0, none⟩ = some (.int .i64 a0) := (blk_cell BK11.out 0).trans rfl
    have ho1 : wr.cell? ⟨gb11, 1, none⟩ = some (.slice AO out.length cO) := (blk_cell BK11.out 1).trans rfl
    have hof := blk_frozen BK11.out 1
    have h20 : wr.cell? ⟨gb2, 0, none⟩ = some (.int .i64 0) := (blk_cell BK2.out 0).trans rfl
    have h21 : wr.cell? ⟨gb2, 1, none⟩ = some (.slice none 0 0) := (blk_cell BK2.out 1).trans rfl
    have hf20 := blk_frozen BK2.out 0
    have hf21 := blk_frozen BK2.out 1
    have hnb := N211.out
    have hnc := Ne.symm N211.out
    obtain ⟨ji, hji⟩ : ∃ j_ : Int, wrap64 ((out.length : Int) - 1) = j_ := ⟨_, rfl⟩
    have hjw : IntKind.i64.wrap ((out.length : Int) - 1) = ji := (i64_w _).trans hji
    have HJI := am hji
    have HOL := am HI.out.lens.1
    clear hji
    by_cases q1 : 0 < out.length
    ·have hgt : decide ((0 : Int) < (out.length : Int)) = true := decide_eq_true (by omega)
     have hgt2 : decide (0 < out.length) = true := decide_eq_true q1
     have hj0 : 0 ≤ ji := by rw [← HJI.out]; have := HOL.out; unfold wrap64; omega
     have hj1 : ji < (out.length : Int) := by rw [← HJI.out]; have := HOL.out; unfold wrap64; omega
     have HJT := am (show ji.toNat = out.length - 1 by rw [← HJI.out]; have := HOL.out; unfold wrap64; omega)
     obtain ⟨gq, ck, Ab, cb, eO, hK0, hK3⟩ := Inv2.elem HI.out hj0 hj1
     injection eO with eA _ eC
     subst eA eC
     have hp0 : (0 ≤ ji) = True := eq_true hj0
     have hp1 : (ji < (out.length : Int)) = True := eq_true hj1
     have hp2 : decide (0 ≤ ji) = true := decide_eq_true hj0
     have hp3 : decide (ji < (out.length : Int)) = true := decide_eq_true hj1
     by_cases q2 : (rd_T43 out ji).f0 = 1
     ·have e2 : ((rd_T43 out ji).f0 == 1) = true := beq_iff_eq.mpr q2
      by_cases q3 : (rd_T43 out ji).f3.length = 0
      ·have e3 : (((rd_T43 out ji).f3.length : Int) == 0) = true := by rw [q3]; rfl
       have HTR := am (show rnTrim out = out.take ji.toNat from by unfold rnTrim; rw [if_pos q1, HJI.out, if_pos q2, if_pos q3, HJT.out])
       have q88 : ji ≤ (out.length : Int) := by omega
       obtain ⟨i088, hi088, _, hsz88, _⟩ := info_parts info43
       obtain ⟨okc, hokc, hRc⟩ := Inv2.row HI.out
       have hcut88 := cut_to (P := Tryd.prog) 24 43 .i64 Tryd.underlying24 hi088 (some ⟨gq, 0, none⟩) out.length cO ji hj0 q88 (Kd.R_reads' hRc).2.1
       have hjl : (out.take ji.toNat).length = ji.toNat := by rw [List.length_take]; omega
       have HJL := am hjl
       have hq88 := eq_true q88
       have hq89 : decide (ji ≤ (out.length : Int)) = true := decide_eq_true q88
       clear hi088 hsz88 hokc hRc okc q1 q2 q3 hj0 hj1 hjl q88
       go_wp2
       refine bodyPost_ret (results_ct rfl _ _ gb2 26 #[.int .i64 a0, .slice (some ⟨gq, 0, none⟩) ji.toNat cO] (0, 0) _ rfl (blk_put (cs := #[.int .i64 a0, .slice none 0 0]) (blk_put (cs := #[.int .i64 0, .slice none 0 0]) (blk_far BK2.out N211.out _) 0 _ rfl) 1 _ rfl) Tryd.underlying26 rfl (by kernel_rfl)) rfl ?_
       obtain ⟨ok, hok, hRr⟩ := Inv2.row HI.out
       refine ⟨_, rfl, ?_, below_set (below_set (below_set HB.out G11.out) G2.out) G2.out⟩
       rw [HTR.out]
       exact Kd.V_mono (Kd.R_V (base' := w.heap.size) (Kd.R_far (p := ⟨gb2, 1, none⟩) (Kd.R_far (p := ⟨gb2, 0, none⟩) (Kd.R_far (p := ⟨gb11, 1, none⟩) (show Kd.R k43 43 wr w.heap.size ok (.slice (some ⟨gq, 0, none⟩) ji.toNat cO) (out.take ji.toNat) from Kd.R_take hRr (by have := HJT.out; omega)) (fun k hk e => (hok k hk).1 (.inr e)) _) (fun k hk e => (hok k hk).1 (.inl e)) _) (fun k hk e => (hok k hk).1 (.inl e)) _)) (fun k hk => (hok k hk).2)
      have e3 : (((rd_T43 out ji).f3.length : Int) == 0) = false := beq_eq_false_iff_ne.mpr (by omega)
      have HTR := am (show rnTrim out = out from by unfold rnTrim; rw [if_pos q1, HJI.out, if_pos q2, if_neg q3])
      clear q1 q2 q3 hj0 hj1
      go_wp2
      refine bodyPost_ret (results_ct rfl _ _ gb2 26 #[.int .i64 a0, .slice (some ⟨gq, 0, none⟩) out.length cO] (0, 0) _ rfl (blk_put (cs := #[.int .i64 a0, .slice none 0 0]) (blk_put (cs := #[.int .i64 0, .slice none 0 0]) BK2.out 0 _ rfl) 1 _ rfl) Tryd.underlying26 rfl (by kernel_rfl)) rfl ?_
      obtain ⟨ok, hok, hRr⟩ := Inv2.row HI.out
      refine ⟨_, rfl, ?_, below_set (below_set HB.out G2.out) G2.out⟩
      rw [HTR.out]
      exact Kd.V_mono (Kd.R_V (base' := w.heap.size) (Kd.R_far (p := ⟨gb2, 1, none⟩) (Kd.R_far (p := ⟨gb2, 0, none⟩) (hRr) (fun k hk e => (hok k hk).1 (.inl e)) _) (fun k hk e => (hok k hk).1 (.inl e)) _)) (fun k hk => (hok k hk).2)
     have e2 : ((rd_T43 out ji).f0 == 1) = false := beq_eq_false_iff_ne.mpr q2
     have HTR := am (show rnTrim out = out from by unfold rnTrim; rw [if_pos q1, HJI.out, if_neg q2])
     clear q1 q2 hj0 hj1
     go_wp2
     refine bodyPost_ret (results_ct rfl _ _ gb2 26 #[.int .i64 a0, .slice (some ⟨gq, 0, none⟩) out.length cO] (0, 0) _ rfl (blk_put (cs := #[.int .i64 a0, .slice none 0 0]) (blk_put (cs := #[.int .i64 0, .slice none 0 0]) BK2.out 0 _ rfl) 1 _ rfl) Tryd.underlying26 rfl (by kernel_rfl)) rfl ?_
     obtain ⟨ok, hok, hRr⟩ := Inv2.row HI.out
     refine ⟨_, rfl, ?_, below_set (below_set HB.out G2.out) G2.out⟩
     rw [HTR.out]
     exact Kd.V_mono (Kd.R_V (base' := w.heap.size) (Kd.R_far (p := ⟨gb2, 1, none⟩) (Kd.R_far (p := ⟨gb2, 0, none⟩) (hRr) (fun k hk e => (hok k hk).1 (.inl e)) _) (fun k hk e => (hok k hk).1 (.inl e)) _)) (fun k hk => (hok k hk).2)
    have hgt : decide ((0 : Int) < (out.length : Int)) = false := decide_eq_false (by omega)
    have HTR := am (show rnTrim out = out from by unfold rnTrim; rw [if_neg q1])
    obtain rfl : out = [] := List.eq_nil_of_length_eq_zero (by omega)
    clear q1
    go_wp2
    refine bodyPost_ret (results_ct rfl _ _ gb2 26 #[.int .i64 a0, .slice AO ([] : List S43).length cO] (0, 0) _ rfl (blk_put (cs := #[.int .i64 a0, .slice none 0 0]) (blk_put (cs := #[.int .i64 0, .slice none 0 0]) BK2.out 0 _ rfl) 1 _ rfl) Tryd.underlying26 rfl (by kernel_rfl)) rfl ?_
    obtain ⟨ok, hok, hRr⟩ := Inv2.row HI.out
    refine ⟨_, rfl, ?_, below_set (below_set HB.out G2.out) G2.out⟩
    rw [HTR.out]
    exact Kd.V_mono (Kd.R_V (base' := w.heap.size) (Kd.R_far (p := ⟨gb2, 1, none⟩) (Kd.R_far (p := ⟨gb2, 0, none⟩) (hRr) (fun k hk e => (hok k hk).1 (.inl e)) _) (fun k hk e => (hok k hk).1 (.inl e)) _)) (fun k hk => (hok k hk).2)
 rw [if_neg c3] at h1
 simp only [Option.some.injEq, Prod.mk.injEq] at h1
 obtain ⟨rfl, rfl, rfl⟩ := h1
 have hne : (e0 != 0) = true := bne_iff_ne.mpr c3
 go_enter Tryd.func31, Tryd.ntmps31
 go_wp2_with (first | ((with_reducible refine gate_dst (N := 1) rfl ?_); (try (refine gate_guard (by rfl) ?_; dsimp only)); refine bev #[.int .i64 a0, .slice A l.length c] 26 ?_; intro gb1 hg w1 hbox hb; have HB1 := am hb; have BK1 := am hbox; have G1 := am (Nat.le_of_eq hg.symm : w.heap.size ≤ gb1); clear hg hbox hb) | ((with_reducible refine gate_dst (N := 2) rfl ?_); (try (refine gate_guard (by rfl) ?_; dsimp only)); refine bev #[.int .i64 0, .slice none 0 0] 26 ?_; intro gb2 hg w2 hbox hb; have HB2 := am (below_step HB1.out hb); have BK1b := am (blk_below BK1.out hb); have BK2 := am hbox; have G2 := am (show w.heap.size ≤ gb2 from by rw [hg]; exact HB1.out.size); have N12 := am (show gb1 ≠ gb2 from by rw [hg]; exact Nat.ne_of_lt (blk_lt BK1.out)); have hc10 : w2.cell? ⟨gb1, 0, none⟩ = some (.int .i64 a0) := (blk_cell BK1b.out 0).trans rfl; have hc11 : w2.cell? ⟨gb1, 1, none⟩ = some (.slice A l.length c) := (blk_cell BK1b.out 1).trans rfl; clear hg hbox hb) | ((with_reducible refine gate_callee (f := 54) rfl ?_); refine goesL_ (some 15) rfl rfl Tryd.func54 (by kernel_rfl) rfl #[.agg #[.int .i64 a0, .slice A l.length c]] rfl (by (try simp only [List.map_toArray, List.map_cons, List.map_nil]); first | done | rfl) ?_; refine (blotterref03_Right.calls k _ _ _ l _ _ (Kd.C_below HR.out HB2.out) HC.out HE.out).mono ?_; rintro e w3 ⟨rfl, hb⟩; refine ⟨_, rfl, ?_⟩; have HB3 := am (below_step HB2.out hb); have BK1c := am (blk_below BK1b.out hb); have BK2c := am (blk_below BK2.out hb); clear hb hc10 hc11 BK1 BK1b BK2 HB1 HB2; have hc20 : w3.cell? ⟨gb2, 0, none⟩ = some (.int .i64 0) := (blk_cell BK2c.out 0).trans rfl; have hc21 : w3.cell? ⟨gb2, 1, none⟩ = some (.slice none 0 0) := (blk_cell BK2c.out 1).trans rfl; have hf20 := blk_frozen BK2c.out 0; have hf21 := blk_frozen BK2c.out 1))
 refine bodyPost_ret (results_ct rfl _ _ gb2 26 #[.int .i64 0, .slice none 0 0] (0, 0) _ rfl (bp BK2c.out) Tryd.underlying26 rfl (by kernel_rfl)) rfl ?_
 exact ⟨_, rfl, Kd.V_nil _ _ _ _ _, below_set (below_set HB3.out G2.out) G2.out⟩
end Go.Proofs.YtinbpjodheceoaaDoor.Sp
