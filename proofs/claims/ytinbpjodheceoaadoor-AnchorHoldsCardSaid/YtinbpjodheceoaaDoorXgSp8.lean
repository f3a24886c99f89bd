/- Written by this session's programs (sprint.py, prune.py). -/
import Derived.Test.YtinbpjodheceoaaDoorXgSp0
import Derived.Test.YtinbpjodheceoaaDoorXgSp7
namespace Go.Proofs.YtinbpjodheceoaaDoor.Sp
open Go.RowKit Go.Proofs.YtinbpjodheceoaaDoorW.PrintWords Go.Proofs.YtinbpjodheceoaaDoorW.PrintLast Go.Proofs.YtinbpjodheceoaaDoorW.PrintMore
attribute [local go_sem] max2_int min2_int max_two min_two max_three min_three max_four min_four   -- for this text's walks alone
set_option linter.unusedVariables false
set_option linter.unusedSimpArgs false
attribute [local go_sem] own_leq own_gtr own_geq   -- for this text's walks alone
def change_maker_flush.f (k : Nat) (l0 : List (S43)) (a0 : Int) : Option ((List (S43)) × Int) := (some l0).bind fun t101 => (if a0 > 0 then ((change_row_put.f k t101 a0 3 a0 (⟨#[]⟩ : ByteArray) ([] : List (S90))).bind fun bt_ => (some (bt_.1, 0))) else (some (t101, a0)))
theorem change_maker_flush.mono : ∀ l0 a0 k, LeO (change_maker_flush.f k l0 a0) (change_maker_flush.f (k + 1) l0 a0) := by
 intro l0 a0 k
 unfold change_maker_flush.f
 have m0 := @change_row_put.mono; exact lo
def change_maker_flush.T1 : Bool × List (List Nat × List Nat) := (true, [([], []), ([0], [0]), ([1], [1]), ([], []), ([3], [3]), ([4], [4]), ([5], [5]), ([6], [6]), ([2, 7], [2, 7])])
def change_maker_flush.B1 : List Nat := [0, 1, 3, 0, 8, 24, 56, 120, 255]
theorem change_maker_flush.tab1 : rtab .any (opsOf Tryd.f44 1) = change_maker_flush.T1 := by kernel_rfl
theorem change_maker_flush.bits1 : waitsOk change_maker_flush.T1.2 change_maker_flush.B1 = true := by kernel_rfl
set_option maxHeartbeats 8000000 in
set_option maxRecDepth 100000 in
theorem change_maker_flush.calls (w : World) (gb104 : Nat) (u : Value) (l0 : List (S43)) (k : Nat) (a0 : Int) (r1 : List (S43)) (r2 : Int) (gb105 gb106 gb107 : Nat) (cs1_ cs2_ cs3_ : Array Value) (t3_ : TypeId) (ht3_ : ∀ q, q ∈ 90 :: k90.E → q ≠ t3_) (wE : World) (hB_ : Below w.heap.size w wE) (hge104_ : w.heap.size ≤ gb104) (hge105_ : w.heap.size ≤ gb105) (hge106_ : w.heap.size ≤ gb106) (hge107_ : w.heap.size ≤ gb107) (hbk104_ : wE.heap[gb104]? = some (.cells #[u, .int .i64 a0] 65 (0, 0))) (hbk105_ : wE.heap[gb105]? = some (.cells cs1_ 26 (0, 0))) (hbk106_ : wE.heap[gb106]? = some (.cells cs2_ 26 (0, 0))) (hbk107_ : wE.heap[gb107]? = some (.cells cs3_ t3_ (0, 0))) (hnb105_ : gb104 ≠ gb105) (hnb106_ : gb104 ≠ gb106) (hnb107_ : gb104 ≠ gb107) (ho_ : Kd.S k43 43 wE w.heap.size (fun k_ => k_ ≠ gb107) u l0) (h : change_maker_flush.f k l0 a0 = some (r1, r2)) :
 Calls Tryd.prog 44 #[.pointer (some ⟨gb104, 0, none⟩)] wE fun e w' => e = .returned (.tuple #[]) ∧ ∃ u' : Value, w'.heap[gb104]? = some (.cells #[u', .int .i64 r2] 65 (0, 0)) ∧ Kd.S k43 43 w' w.heap.size (fun _ => True) u' r1 ∧ Below w.heap.size w w' ∧ w'.heap[gb105]? = some (.cells cs1_ 26 (0, 0)) ∧ w'.heap[gb106]? = some (.cells cs2_ 26 (0, 0)) ∧ w'.heap[gb107]? = some (.cells cs3_ t3_ (0, 0)) := by
 have hu65 := Tryd.underlying65
 have hu26 := Tryd.underlying26
 have hu43 := Tryd.underlying43
 have HB := am hB_
 have GE104 := am hge104_
 have GW104 := am hge104_
 have BK104 := am hbk104_
 have GE105 := am hge105_
 have GW105 := am hge105_
 have BK105 := am hbk105_
 have GE106 := am hge106_
 have GW106 := am hge106_
 have BK106 := am hbk106_
 have GE107 := am hge107_
 have GW107 := am hge107_
 have BK107 := am hbk107_
 have NB104_105 := am hnb105_
 have NB105_104 := am (Ne.symm hnb105_)
 have NB104_106 := am hnb106_
 have NB106_104 := am (Ne.symm hnb106_)
 have NB104_107 := am hnb107_
 have NB107_104 := am (Ne.symm hnb107_)
 clear hB_ hge104_ hbk104_ hge105_ hbk105_ hge106_ hbk106_ hge107_ hbk107_ hnb105_ hnb106_ hnb107_
 have H : ((some l0).bind fun t101 => (if a0 > 0 then ((change_row_put.f k t101 a0 3 a0 (⟨#[]⟩ : ByteArray) ([] : List (S90))).bind fun bt_ => (some (bt_.1, 0))) else (some (t101, a0)))) = some (r1, r2) := h
 clear h
 replace H := Option.bind_eq_some_iff.mp H
 obtain ⟨t101, A20, H⟩ := H
 obtain rfl : t101 = l0 := (Option.some.inj A20).symm
 have HO103 := am ho_
 clear ho_
 replace H : (if a0 > 0 then ((change_row_put.f k t101 a0 3 a0 (⟨#[]⟩ : ByteArray) ([] : List (S90))).bind fun bt_ => (some (bt_.1, 0))) else (some (t101, a0))) = some (r1, r2) := H
 have A2 := am A20
 clear A20
 by_cases c3 : a0 > 0
 ·rw [if_pos c3] at H
  have c3b0 : decide (0 < a0) = true := decide_eq_true c3
  clear c3
  replace H := Option.bind_eq_some_iff.mp H
  obtain ⟨⟨tq_, tg_⟩, A40, H⟩ := H
  replace H : (some (tq_, 0)) = some (r1, r2) := H
  have A4 := am A40
  clear A40
  simp only [Option.some.injEq, Prod.mk.injEq] at H
  obtain ⟨rfl, rfl⟩ := H
  obtain ⟨Ao6, co6, eo_⟩ := Kd.S_slice HO103.out
  subst eo_
  have hcz_0 : wE.cell? ⟨gb104, 0, none⟩ = some (.slice Ao6 t101.length co6) := (blk_cell BK104.out 0).trans rfl
  have hcz_1 : wE.cell? ⟨gb104, 1, none⟩ = some (.int .i64 a0) := (blk_cell BK104.out 1).trans rfl
  have hfz_0 := blk_frozen BK104.out 0
  have hfz_1 := blk_frozen BK104.out 1
  go_enter Tryd.func44, Tryd.ntmps44
  go_wp2
  have n0_ := am (Kd.S_drew HO103.out)
  have n1_ := am (blk_drew BK104.out)
  have n2_ := am (blk_drew BK105.out)
  have n3_ := am (blk_drew BK106.out)
  have n4_ := am (blk_drew BK107.out)
  have n5_ := am (below_drew1 HB.out)
  clear HO103
  clear BK104
  clear BK105
  clear BK106
  clear BK107
  clear HB
  have HO103 := n0_
  have BK104 := n1_
  have BK105 := n2_
  have BK106 := n3_
  have BK107 := n4_
  have HB := n5_
  clear n0_ n1_ n2_ n3_ n4_ n5_
  refine start_ (n := 9) (S := fun w' => w'.cell? ⟨gb104, 1, none⟩ = some (.int .i64 a0)) (ds := []) #[false, false, false, false, false, false, false, false, false] (by kernel_rfl) rfl rfl ((blk_cell BK104.out 1).trans rfl) (fun hHeld => ?_); refine with_tabW change_maker_flush.tab1 change_maker_flush.bits1 (fun HT_ HW_ => ?_)
  generalize wE.drew = w15 at HO103 BK104 BK105 BK106 BK107 HB hHeld ⊢
  refine pu 0 7 HT_ ?_
  refine pu 1 8 HT_ ?_
  refine pu 2 9 HT_ ?_
  refine pu 3 10 HT_ ?_
  refine pu 4 11 HT_ ?_
  refine pu 5 12 HT_ ?_
  refine tk 6 13 HT_ HW_ hHeld ?_
  refine pu 7 14 HT_ ?_
  refine one_ (i := 8) (N := some 15) #[true, true, true, true, true, true, true, true, true] rfl rfl (one_of HT_.out (by kernel_rfl)) (by decide) (fun K hK => ?_)
  refine goes_ Tryd.func45 (by kernel_rfl) rfl #[.pointer (some ⟨gb104, 0, none⟩), .agg #[.int .i64 3, .int .i64 a0, .string (⟨#[]⟩ : ByteArray), .slice none 0 0]] (by rfl) rfl rfl (by (try simp only [List.map_toArray, List.map_cons, List.map_nil]); first | done | rfl | (simp only [List.length_drop, List.length_take]; rfl)) ?_
  refine (change_row_put.calls w gb104 (.slice Ao6 t101.length co6) t101 k a0 3 a0 (⟨#[]⟩ : ByteArray) none 0 ([] : List (S90)) tq_ tg_ gb105 gb106 gb107 cs1_ cs2_ cs3_ t3_ ht3_ _ ?fB GE104.out GE105.out GE106.out GE107.out ?fm ?f105 ?f106 ?f107 NB104_105.out NB104_106.out NB104_107.out ?fo (Kd.C_nil _ _) (Nat.le_refl _) A4.out).mono ?_
  (case fB => exact (bl HB.out))
  (case fm => exact (bk BK104.out))
  (case fo => exact (ks HO103.out))
  (case f105 => exact (bk BK105.out))
  (case f106 => exact (bk BK106.out))
  (case f107 => exact (bk BK107.out))
  rintro e w16 ⟨rfl, u_, hbk_, ho_, hb, hq105_, hq106_, hq107_, _⟩
  refine ⟨_, rfl, ?_⟩
  have n0_ := am ho_
  have n1_ := am hbk_
  have n2_ := am hq105_
  have n3_ := am hq106_
  have n4_ := am hq107_
  have n5_ := am hb
  clear HO103
  clear BK104
  clear BK105
  clear BK106
  clear BK107
  clear HB
  have HO103 := n0_
  have BK104 := n1_
  have BK105 := n2_
  have BK106 := n3_
  have BK107 := n4_
  have HB := n5_
  clear n0_ n1_ n2_ n3_ n4_ n5_
  clear hbk_ ho_ hq105_ hq106_ hq107_
  obtain ⟨Aq_, cq_, eq_⟩ := Kd.S_slice HO103.out
  subst eq_
  (try clear hb)
  (try clear hb2)
  (try clear hk)
  (try clear hi)
  refine hK.out _ _ ((blk_cell BK104.out 1).trans rfl) (fun hHeld => ?_)
  clear hK K
  refine norm_ (a' := ?_) ?_ ?_
  rotate_left
  ·show Act.put _ (some 15) _ = _
   simp only [Act.put, List.setIfInBounds_toArray, List.set_cons_zero, List.set_cons_succ, i64_w, i32_w]
   rfl
  refine done_ (done_of HT_.out (by kernel_rfl)) ?_
  have hcz17_0 : w16.cell? ⟨gb104, 0, none⟩ = some (.slice Aq_ tq_.length cq_) := (blk_cell BK104.out 0).trans rfl
  have hcz17_1 : w16.cell? ⟨gb104, 1, none⟩ = some (.int .i64 a0) := (blk_cell BK104.out 1).trans rfl
  have hfz17_0 := blk_frozen BK104.out 0
  have hfz17_1 := blk_frozen BK104.out 1
  try go_wp2
  first | go_end0 | ((try simp only [Exit.inBlock, Exit.then]); refine bodyPost_ret (results_none rfl _ _ _) rfl ?_)
  exact ⟨rfl, .slice Aq_ tq_.length cq_, bp BK104.out, by (with_reducible repeat (first | apply Kd.S_alloc | apply Kd.S_drewN | apply Kd.S_drew)); exact Kd.S_mono (Kd.S_far (p := ⟨gb104, 1, none⟩) (Kd.S_types HO103.out BK104.out (by decide)) (fun _ hk => by first | exact hk.2 | (revert hk; simp +contextual; done)) (.int .i64 0)) (fun _ hk => trivial), bl HB.out, bk BK105.out, bk BK106.out, bk BK107.out⟩
 rw [if_neg c3] at H
 have c3b0 : decide (0 < a0) = false := decide_eq_false c3
 clear c3
 simp only [Option.some.injEq, Prod.mk.injEq] at H
 obtain ⟨rfl, rfl⟩ := H
 obtain ⟨Ao19, co19, eo_⟩ := Kd.S_slice HO103.out
 subst eo_
 have hcz_0 : wE.cell? ⟨gb104, 0, none⟩ = some (.slice Ao19 t101.length co19) := (blk_cell BK104.out 0).trans rfl
 have hcz_1 : wE.cell? ⟨gb104, 1, none⟩ = some (.int .i64 a0) := (blk_cell BK104.out 1).trans rfl
 have hfz_0 := blk_frozen BK104.out 0
 have hfz_1 := blk_frozen BK104.out 1
 go_enter Tryd.func44, Tryd.ntmps44
 go_wp2
 first | go_end0 | ((try simp only [Exit.inBlock, Exit.then]); refine bodyPost_ret (results_none rfl _ _ _) rfl ?_)
 exact ⟨rfl, .slice Ao19 t101.length co19, bk BK104.out, by (with_reducible repeat (first | apply Kd.S_alloc | apply Kd.S_drewN | apply Kd.S_drew)); exact Kd.S_mono HO103.out (fun _ hk => trivial), bl HB.out, bk BK105.out, bk BK106.out, bk BK107.out⟩
def slices_Clip.f (l0 : List (S43)) : Option ((List (S43))) := some l0
theorem clip_V {α : Type} {d : Kd α} {e : Nat} {W : World} {base : Nat} {ok : Nat → Prop} {A : Option Addr} {c : Nat} {xs : List α} (h : Kd.V d e W base ok (.slice A xs.length c) xs) : Kd.V d e W base ok (.slice A xs.length xs.length) xs := by
 obtain ⟨A', c', e', _, hF⟩ := h
 injection e' with e1 _ _
 subst e1
 exact ⟨A, xs.length, rfl, Nat.le_refl _, hF⟩
set_option maxHeartbeats 8000000 in
set_option maxRecDepth 100000 in
theorem slices_Clip.calls (A0 : Option Addr) (c0 : Nat) (l0 : List (S43)) (r : List (S43)) (w : World) (hr0 : Kd.C k43 w A0 l0.length l0) (hc0 : l0.length ≤ c0) (h : slices_Clip.f l0 = some r) :
 Calls Tryd.prog 46 #[.slice A0 l0.length c0] w fun e w' => e = .returned (.slice A0 r.length r.length) ∧ Below w.heap.size w w' := by
 obtain rfl := Option.some.inj h
 clear h hr0
 go_enter Tryd.func46, Tryd.ntmps46
 go_wp2
 go_ret
 exact ⟨rfl, Below.refl _ _⟩
end Go.Proofs.YtinbpjodheceoaaDoor.Sp
