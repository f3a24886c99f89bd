/- Written by this session's programs (sprint.py, prune.py). -/
import Derived.Test.YtinbpjodheceoaaDoorXgSp0
import Derived.Test.YtinbpjodheceoaaDoorXgSp6
import Derived.Test.YtinbpjodheceoaaDoorXgSp10
namespace Go.Proofs.YtinbpjodheceoaaDoor.Sp
open Go.RowKit Go.Proofs.YtinbpjodheceoaaDoorW.PrintWords Go.Proofs.YtinbpjodheceoaaDoorW.PrintLast Go.Proofs.YtinbpjodheceoaaDoorW.PrintMore
attribute [local go_sem] max2_int min2_int max_two min_two max_three min_three max_four min_four   -- for this text's walks alone
set_option linter.unusedVariables false
set_option linter.unusedSimpArgs false
attribute [local go_sem] own_leq own_gtr own_geq   -- for this text's walks alone
def change_row_put.j0 : Nat → Int → Bool → List (S43) → Int → Int → Int → ByteArray → List (S90) → Option ((List (S43)) × Int)
 | 0, _, _, _, _, _, _, _, _ => none
 | k + 1, x4, x39, x108000, x108001, x112000, x112001, x112002, x112003 => if x39 = true then (if 0 ≤ (wrap64 (x4 - 1)) then (if (wrap64 (x4 - 1)) < (x108000.length : Int) then ((some (x108000.set ((wrap64 (x4 - 1)) : Int).toNat (⟨(rd_T43 x108000 (wrap64 (x4 - 1))).f0, wrap64 (((rd_T43 x108000 (wrap64 (x4 - 1))).f1) + x112001), (rd_T43 x108000 (wrap64 (x4 - 1))).f2, (rd_T43 x108000 (wrap64 (x4 - 1))).f3⟩ : S43) : List (S43))).bind fun y116 => (if ((rd_T43 y116 (wrap64 (x4 - 1))).f2).size + x112002.size ≤ 9223372036854775807 then (some ((y116.set ((wrap64 (x4 - 1)) : Int).toNat (⟨(rd_T43 y116 (wrap64 (x4 - 1))).f0, (rd_T43 y116 (wrap64 (x4 - 1))).f1, ((rd_T43 y116 (wrap64 (x4 - 1))).f2) ++ x112002, (rd_T43 y116 (wrap64 (x4 - 1))).f3⟩ : S43)), x108001)) else (none))) else (none)) else (none)) else ((slices_Clone.f x112003).bind fun t119 => (if x108000.length < 2513169434916 then (some ((x108000 ++ [(⟨x112000, x112001, x112002, t119⟩ : S43)]), x108001)) else (none)))
def change_row_put.f (k : Nat) (l0 : List (S43)) (a0 : Int) (a1_0 : Int) (a1_1 : Int) (a1_2 : ByteArray) (l1_3 : List (S90)) : Option ((List (S43)) × Int) := (some l0).bind fun t104 => (if (t104.length : Int) > 0 then (if 0 ≤ (wrap64 ((t104.length : Int) - 1)) then (if (wrap64 ((t104.length : Int) - 1)) < (t104.length : Int) then (if ((rd_T43 t104 (wrap64 ((t104.length : Int) - 1))).f0) = a1_0 then ((attrs_Same.f k ((rd_T43 t104 (wrap64 ((t104.length : Int) - 1))).f3) l1_3).bind fun t114 => (change_row_put.j0 k (t104.length : Int) t114 t104 a0 a1_0 a1_1 a1_2 l1_3)) else (change_row_put.j0 k (t104.length : Int) false t104 a0 a1_0 a1_1 a1_2 l1_3)) else (none)) else (none)) else (change_row_put.j0 k (t104.length : Int) false t104 a0 a1_0 a1_1 a1_2 l1_3))
theorem change_row_put.mono_l : ∀ k, (∀ y0 y1 y2 y3 y4 y5 y6 y7, LeO (change_row_put.j0 k y0 y1 y2 y3 y4 y5 y6 y7) (change_row_put.j0 (k + 1) y0 y1 y2 y3 y4 y5 y6 y7))
 | 0 => fun _ _ _ _ _ _ _ _ r h => by simp [change_row_put.j0] at h
 | k + 1 => by
  have ih0 := change_row_put.mono_l k
  intro y0 y1 y2 y3 y4 y5 y6 y7
  unfold change_row_put.j0
  have m0 := @attrs_Same.mono; exact lo
theorem change_row_put.mono : ∀ l0 a0 a1 a2 a3 a4 k, LeO (change_row_put.f k l0 a0 a1 a2 a3 a4) (change_row_put.f (k + 1) l0 a0 a1 a2 a3 a4) := by
 intro l0 a0 a1 a2 a3 a4 k
 have ih0 := change_row_put.mono_l k
 unfold change_row_put.f
 have m0 := @attrs_Same.mono; exact lo
def change_row_put.T2 : Bool × List (List Nat × List Nat) := (true, [([], []), ([0], [0]), ([1], [1]), ([2], [2]), ([3, 2], [2, 3]), ([4, 2], [2, 4]), ([5, 2], [2, 5]), ([2], [2]), ([7, 2], [2, 7]), ([6, 8, 2], [2, 6, 8]), ([9, 2], [2, 9]), ([10, 2], [2, 10]), ([2], [2]), ([12, 2], [2, 12]), ([11, 13, 2], [2, 11, 13]), ([2, 14], [2, 14]), ([15, 2], [15]), ([16], [16]), ([17, 16], [16, 17]), ([18, 16], [16, 18]), ([19, 16], [16, 19]), ([16], [16]), ([21, 16], [16, 21]), ([20, 22, 16], [16, 20, 22]), ([23, 16], [16, 23]), ([24, 16], [16, 24]), ([16], [16]), ([26, 16], [16, 26]), ([25, 27, 16, 16], [16, 25, 27]), ([16, 28], [16, 28])])
def change_row_put.B2 : List Nat := [0, 1, 3, 7, 15, 31, 63, 7, 135, 511, 1023, 2047, 7, 4103, 16383, 32767, 65535, 131071, 262143, 524287, 1048575, 131071, 2228223, 8388607, 16777215, 33554431, 131071, 67239935, 268435455, 536870911]
theorem change_row_put.tab2 : rtab .any (opsOf Tryd.f45 2) = change_row_put.T2 := by kernel_rfl
theorem change_row_put.bits2 : waitsOk change_row_put.T2.2 change_row_put.B2 = true := by kernel_rfl
def change_row_put.T3 : Bool × List (List Nat × List Nat) := (true, [([], []), ([0], [0]), ([1], [1]), ([2], [2]), ([], []), ([4], [4]), ([3, 5], [3, 5]), ([6], [6]), ([7], [7]), ([], []), ([9], [9]), ([8, 10], [8, 10]), ([3, 5, 0, 1, 2, 3, 4, 5, 6, 7, 8, 9, 10, 11], [3, 5]), ([12, 0, 1, 2, 3, 4, 5, 6, 7, 8, 9, 10, 11], [12]), ([13, 11, 0, 1, 2, 3, 4, 5, 6, 7, 8, 9, 10, 11], [11, 13])])
def change_row_put.B3 : List Nat := [0, 1, 3, 7, 0, 16, 63, 127, 255, 0, 512, 2047, 4095, 8191, 16383]
theorem change_row_put.tab3 : rtab .any (opsOf Tryd.f45 3) = change_row_put.T3 := by kernel_rfl
theorem change_row_put.bits3 : waitsOk change_row_put.T3.2 change_row_put.B3 = true := by kernel_rfl
def change_row_put.T4 : Bool × List (List Nat × List Nat) := (true, [([], []), ([0], [0]), ([1], [1]), ([2], [2]), ([], []), ([4], [4]), ([3, 5], [3, 5]), ([6], [6]), ([7], [7]), ([], []), ([9], [9]), ([8, 10], [8, 10]), ([3, 5, 0, 1, 2, 3, 4, 5, 6, 7, 8, 9, 10, 11], [3, 5]), ([12, 0, 1, 2, 3, 4, 5, 6, 7, 8, 9, 10, 11], [12]), ([13, 11, 0, 1, 2, 3, 4, 5, 6, 7, 8, 9, 10, 11], [11, 13])])
def change_row_put.B4 : List Nat := [0, 1, 3, 7, 0, 16, 63, 127, 255, 0, 512, 2047, 4095, 8191, 16383]
theorem change_row_put.tab4 : rtab .any (opsOf Tryd.f45 4) = change_row_put.T4 := by kernel_rfl
theorem change_row_put.bits4 : waitsOk change_row_put.T4.2 change_row_put.B4 = true := by kernel_rfl
def change_row_put.T6 : Bool × List (List Nat × List Nat) := (true, [([], []), ([], []), ([1], [1]), ([2], [2]), ([3], [3]), ([], []), ([5], [5]), ([4, 6], [4, 6]), ([0, 0, 1, 2, 3, 4, 5, 6, 7], [0]), ([8, 0, 1, 2, 3, 4, 5, 6, 7], [8]), ([9, 7, 7, 0, 1, 2, 3, 4, 5, 6, 7], [7, 9])])
def change_row_put.B6 : List Nat := [0, 0, 2, 6, 14, 0, 32, 126, 255, 511, 1023]
theorem change_row_put.tab6 : rtab .any (opsOf Tryd.f45 6) = change_row_put.T6 := by kernel_rfl
theorem change_row_put.bits6 : waitsOk change_row_put.T6.2 change_row_put.B6 = true := by kernel_rfl
set_option maxHeartbeats 8000000 in
set_option maxRecDepth 100000 in
theorem change_row_put.calls (w : World) (gb107 : Nat) (u : Value) (l0 : List (S43)) (k : Nat) (a0 : Int) (a1_0 : Int) (a1_1 : Int) (a1_2 : ByteArray) (A1_3 : Option Addr) (c1_3 : Nat) (l1_3 : List (S90)) (r1 : List (S43)) (r2 : Int) (gb108 gb109 gb110 : Nat) (cs1_ cs2_ cs3_ : Array Value) (t3_ : TypeId) (ht3_ : ∀ q, q ∈ 90 :: k90.E → q ≠ t3_) (wE : World) (hB_ : Below w.heap.size w wE) (hge107_ : w.heap.size ≤ gb107) (hge108_ : w.heap.size ≤ gb108) (hge109_ : w.heap.size ≤ gb109) (hge110_ : w.heap.size ≤ gb110) (hbk107_ : wE.heap[gb107]? = some (.cells #[u, .int .i64 a0] 65 (0, 0))) (hbk108_ : wE.heap[gb108]? = some (.cells cs1_ 26 (0, 0))) (hbk109_ : wE.heap[gb109]? = some (.cells cs2_ 26 (0, 0))) (hbk110_ : wE.heap[gb110]? = some (.cells cs3_ t3_ (0, 0))) (hnb108_ : gb107 ≠ gb108) (hnb109_ : gb107 ≠ gb109) (hnb110_ : gb107 ≠ gb110) (ho_ : Kd.S k43 43 wE w.heap.size (fun k_ => k_ ≠ gb110) u l0) (hr1_3 : Kd.C k90 w A1_3 l1_3.length l1_3) (hc1_3 : l1_3.length ≤ c1_3) (h : change_row_put.f k l0 a0 a1_0 a1_1 a1_2 l1_3 = some (r1, r2)) :
 Calls Tryd.prog 45 #[.pointer (some ⟨gb107, 0, none⟩), .agg #[.int .i64 a1_0, .int .i64 a1_1, .string a1_2, .slice A1_3 l1_3.length c1_3]] wE fun e w' => e = .returned (.tuple #[]) ∧ ∃ u' : Value, w'.heap[gb107]? = some (.cells #[u', .int .i64 a0] 65 (0, 0)) ∧ Kd.S k43 43 w' w.heap.size (fun _ => True) u' r1 ∧ Below w.heap.size w w' ∧ w'.heap[gb108]? = some (.cells cs1_ 26 (0, 0)) ∧ w'.heap[gb109]? = some (.cells cs2_ 26 (0, 0)) ∧ w'.heap[gb110]? = some (.cells cs3_ t3_ (0, 0)) ∧ r2 = a0 := by
 have hu65 := Tryd.underlying65
 have hu26 := Tryd.underlying26
 have hu43 := Tryd.underlying43
 have HR1_3 := am hr1_3
 have HC1_3 := am hc1_3
 clear hr1_3 hc1_3
 have HB := am hB_
 have GE107 := am hge107_
 have GW107 := am hge107_
 have BK107 := am hbk107_
 have GE108 := am hge108_
 have GW108 := am hge108_
 have BK108 := am hbk108_
 have GE109 := am hge109_
 have GW109 := am hge109_
 have BK109 := am hbk109_
 have GE110 := am hge110_
 have GW110 := am hge110_
 have BK110 := am hbk110_
 have NB107_108 := am hnb108_
 have NB108_107 := am (Ne.symm hnb108_)
 have NB107_109 := am hnb109_
 have NB109_107 := am (Ne.symm hnb109_)
 have NB107_110 := am hnb110_
 have NB110_107 := am (Ne.symm hnb110_)
 clear hB_ hge107_ hbk107_ hge108_ hbk108_ hge109_ hbk109_ hge110_ hbk110_ hnb108_ hnb109_ hnb110_
 have H : ((some l0).bind fun t104 => (if (t104.length : Int) > 0 then (if 0 ≤ (wrap64 ((t104.length : Int) - 1)) then (if (wrap64 ((t104.length : Int) - 1)) < (t104.length : Int) then (if ((rd_T43 t104 (wrap64 ((t104.length : Int) - 1))).f0) = a1_0 then ((attrs_Same.f k ((rd_T43 t104 (wrap64 ((t104.length : Int) - 1))).f3) l1_3).bind fun t114 => (change_row_put.j0 k (t104.length : Int) t114 t104 a0 a1_0 a1_1 a1_2 l1_3)) else (change_row_put.j0 k (t104.length : Int) false t104 a0 a1_0 a1_1 a1_2 l1_3)) else (none)) else (none)) else (change_row_put.j0 k (t104.length : Int) false t104 a0 a1_0 a1_1 a1_2 l1_3))) = some (r1, r2) := h
 clear h
 replace H := Option.bind_eq_some_iff.mp H
 obtain ⟨t104, A30, H⟩ := H
 obtain rfl : t104 = l0 := (Option.some.inj A30).symm
 have HO106 := am ho_
 clear ho_
 replace H : (if (t104.length : Int) > 0 then (if 0 ≤ (wrap64 ((t104.length : Int) - 1)) then (if (wrap64 ((t104.length : Int) - 1)) < (t104.length : Int) then (if ((rd_T43 t104 (wrap64 ((t104.length : Int) - 1))).f0) = a1_0 then ((attrs_Same.f k ((rd_T43 t104 (wrap64 ((t104.length : Int) - 1))).f3) l1_3).bind fun t114 => (change_row_put.j0 k (t104.length : Int) t114 t104 a0 a1_0 a1_1 a1_2 l1_3)) else (change_row_put.j0 k (t104.length : Int) false t104 a0 a1_0 a1_1 a1_2 l1_3)) else (none)) else (none)) else (change_row_put.j0 k (t104.length : Int) false t104 a0 a1_0 a1_1 a1_2 l1_3)) = some (r1, r2) := H
 have A3 := am A30
 clear A30
 have HC4 := am H
 clear H
 obtain ⟨Ao6, co6, eo_⟩ := Kd.S_slice HO106.out
 subst eo_
 go_enter Tryd.func45, Tryd.ntmps45
 go_upto_region 2 with (first | ((with_reducible refine gate_dst (N := 3) rfl ?_); refine bev #[.int .i64 a1_0, .int .i64 a1_1, .string a1_2, .slice A1_3 l1_3.length c1_3] 43 ?_; intro gb111 hg w11 hbox hb; have HO106 := am (Kd.S_below (Kd.S_elderB (ks HO106.out) gb111 (Nat.le_of_eq hg.symm)) hb); have BK111 := am (hbox); have GW111 := am (szl hg (bl HB.out)); have GE111 := am (szl hg (bl HB.out)); have HB := am (below_step (bl HB.out) hb); have NB107_111 := am (nel hg (bk BK107.out)); have NB111_107 := am (neg_ hg (bk BK107.out)); have BK107 := am (blk_below (bk BK107.out) hb); have NB108_111 := am (nel hg (bk BK108.out)); have NB111_108 := am (neg_ hg (bk BK108.out)); have BK108 := am (blk_below (bk BK108.out) hb); have NB109_111 := am (nel hg (bk BK109.out)); have NB111_109 := am (neg_ hg (bk BK109.out)); have BK109 := am (blk_below (bk BK109.out) hb); have NB110_111 := am (nel hg (bk BK110.out)); have NB111_110 := am (neg_ hg (bk BK110.out)); have BK110 := am (blk_below (bk BK110.out) hb); clear hb hbox hg; have hnb12 := NB107_108.out; have hnc12 := NB108_107.out; have hnb13 := NB107_109.out; have hnc13 := NB109_107.out; have hnb14 := NB107_110.out; have hnc14 := NB110_107.out; have hnb15 := NB107_111.out; have hnc15 := NB111_107.out; obtain ⟨hcz16_0, hcz16_1, hfz16_0, hfz16_1⟩ := bc2 BK107.out))
 (try simp only [Act.put, List.setIfInBounds_toArray, List.set_cons_zero, List.set_cons_succ])
 go_cut [39] (fun v39 wc => ∃ (kq : Nat) (x39_3 : Bool), v39 = .bool x39_3 ∧ Aside0 (change_row_put.j0 kq (t104.length : Int) x39_3 t104 a0 a1_0 a1_1 a1_2 l1_3 = some (r1, r2)) ∧ Aside0 (kq ≤ k) ∧ Aside0 (Kd.S k43 43 wc w.heap.size (fun k_ => k_ ≠ gb110 ∧ k_ ≠ gb111) (.slice Ao6 t104.length co6) t104) ∧ Aside0 (wc.heap[gb107]? = some (.cells #[(.slice Ao6 t104.length co6), .int .i64 a0] 65 (0, 0))) ∧ Aside0 (wc.heap[gb108]? = some (.cells cs1_ 26 (0, 0))) ∧ Aside0 (wc.heap[gb109]? = some (.cells cs2_ 26 (0, 0))) ∧ Aside0 (wc.heap[gb110]? = some (.cells cs3_ t3_ (0, 0))) ∧ Aside0 (wc.heap[gb111]? = some (.cells #[.int .i64 a1_0, .int .i64 a1_1, .string a1_2, (.slice A1_3 l1_3.length c1_3)] 43 (0, 0))) ∧ Aside0 (Below w.heap.size w wc))
 case first =>
  have H := HC4.out
  clear HC4
  by_cases c17 : (t104.length : Int) > 0
  ·rw [if_pos c17] at H
   have c17b0 : decide (0 < (t104.length : Int)) = true := decide_eq_true c17
   have c17b1 : decide (0 < t104.length) = true := decide_eq_true (by omega)
   clear c17
   (first | rw [c17b0] | (simp only [i64_w, i32_w]; rw [c17b0]) | skip)
   obtain ⟨ji18, hji18⟩ : ∃ j_ : Int, (wrap64 ((t104.length : Int) - 1)) = j_ := ⟨_, rfl⟩
   replace H : (if 0 ≤ (ji18) then (if (ji18) < (t104.length : Int) then (if ((rd_T43 t104 (ji18)).f0) = a1_0 then ((attrs_Same.f k ((rd_T43 t104 (ji18)).f3) l1_3).bind fun t114 => (change_row_put.j0 k (t104.length : Int) t114 t104 a0 a1_0 a1_1 a1_2 l1_3)) else (change_row_put.j0 k (t104.length : Int) false t104 a0 a1_0 a1_1 a1_2 l1_3)) else (none)) else (none)) = some (r1, r2) := by first | (rw [hji18] at H; exact H) | (simp only [hji18] at H ⊢; exact H)
   have hji18w : (IntKind.i64.wrap ((t104.length : Int) - 1)) = ji18 := (i64_w _).trans hji18
   by_cases c19 : 0 ≤ (ji18)
   ·rw [if_pos c19] at H
    have c19b0 : decide (0 ≤ (ji18)) = true := decide_eq_true c19
    clear c19
    by_cases c20 : (ji18) < (t104.length : Int)
    ·rw [if_pos c20] at H
     have c20b0 : decide ((ji18) < (t104.length : Int)) = true := decide_eq_true c20
     clear c20
     by_cases c21 : ((rd_T43 t104 (ji18)).f0) = a1_0
     ·rw [if_pos c21] at H
      have c21b0 : (((rd_T43 t104 (ji18)).f0) == a1_0) = true := beq_iff_eq.mpr c21
      have c21b1 : (((rd_T43 t104 (ji18)).f0) != a1_0) = false := bne_eq_false_iff_eq.mpr c21
      clear c21
      replace H := Option.bind_eq_some_iff.mp H
      obtain ⟨t114, A220, H⟩ := H
      replace H : (change_row_put.j0 k (t104.length : Int) t114 t104 a0 a1_0 a1_1 a1_2 l1_3) = some (r1, r2) := H
      have A22 := am A220
      clear A220
      have H' := am H
      clear H
      try go_wp2
      have n0_ := am (Kd.S_drew HO106.out)
      have n1_ := am (blk_drew BK107.out)
      have n2_ := am (blk_drew BK108.out)
      have n3_ := am (blk_drew BK109.out)
      have n4_ := am (blk_drew BK110.out)
      have n5_ := am (blk_drew BK111.out)
      have n6_ := am (below_drew1 HB.out)
      clear HO106
      clear BK107
      clear BK108
      clear BK109
      clear BK110
      clear BK111
      clear HB
      have HO106 := n0_
      have BK107 := n1_
      have BK108 := n2_
      have BK109 := n3_
      have BK110 := n4_
      have BK111 := n5_
      have HB := n6_
      clear n0_ n1_ n2_ n3_ n4_ n5_ n6_
      have p112 : 0 ≤ ((ji18) : Int) := oda
      have q112 : (ji18) < (t104.length : Int) := oda
      obtain ⟨ad112, A112_3, c112_3, e112, hx112_0, hx112_1, hx112_2, hx112_3, hl112_3, hi112_3⟩ := at_T43 (Kd.S_reads' HO106.out).2.2 (ji18) p112 q112
      cases e112
      obtain ⟨ce112, hce112, hMe112, hcc112⟩ := Kd.S_get HO106.out z43 (ji18) p112 (by first | exact q112 | exact oda | (have e_ := (Kd.S_reads' HO106.out).1; omega))
      obtain ⟨ve112_3, rfl, ge112_3⟩ := k43_openM hMe112
      have hv112_3 := hcc112 3 _ rfl
      rw [add_field _ _ 3 (by omega)] at hv112_3
      replace hv112_3 := Option.some.inj (hv112_3.symm.trans hx112_3)
      rw [hv112_3] at ge112_3
      have HL112_3 := am (show Kd.R k90 90 _ _ _ _ ((rd_T43 t104 (ji18)).f3) from ge112_3)
      clear hv112_3 ge112_3
      clear hcc112 hce112
      have HR112_3 := am hi112_3
      have HC112_3 := am hl112_3
      clear hi112_3 hl112_3
      replace p112 := eq_true p112
      replace q112 := eq_true q112
      have p113 : 0 ≤ ((ji18) : Int) := oda
      have q113 : (ji18) < (t104.length : Int) := oda
      obtain ⟨ad113, A113_3, c113_3, e113, hx113_0, hx113_1, hx113_2, hx113_3, hl113_3, hi113_3⟩ := at_T43 (Kd.S_reads' HO106.out).2.2 (ji18) p113 q113
      obtain rfl : ad112 = ad113 := (by injection e113)
      obtain ⟨ce113, hce113, hMe113, hcc113⟩ := Kd.S_get HO106.out z43 (ji18) p113 (by first | exact q113 | exact oda | (have e_ := (Kd.S_reads' HO106.out).1; omega))
      obtain ⟨ve113_3, rfl, ge113_3⟩ := k43_openM hMe113
      have hv113_3 := hcc113 3 _ rfl
      rw [add_field _ _ 3 (by omega)] at hv113_3
      replace hv113_3 := Option.some.inj (hv113_3.symm.trans hx113_3)
      rw [hv113_3] at ge113_3
      have HL113_3 := am (show Kd.R k90 90 _ _ _ _ ((rd_T43 t104 (ji18)).f3) from ge113_3)
      clear hv113_3 ge113_3
      clear hcc113 hce113
      have HR113_3 := am hi113_3
      have HC113_3 := am hl113_3
      clear hi113_3 hl113_3
      replace p113 := eq_true p113
      replace q113 := eq_true q113
      have ea_ := Option.some.inj (hx112_3.symm.trans hx113_3)
      injection ea_ with ea_ en_ ec_
      subst ea_
      subst ec_
      clear en_
      refine start_ (n := 30) (S := fun w' => w'.cell? ⟨gb107, 0, none⟩ = some (.slice (some ad112) t104.length co6) ∧ w'.cell? ⟨gb107, 1, none⟩ = some (.int .i64 a0) ∧ w'.cell? ⟨gb111, 0, none⟩ = some (.int .i64 a1_0) ∧ w'.cell? ⟨gb111, 1, none⟩ = some (.int .i64 a1_1) ∧ w'.cell? ⟨gb111, 2, none⟩ = some (.string a1_2) ∧ w'.cell? ⟨gb111, 3, none⟩ = some (.slice A1_3 l1_3.length c1_3) ∧ w'.cell? (ad112.add (((ji18)).toNat * 4)) = some (.int .i64 ((rd_T43 t104 (ji18)).f0)) ∧ w'.cell? ⟨(ad112.add (((ji18)).toNat * 4)).block, (ad112.add (((ji18)).toNat * 4)).off + 1, none⟩ = some (.int .i64 ((rd_T43 t104 (ji18)).f1)) ∧ w'.cell? ⟨(ad112.add (((ji18)).toNat * 4)).block, (ad112.add (((ji18)).toNat * 4)).off + 2, none⟩ = some (.string ((rd_T43 t104 (ji18)).f2)) ∧ w'.cell? ⟨(ad112.add (((ji18)).toNat * 4)).block, (ad112.add (((ji18)).toNat * 4)).off + 3, none⟩ = some (.slice A112_3 ((rd_T43 t104 (ji18)).f3).length c112_3) ∧ w'.cell? (ad112.add (((ji18)).toNat * 4)) = some (.int .i64 ((rd_T43 t104 (ji18)).f0)) ∧ w'.cell? ⟨(ad112.add (((ji18)).toNat * 4)).block, (ad112.add (((ji18)).toNat * 4)).off + 1, none⟩ = some (.int .i64 ((rd_T43 t104 (ji18)).f1)) ∧ w'.cell? ⟨(ad112.add (((ji18)).toNat * 4)).block, (ad112.add (((ji18)).toNat * 4)).off + 2, none⟩ = some (.string ((rd_T43 t104 (ji18)).f2)) ∧ w'.cell? ⟨(ad112.add (((ji18)).toNat * 4)).block, (ad112.add (((ji18)).toNat * 4)).off + 3, none⟩ = some (.slice A112_3 ((rd_T43 t104 (ji18)).f3).length c112_3)) (ds := []) #[false, false, false, false, false, false, false, false, false, false, false, false, false, false, false, false, false, false, false, false, false, false, false, false, false, false, false, false, false, false] (by kernel_rfl) rfl rfl ⟨(blk_cell BK107.out 0).trans rfl, (blk_cell BK107.out 1).trans rfl, (blk_cell BK111.out 0).trans rfl, (blk_cell BK111.out 1).trans rfl, (blk_cell BK111.out 2).trans rfl, (blk_cell BK111.out 3).trans rfl, hx112_0, hx112_1, hx112_2, hx112_3, hx113_0, hx113_1, hx113_2, hx113_3⟩ (fun hHeld => ?_); refine with_tabW change_row_put.tab2 change_row_put.bits2 (fun HT_ HW_ => ?_)
      generalize w11.drew = w23 at HO106 BK107 BK108 BK109 BK110 BK111 HB HL112_3 HL113_3 HR112_3 HR113_3 hx112_0 hx112_1 hx112_2 hx112_3 hx113_0 hx113_1 hx113_2 hx113_3 hHeld ⊢
      refine pu 0 10 HT_ ?_
      refine pu 1 11 HT_ ?_
      refine pu 2 12 HT_ ?_
      refine pu 3 13 HT_ ?_
      refine pu 4 14 HT_ ?_
      refine pu 5 15 HT_ ?_
      refine pu 7 17 HT_ ?_
      refine pu 8 18 HT_ ?_
      refine pu 12 22 HT_ ?_
      refine tk 6 16 HT_ HW_ hHeld ?_
      refine pu 9 19 HT_ ?_
      refine pu 10 20 HT_ ?_
      refine tk 11 21 HT_ HW_ hHeld ?_
      refine tk 13 23 HT_ HW_ hHeld ?_
      refine pu 14 24 HT_ ?_
      refine pu 15 25 HT_ ?_
      refine pu 16 26 HT_ ?_
      refine pu 17 27 HT_ ?_
      refine pu 18 28 HT_ ?_
      refine pu 19 29 HT_ ?_
      refine pu 21 31 HT_ ?_
      refine pu 22 32 HT_ ?_
      refine pu 26 36 HT_ ?_
      refine tk 20 30 HT_ HW_ hHeld ?_
      refine pu 23 33 HT_ ?_
      refine pu 24 34 HT_ ?_
      refine tk 25 35 HT_ HW_ hHeld ?_
      refine tk 27 37 HT_ HW_ hHeld ?_
      refine one_ (i := 28) (N := some 38) #[true, true, true, true, true, true, true, true, true, true, true, true, true, true, true, true, true, true, true, true, true, true, true, true, true, true, true, true, true, false] rfl rfl (one_of HT_.out (by kernel_rfl)) (by decide) (fun K hK => ?_)
      refine goes_ Tryd.func49 (by kernel_rfl) rfl #[.slice A112_3 ((rd_T43 t104 (ji18)).f3).length c112_3, .slice A1_3 l1_3.length c1_3] (by rfl) rfl rfl (by (try simp only [List.map_toArray, List.map_cons, List.map_nil]); first | done | (simp only [hji18]; rfl) | rfl | (simp only [List.length_drop, List.length_take]; rfl)) ?_
      with_reducible refine (attrs_Same.calls k _ _ ((rd_T43 t104 (ji18)).f3) _ _ l1_3 t114 _ ?side1 ?side2 ?side3 ?side4 A22.out).mono ?_
      (case side1 => repeat (first | exact (by repeat (first | (with_reducible exact HR113_3.out) | (with_reducible refine Kd.C_alloc ?_ _) | (with_reducible refine Kd.C_drewN ?_ _) | (with_reducible refine Kd.C_drew ?_) | exact HR113_3.out)) | (with_reducible refine Kd.C_alloc ?_ _) | (with_reducible refine Kd.C_drewN ?_ _) | (with_reducible refine Kd.C_drew ?_)))
      (case side2 => exact HC113_3.out)
      (case side3 => exact ks (Kd.C_below HR1_3.out HB.out))
      (case side4 => exact HC1_3.out)
      rintro e w' ⟨rfl, ⟨nd, rfl⟩⟩
      refine ⟨_, rfl, ?_⟩
      refine hK.out _ _ ⟨(blk_cell BK107.out 0).trans rfl, (blk_cell BK107.out 1).trans rfl, (blk_cell BK111.out 0).trans rfl, (blk_cell BK111.out 1).trans rfl, (blk_cell BK111.out 2).trans rfl, (blk_cell BK111.out 3).trans rfl, hHeld.2.2.2.2.2.2.1, hHeld.2.2.2.2.2.2.2.1, hHeld.2.2.2.2.2.2.2.2.1, hHeld.2.2.2.2.2.2.2.2.2.1, hHeld.2.2.2.2.2.2.2.2.2.2.1, hHeld.2.2.2.2.2.2.2.2.2.2.2.1, hHeld.2.2.2.2.2.2.2.2.2.2.2.2.1, hHeld.2.2.2.2.2.2.2.2.2.2.2.2.2⟩ (fun hHeld => ?_)
      clear hK K
      refine norm_ (a' := ?_) ?_ ?_
      rotate_left
      ·show Act.put _ (some 38) _ = _
       simp only [Act.put, List.setIfInBounds_toArray, List.set_cons_zero, List.set_cons_succ, i64_w, i32_w]
       rfl
      refine pu 29 39 HT_ ?_
      refine done_ (done_of HT_.out (by kernel_rfl)) ?_
      try go_wp2
      go_meet
      case rel => exact ⟨_, (t114), (rs), H', ⟨by first | omega | exact Nat.le_refl _⟩, ⟨by (with_reducible repeat (first | apply Kd.S_alloc | apply Kd.S_drewN | apply Kd.S_drew)); exact Kd.S_mono HO106.out (fun _ hk => by first | exact ⟨hk.1.2, hk.2⟩ | (revert hk; simp +contextual; done))⟩, ⟨bk BK107.out⟩, ⟨bk BK108.out⟩, ⟨bk BK109.out⟩, ⟨bk BK110.out⟩, ⟨bk BK111.out⟩, ⟨bl HB.out⟩⟩
     rw [if_neg c21] at H
     have c21b0 : (((rd_T43 t104 (ji18)).f0) == a1_0) = false := beq_eq_false_iff_ne.mpr c21
     have c21b1 : (((rd_T43 t104 (ji18)).f0) != a1_0) = true := bne_iff_ne.mpr c21
     have H' := am H
     clear H
     try go_wp2
     have n0_ := am (Kd.S_drew HO106.out)
     have n1_ := am (blk_drew BK107.out)
     have n2_ := am (blk_drew BK108.out)
     have n3_ := am (blk_drew BK109.out)
     have n4_ := am (blk_drew BK110.out)
     have n5_ := am (blk_drew BK111.out)
     have n6_ := am (below_drew1 HB.out)
     clear HO106
     clear BK107
     clear BK108
     clear BK109
     clear BK110
     clear BK111
     clear HB
     have HO106 := n0_
     have BK107 := n1_
     have BK108 := n2_
     have BK109 := n3_
     have BK110 := n4_
     have BK111 := n5_
     have HB := n6_
     clear n0_ n1_ n2_ n3_ n4_ n5_ n6_
     have p112 : 0 ≤ ((ji18) : Int) := oda
     have q112 : (ji18) < (t104.length : Int) := oda
     obtain ⟨ad112, A112_3, c112_3, e112, hx112_0, hx112_1, hx112_2, hx112_3, hl112_3, hi112_3⟩ := at_T43 (Kd.S_reads' HO106.out).2.2 (ji18) p112 q112
     cases e112
     obtain ⟨ce112, hce112, hMe112, hcc112⟩ := Kd.S_get HO106.out z43 (ji18) p112 (by first | exact q112 | exact oda | (have e_ := (Kd.S_reads' HO106.out).1; omega))
     obtain ⟨ve112_3, rfl, ge112_3⟩ := k43_openM hMe112
     have hv112_3 := hcc112 3 _ rfl
     rw [add_field _ _ 3 (by omega)] at hv112_3
     replace hv112_3 := Option.some.inj (hv112_3.symm.trans hx112_3)
     rw [hv112_3] at ge112_3
     have HL112_3 := am (show Kd.R k90 90 _ _ _ _ ((rd_T43 t104 (ji18)).f3) from ge112_3)
     clear hv112_3 ge112_3
     clear hcc112 hce112
     have HR112_3 := am hi112_3
     have HC112_3 := am hl112_3
     clear hi112_3 hl112_3
     replace p112 := eq_true p112
     replace q112 := eq_true q112
     refine start_ (n := 30) (S := fun w' => w'.cell? ⟨gb107, 0, none⟩ = some (.slice (some ad112) t104.length co6) ∧ w'.cell? ⟨gb107, 1, none⟩ = some (.int .i64 a0) ∧ w'.cell? ⟨gb111, 0, none⟩ = some (.int .i64 a1_0) ∧ w'.cell? ⟨gb111, 1, none⟩ = some (.int .i64 a1_1) ∧ w'.cell? ⟨gb111, 2, none⟩ = some (.string a1_2) ∧ w'.cell? ⟨gb111, 3, none⟩ = some (.slice A1_3 l1_3.length c1_3) ∧ w'.cell? (ad112.add (((ji18)).toNat * 4)) = some (.int .i64 ((rd_T43 t104 (ji18)).f0)) ∧ w'.cell? ⟨(ad112.add (((ji18)).toNat * 4)).block, (ad112.add (((ji18)).toNat * 4)).off + 1, none⟩ = some (.int .i64 ((rd_T43 t104 (ji18)).f1)) ∧ w'.cell? ⟨(ad112.add (((ji18)).toNat * 4)).block, (ad112.add (((ji18)).toNat * 4)).off + 2, none⟩ = some (.string ((rd_T43 t104 (ji18)).f2)) ∧ w'.cell? ⟨(ad112.add (((ji18)).toNat * 4)).block, (ad112.add (((ji18)).toNat * 4)).off + 3, none⟩ = some (.slice A112_3 ((rd_T43 t104 (ji18)).f3).length c112_3)) (ds := []) #[false, false, false, false, false, false, false, false, false, false, false, false, false, false, false, false, false, false, false, false, false, false, false, false, false, false, false, false, false, false] (by kernel_rfl) rfl rfl ⟨(blk_cell BK107.out 0).trans rfl, (blk_cell BK107.out 1).trans rfl, (blk_cell BK111.out 0).trans rfl, (blk_cell BK111.out 1).trans rfl, (blk_cell BK111.out 2).trans rfl, (blk_cell BK111.out 3).trans rfl, hx112_0, hx112_1, hx112_2, hx112_3⟩ (fun hHeld => ?_); refine with_tabW change_row_put.tab2 change_row_put.bits2 (fun HT_ HW_ => ?_)
     generalize w11.drew = w24 at HO106 BK107 BK108 BK109 BK110 BK111 HB HL112_3 HR112_3 hx112_0 hx112_1 hx112_2 hx112_3 hHeld ⊢
     refine pu 0 10 HT_ ?_
     refine pu 1 11 HT_ ?_
     refine pu 2 12 HT_ ?_
     refine pu 3 13 HT_ ?_
     refine pu 4 14 HT_ ?_
     refine pu 5 15 HT_ ?_
     refine pu 7 17 HT_ ?_
     refine pu 8 18 HT_ ?_
     refine pu 12 22 HT_ ?_
     refine tk 6 16 HT_ HW_ hHeld ?_
     refine pu 9 19 HT_ ?_
     refine pu 10 20 HT_ ?_
     refine tk 11 21 HT_ HW_ hHeld ?_
     refine tk 13 23 HT_ HW_ hHeld ?_
     refine pu 14 24 HT_ ?_
     refine pu 15 25 HT_ ?_
     refine pu 16 26 HT_ ?_
     refine pn 17 27 HT_ ?_
     refine pn 18 28 HT_ ?_
     refine pn 19 29 HT_ ?_
     refine pn 20 30 HT_ ?_
     refine pn 21 31 HT_ ?_
     refine pn 22 32 HT_ ?_
     refine pn 23 33 HT_ ?_
     refine pn 24 34 HT_ ?_
     refine pn 25 35 HT_ ?_
     refine pn 26 36 HT_ ?_
     refine pn 27 37 HT_ ?_
     refine pn 28 38 HT_ ?_
     refine pu 29 39 HT_ ?_
     refine done_ (done_of HT_.out (by kernel_rfl)) ?_
     try go_wp2
     go_meet
     case rel => exact ⟨_, (false), (rs), H', ⟨by first | omega | exact Nat.le_refl _⟩, ⟨by (with_reducible repeat (first | apply Kd.S_alloc | apply Kd.S_drewN | apply Kd.S_drew)); exact Kd.S_mono HO106.out (fun _ hk => by first | exact ⟨hk.1.2, hk.2⟩ | (revert hk; simp +contextual; done))⟩, ⟨bk BK107.out⟩, ⟨bk BK108.out⟩, ⟨bk BK109.out⟩, ⟨bk BK110.out⟩, ⟨bk BK111.out⟩, ⟨bl HB.out⟩⟩
    rw [if_neg c20] at H
    exact absurd H (by simp)
   rw [if_neg c19] at H
   exact absurd H (by simp)
  rw [if_neg c17] at H
  have c17b0 : decide (0 < (t104.length : Int)) = false := decide_eq_false c17
  have c17b1 : decide (0 < t104.length) = false := decide_eq_false (by omega)
  clear c17
  (first | rw [c17b0] | (simp only [i64_w, i32_w]; rw [c17b0]) | skip)
  have H' := am H
  clear H
  try go_wp2
  have n0_ := am (Kd.S_drew HO106.out)
  have n1_ := am (blk_drew BK107.out)
  have n2_ := am (blk_drew BK108.out)
  have n3_ := am (blk_drew BK109.out)
  have n4_ := am (blk_drew BK110.out)
  have n5_ := am (blk_drew BK111.out)
  have n6_ := am (below_drew1 HB.out)
  clear HO106
  clear BK107
  clear BK108
  clear BK109
  clear BK110
  clear BK111
  clear HB
  have HO106 := n0_
  have BK107 := n1_
  have BK108 := n2_
  have BK109 := n3_
  have BK110 := n4_
  have BK111 := n5_
  have HB := n6_
  clear n0_ n1_ n2_ n3_ n4_ n5_ n6_
  refine start_ (n := 30) (S := fun w' => True) (ds := []) #[false, false, false, false, false, false, false, false, false, false, false, false, false, false, false, false, false, false, false, false, false, false, false, false, false, false, false, false, false, false] (by kernel_rfl) rfl rfl trivial (fun hHeld => ?_); refine with_tabW change_row_put.tab2 change_row_put.bits2 (fun HT_ HW_ => ?_)
  generalize w11.drew = w25 at HO106 BK107 BK108 BK109 BK110 BK111 HB hHeld ⊢
  refine pu 0 10 HT_ ?_
  refine pu 1 11 HT_ ?_
  refine pu 2 12 HT_ ?_
  refine pn 3 13 HT_ ?_
  refine pn 4 14 HT_ ?_
  refine pn 5 15 HT_ ?_
  refine pn 6 16 HT_ ?_
  refine pn 7 17 HT_ ?_
  refine pn 8 18 HT_ ?_
  refine pn 9 19 HT_ ?_
  refine pn 10 20 HT_ ?_
  refine pn 11 21 HT_ ?_
  refine pn 12 22 HT_ ?_
  refine pn 13 23 HT_ ?_
  refine pn 14 24 HT_ ?_
  refine pu 15 25 HT_ ?_
  refine pu 16 26 HT_ ?_
  refine pn 17 27 HT_ ?_
  refine pn 18 28 HT_ ?_
  refine pn 19 29 HT_ ?_
  refine pn 20 30 HT_ ?_
  refine pn 21 31 HT_ ?_
  refine pn 22 32 HT_ ?_
  refine pn 23 33 HT_ ?_
  refine pn 24 34 HT_ ?_
  refine pn 25 35 HT_ ?_
  refine pn 26 36 HT_ ?_
  refine pn 27 37 HT_ ?_
  refine pn 28 38 HT_ ?_
  refine pu 29 39 HT_ ?_
  refine done_ (done_of HT_.out (by kernel_rfl)) ?_
  try go_wp2
  go_meet
  case rel => exact ⟨_, (false), (rs), H', ⟨by first | omega | exact Nat.le_refl _⟩, ⟨by (with_reducible repeat (first | apply Kd.S_alloc | apply Kd.S_drewN | apply Kd.S_drew)); exact Kd.S_mono HO106.out (fun _ hk => by first | exact ⟨hk.1.2, hk.2⟩ | (revert hk; simp +contextual; done))⟩, ⟨bk BK107.out⟩, ⟨bk BK108.out⟩, ⟨bk BK109.out⟩, ⟨bk BK110.out⟩, ⟨bk BK111.out⟩, ⟨bl HB.out⟩⟩
 case rest =>
  clear HC4
  try clear c1; try clear p1; try clear q1; try clear hx1; try clear c2; try clear p2; try clear c4; try clear c11; try clear p11; try clear q11; try clear hx11; try clear c17; try clear c17b0; try clear c17b1; try clear c19; try clear c20; try clear c21; try clear c21b0; try clear c21b1; try clear hx112_0; try clear hx112_1; try clear hx112_2; try clear hx112_3; try clear p112; try clear q112
  obtain ⟨kq, x39_3, rfl, HA, HJ3, HO_108000, BK107, BK108, BK109, BK110, BK111, HB⟩ := hcut
  cases kq with
  | zero => exact absurd HA.out (by simp [change_row_put.j0])
  | succ kj3 =>
   have H := HA.out
   clear HA
   simp only [change_row_put.j0] at H
   by_cases c26 : x39_3 = true
   ·subst c26
    have H1 : (if 0 ≤ (wrap64 ((t104.length : Int) - 1)) then (if (wrap64 ((t104.length : Int) - 1)) < (t104.length : Int) then ((some (t104.set ((wrap64 ((t104.length : Int) - 1)) : Int).toNat (⟨(rd_T43 t104 (wrap64 ((t104.length : Int) - 1))).f0, wrap64 (((rd_T43 t104 (wrap64 ((t104.length : Int) - 1))).f1) + a1_1), (rd_T43 t104 (wrap64 ((t104.length : Int) - 1))).f2, (rd_T43 t104 (wrap64 ((t104.length : Int) - 1))).f3⟩ : S43) : List (S43))).bind fun y116 => (if ((rd_T43 y116 (wrap64 ((t104.length : Int) - 1))).f2).size + a1_2.size ≤ 9223372036854775807 then (some ((y116.set ((wrap64 ((t104.length : Int) - 1)) : Int).toNat (⟨(rd_T43 y116 (wrap64 ((t104.length : Int) - 1))).f0, (rd_T43 y116 (wrap64 ((t104.length : Int) - 1))).f1, ((rd_T43 y116 (wrap64 ((t104.length : Int) - 1))).f2) ++ a1_2, (rd_T43 y116 (wrap64 ((t104.length : Int) - 1))).f3⟩ : S43)), a0)) else (none))) else (none)) else (none)) = some (r1, r2) := by rw [if_pos rfl] at H; exact H
    clear H
    have H := H1
    clear H1
    obtain ⟨ji27, hji27⟩ : ∃ j_ : Int, (wrap64 ((t104.length : Int) - 1)) = j_ := ⟨_, rfl⟩
    replace H : (if 0 ≤ (ji27) then (if (ji27) < (t104.length : Int) then ((some (t104.set ((ji27) : Int).toNat (⟨(rd_T43 t104 (ji27)).f0, wrap64 (((rd_T43 t104 (ji27)).f1) + a1_1), (rd_T43 t104 (ji27)).f2, (rd_T43 t104 (ji27)).f3⟩ : S43) : List (S43))).bind fun y116 => (if ((rd_T43 y116 (ji27)).f2).size + a1_2.size ≤ 9223372036854775807 then (some ((y116.set ((ji27) : Int).toNat (⟨(rd_T43 y116 (ji27)).f0, (rd_T43 y116 (ji27)).f1, ((rd_T43 y116 (ji27)).f2) ++ a1_2, (rd_T43 y116 (ji27)).f3⟩ : S43)), a0)) else (none))) else (none)) else (none)) = some (r1, r2) := by first | (rw [hji27] at H; exact H) | (simp only [hji27] at H ⊢; exact H)
    have hji27w : (IntKind.i64.wrap ((t104.length : Int) - 1)) = ji27 := (i64_w _).trans hji27
    by_cases c28 : 0 ≤ (ji27)
    ·rw [if_pos c28] at H
     have c28b0 : decide (0 ≤ (ji27)) = true := decide_eq_true c28
     clear c28
     by_cases c29 : (ji27) < (t104.length : Int)
     ·rw [if_pos c29] at H
      have c29b0 : decide ((ji27) < (t104.length : Int)) = true := decide_eq_true c29
      clear c29
      obtain ⟨y116, hy116⟩ : ∃ y_ : List (S43), y_ = (t104.set ((ji27) : Int).toNat (⟨(rd_T43 t104 (ji27)).f0, wrap64 (((rd_T43 t104 (ji27)).f1) + a1_1), (rd_T43 t104 (ji27)).f2, (rd_T43 t104 (ji27)).f3⟩ : S43)) := ⟨_, rfl⟩
      replace H : (if ((rd_T43 y116 (ji27)).f2).size + a1_2.size ≤ 9223372036854775807 then (some ((y116.set ((ji27) : Int).toNat (⟨(rd_T43 y116 (ji27)).f0, (rd_T43 y116 (ji27)).f1, ((rd_T43 y116 (ji27)).f2) ++ a1_2, (rd_T43 y116 (ji27)).f3⟩ : S43)), a0)) else (none)) = some (r1, r2) := by first | (rw [hy116]; with_reducible exact H) | (have H2_ := (Option.bind_some _ _).symm.trans H; rw [hy116]; with_reducible exact H2_) | (have H2_ := (Option.bind_some _ _).symm.trans H; with_reducible exact H2_) | with_reducible exact H | (rw [hy116]; exact H) | exact H
      have Ny116 := am hy116
      clear hy116
      by_cases c31 : ((rd_T43 y116 (ji27)).f2).size + a1_2.size ≤ 9223372036854775807
      ·rw [if_pos c31] at H
       have c31b0 := eq_true c31
       have c31b1 : decide (((rd_T43 y116 (ji27)).f2).size + a1_2.size ≤ 9223372036854775807) = true := decide_eq_true c31
       try have c31b2 : (9223372036854775807 < ((rd_T43 y116 (ji27)).f2).size + a1_2.size) = False := eq_false (Nat.not_lt.2 c31)
       obtain ⟨y118, hy118⟩ : ∃ y_ : List (S43), y_ = (y116.set ((ji27) : Int).toNat (⟨(rd_T43 y116 (ji27)).f0, (rd_T43 y116 (ji27)).f1, ((rd_T43 y116 (ji27)).f2) ++ a1_2, (rd_T43 y116 (ji27)).f3⟩ : S43)) := ⟨_, rfl⟩
       replace H : (some (y118, a0)) = some (r1, r2) := by first | (rw [hy118]; with_reducible exact H) | (have H2_ := (Option.bind_some _ _).symm.trans H; rw [hy118]; with_reducible exact H2_) | (have H2_ := (Option.bind_some _ _).symm.trans H; with_reducible exact H2_) | with_reducible exact H | (rw [hy118]; exact H) | exact H
       have Ny118 := am hy118
       clear hy118
       simp only [Option.some.injEq, Prod.mk.injEq] at H
       obtain ⟨rfl, rfl⟩ := H
       try go_wp2
       have n0_ := am (Kd.S_drew HO_108000.out)
       have n1_ := am (blk_drew BK107.out)
       have n2_ := am (blk_drew BK108.out)
       have n3_ := am (blk_drew BK109.out)
       have n4_ := am (blk_drew BK110.out)
       have n5_ := am (blk_drew BK111.out)
       have n6_ := am (below_drew1 HB.out)
       clear HO_108000
       clear BK107
       clear BK108
       clear BK109
       clear BK110
       clear BK111
       clear HB
       have HO_108000 := n0_
       have BK107 := n1_
       have BK108 := n2_
       have BK109 := n3_
       have BK110 := n4_
       have BK111 := n5_
       have HB := n6_
       clear n0_ n1_ n2_ n3_ n4_ n5_ n6_
       have p115 : 0 ≤ ((ji27) : Int) := oda
       have q115 : (ji27) < (t104.length : Int) := oda
       obtain ⟨ad115, A115_3, c115_3, e115, hx115_0, hx115_1, hx115_2, hx115_3, hl115_3, hi115_3⟩ := at_T43 (Kd.S_reads' HO_108000.out).2.2 (ji27) p115 q115
       cases e115
       obtain ⟨ce115, hce115, hMe115, hcc115⟩ := Kd.S_get HO_108000.out z43 (ji27) p115 (by first | exact q115 | exact oda | (have e_ := (Kd.S_reads' HO_108000.out).1; omega))
       obtain ⟨ve115_3, rfl, ge115_3⟩ := k43_openM hMe115
       have hv115_3 := hcc115 3 _ rfl
       rw [add_field _ _ 3 (by omega)] at hv115_3
       replace hv115_3 := Option.some.inj (hv115_3.symm.trans hx115_3)
       rw [hv115_3] at ge115_3
       have HL115_3 := am (show Kd.R k90 90 _ _ _ _ ((rd_T43 t104 (ji27)).f3) from ge115_3)
       clear hv115_3 ge115_3
       clear hcc115 hce115
       have HR115_3 := am hi115_3
       have HC115_3 := am hl115_3
       clear hi115_3 hl115_3
       replace p115 := eq_true p115
       replace q115 := eq_true q115
       have p30 : 0 ≤ ((ji27) : Int) := oda
       have q30 : ((ji27) : Int) < ((t104.length : Int) : Int) := oda
       obtain ⟨go30, co30, eo30, gb30, gl30, cl30, HG30⟩ := Kd.S_form HO_108000.out (by omega)
       (first | cases eo30 | (injection eo30 with ea_ en_ ec_; (first | subst ea_ | (injection ea_ with ea_; subst ea_)); subst ec_; clear en_))
       have GB30 := am gb30
       have GG30 := am HG30
       clear gb30 gl30 HG30
       (first | simp only [add_plain] at hx115_0 | skip)
       (first | simp only [add_plain] at hx115_1 | skip)
       (first | simp only [add_plain] at hx115_2 | skip)
       (first | simp only [add_plain] at hx115_3 | skip)
       obtain ⟨_, ce30, hcl30, hM30, hcc30, hfr30, _, _⟩ := Kd.S_elem HO_108000.out z43 ((ji27) : Int) p30 q30
       obtain ⟨ve30_3, rfl, ge30_3⟩ := k43_openM hM30
       have hx30_0 : World.cell? _ ⟨go30, ((ji27) : Int).toNat * 4, none⟩ = some (.int .i64 ((rd_T43 t104 (ji27)).f0)) := hcc30 0 _ rfl
       have hx30_1 : World.cell? _ ⟨go30, ((ji27) : Int).toNat * 4 + 1, none⟩ = some (.int .i64 ((rd_T43 t104 (ji27)).f1)) := hcc30 1 _ rfl
       have hx30_2 : World.cell? _ ⟨go30, ((ji27) : Int).toNat * 4 + 2, none⟩ = some (.string ((rd_T43 t104 (ji27)).f2)) := hcc30 2 _ rfl
       have hx30_3 : World.cell? _ ⟨go30, ((ji27) : Int).toNat * 4 + 3, none⟩ = some (ve30_3) := hcc30 3 _ rfl
       have hf30_0 : World.frozen? _ ⟨go30, ((ji27) : Int).toNat * 4, none⟩ = false := hfr30 0
       have hf30_1 : World.frozen? _ ⟨go30, ((ji27) : Int).toNat * 4 + 1, none⟩ = false := hfr30 1
       have hf30_2 : World.frozen? _ ⟨go30, ((ji27) : Int).toNat * 4 + 2, none⟩ = false := hfr30 2
       have hf30_3 : World.frozen? _ ⟨go30, ((ji27) : Int).toNat * 4 + 3, none⟩ = false := hfr30 3
       clear hcl30 hcc30 hfr30 hM30
       replace p30 := eq_true p30
       replace q30 := eq_true q30
       have HX34 := am (show Kd.S k43 43 _ w.heap.size (fun k_ => ((fun k_ => k_ ≠ gb110 ∧ k_ ≠ gb111)) k_ ∧ ¬ (fun _ => False) k_) (.slice (some ⟨go30, 0, none⟩) t104.length co6) t104 from (by exact Kd.S_mono HO_108000.out (fun k_ hk => by first | exact ⟨⟨hk.1, hk.2⟩, fun e_ => e_⟩ | (revert hk; simp +contextual; done))))
       obtain ⟨oki34, ce34, hcl34, hM34, hcc34, hfr34, hoki34, hH34⟩ := Kd.S_elem HX34.out z43 ((ji27) : Int) (oda) (by have h_ : ((ji27) : Int) < ((t104.length : Int) : Int) := oda; first | exact h_ | (have e_ := (Kd.S_reads' HO_108000.out).1; omega) | simpa using h_)
       obtain ⟨ve34_3, rfl, ge34_3⟩ := k43_openM hM34
       have HP34 := (Kd.S_seg hH34 (oda) (by have h_ : ((ji27) : Int) < ((t104.length : Int) : Int) := oda; first | exact h_ | (have e_ := (Kd.S_reads' HO_108000.out).1; omega) | simpa using h_) (seg := [.int .i64 (wrap64 (((rd_T43 t104 (ji27)).f1) + a1_1))]) (j := 1) (show 2 ≤ 4 from by decide) (x' := (⟨(rd_T43 t104 (ji27)).f0, wrap64 (((rd_T43 t104 (ji27)).f1) + a1_1), (rd_T43 t104 (ji27)).f2, (rd_T43 t104 (ji27)).f3⟩ : S43)) (k43_mkM _ _ _ (⟨(rd_T43 t104 (ji27)).f0, wrap64 (((rd_T43 t104 (ji27)).f1) + a1_1), (rd_T43 t104 (ji27)).f2, (rd_T43 t104 (ji27)).f3⟩ : S43) ge34_3) (fun _ hk => by first | exact Or.inl hk | (revert hk; simp +contextual; done)) (fun _ hk => by first | exact hk.elim | (revert hk; simp +contextual; done))).1
       rw [← Ny116.out] at HP34
       have HQ34 := am HP34
       clear hcl34 hcc34 hfr34 hM34 HP34
       refine start_ (n := 15) (S := fun w' => w'.cell? ⟨gb107, 0, none⟩ = some (.slice (some ⟨go30, 0, none⟩) t104.length co6) ∧ w'.cell? ⟨gb107, 1, none⟩ = some (.int .i64 a0) ∧ w'.cell? ⟨gb111, 0, none⟩ = some (.int .i64 a1_0) ∧ w'.cell? ⟨gb111, 1, none⟩ = some (.int .i64 a1_1) ∧ w'.cell? ⟨gb111, 2, none⟩ = some (.string a1_2) ∧ w'.cell? ⟨gb111, 3, none⟩ = some (.slice A1_3 l1_3.length c1_3) ∧ w'.cell? ⟨go30, ((ji27) : Int).toNat * 4, none⟩ = some (.int .i64 ((rd_T43 t104 (ji27)).f0)) ∧ w'.cell? ⟨go30, ((ji27) : Int).toNat * 4 + 1, none⟩ = some (.int .i64 ((rd_T43 t104 (ji27)).f1)) ∧ w'.cell? ⟨go30, ((ji27) : Int).toNat * 4 + 2, none⟩ = some (.string ((rd_T43 t104 (ji27)).f2)) ∧ w'.cell? ⟨go30, ((ji27) : Int).toNat * 4 + 3, none⟩ = some (.slice A115_3 ((rd_T43 t104 (ji27)).f3).length c115_3)) (ds := [14]) #[false, false, false, false, false, false, false, false, false, false, false, false, false, false, false] (by kernel_rfl) rfl rfl ⟨(blk_cell BK107.out 0).trans rfl, (blk_cell BK107.out 1).trans rfl, (blk_cell BK111.out 0).trans rfl, (blk_cell BK111.out 1).trans rfl, (blk_cell BK111.out 2).trans rfl, (blk_cell BK111.out 3).trans rfl, hx115_0, hx115_1, hx115_2, hx115_3⟩ (fun hHeld => ?_); refine with_tabW change_row_put.tab3 change_row_put.bits3 (fun HT_ HW_ => ?_)
       generalize wc.drew = w33 at HO_108000 BK107 BK108 BK109 BK110 BK111 HB GG30 HL115_3 HQ34 HR115_3 hf30_0 hf30_1 hf30_2 hf30_3 hx115_0 hx115_1 hx115_2 hx115_3 hx30_0 hx30_1 hx30_2 hx30_3 hHeld ⊢
       refine pu 0 40 HT_ ?_
       refine pu 1 41 HT_ ?_
       refine pu 2 42 HT_ ?_
       refine pu 4 44 HT_ ?_
       refine pu 5 45 HT_ ?_
       refine pu 9 49 HT_ ?_
       refine tk 3 43 HT_ HW_ hHeld ?_
       refine pu 6 46 HT_ ?_
       refine pu 7 47 HT_ ?_
       refine tk 8 48 HT_ HW_ hHeld ?_
       refine tk 10 50 HT_ HW_ hHeld ?_
       refine pu 11 51 HT_ ?_
       refine pu 12 52 HT_ ?_
       refine pu 13 53 HT_ ?_
       refine last_ (i := 14) (N := none) #[true, true, true, true, true, true, true, true, true, true, true, true, true, true, true] rfl rfl (one_of HT_.out (by kernel_rfl)) (by decide) (fun K hK => ?_)
       refine skip_ (w1 := ?_) (by rfl) rfl ?_ ?_
       rotate_left
       ·go_simp
        rfl
       refine hK.out _ _ ?_
       clear hK K
       refine done_ (done_of HT_.out (by kernel_rfl)) ?_
       try go_wp2
       have n0_ : Aside0 (Kd.S k43 43 (w33.setCell ⟨go30, ((ji27) : Int).toNat * 4 + 1, none⟩ (.int .i64 (wrap64 (((rd_T43 t104 (ji27)).f1) + a1_1)))) w.heap.size (fun k_ => k_ ≠ gb110 ∧ k_ ≠ gb111) (.slice (some ⟨go30, 0, none⟩) t104.length co6) y116) := ⟨ks HQ34.out⟩
       have n1_ : Aside0 (Kd.R k90 90 (w33.setCell ⟨go30, ((ji27) : Int).toNat * 4 + 1, none⟩ (.int .i64 (wrap64 (((rd_T43 t104 (ji27)).f1) + a1_1)))) w.heap.size (fun k_ => some k_ ≠ (.slice (some ⟨go30, 0, none⟩) t104.length co6 : Value).ownBlock ∧ k_ ≠ gb110 ∧ k_ ≠ gb111) (.slice A115_3 ((rd_T43 t104 (ji27)).f3).length c115_3) ((rd_T43 t104 (ji27)).f3)) := ⟨by (with_reducible repeat (first | apply Kd.R_alloc | apply Kd.R_drewN | apply Kd.R_drew)); exact Kd.R_mono (Kd.R_far (p := ⟨go30, ((ji27) : Int).toNat * 4 + 1, none⟩) (Kd.R_types HL115_3.out GG30.out (by decide)) (fun _ hk => by first | exact hk.2 | (revert hk; simp +contextual; done)) (.int .i64 (wrap64 (((rd_T43 t104 (ji27)).f1) + a1_1)))) (fun _ hk => by first | exact ⟨hk.1.2, ⟨hk.1.1.1, hk.1.1.2⟩⟩ | (revert hk; simp +contextual; done))⟩
       have n2_ : Aside0 ((w33.setCell ⟨go30, ((ji27) : Int).toNat * 4 + 1, none⟩ (.int .i64 (wrap64 (((rd_T43 t104 (ji27)).f1) + a1_1)))).heap[gb107]? = some (.cells #[.slice (some ⟨go30, 0, none⟩) t104.length co6, .int .i64 a0] 65 (0, 0))) := ⟨by (with_reducible repeat (first | refine blk_drewN ?_ _ | refine blk_drew ?_ | refine blk_alloc ?_ _)); refine blk_far ?_ (by have h_ := Kd.S_ne HO_108000.out BK107.out (by decide); intro e_; exact h_ (by rw [e_]; rfl)) _; (with_reducible repeat (first | refine blk_drewN ?_ _ | refine blk_drew ?_ | refine blk_alloc ?_ _)); exact BK107.out⟩
       have n3_ : Aside0 ((w33.setCell ⟨go30, ((ji27) : Int).toNat * 4 + 1, none⟩ (.int .i64 (wrap64 (((rd_T43 t104 (ji27)).f1) + a1_1)))).heap[gb108]? = some (.cells cs1_ 26 (0, 0))) := ⟨by (with_reducible repeat (first | refine blk_drewN ?_ _ | refine blk_drew ?_ | refine blk_alloc ?_ _)); refine blk_far ?_ (by have h_ := Kd.S_ne HO_108000.out BK108.out (by decide); intro e_; exact h_ (by rw [e_]; rfl)) _; (with_reducible repeat (first | refine blk_drewN ?_ _ | refine blk_drew ?_ | refine blk_alloc ?_ _)); exact BK108.out⟩
       have n4_ : Aside0 ((w33.setCell ⟨go30, ((ji27) : Int).toNat * 4 + 1, none⟩ (.int .i64 (wrap64 (((rd_T43 t104 (ji27)).f1) + a1_1)))).heap[gb109]? = some (.cells cs2_ 26 (0, 0))) := ⟨by (with_reducible repeat (first | refine blk_drewN ?_ _ | refine blk_drew ?_ | refine blk_alloc ?_ _)); refine blk_far ?_ (by have h_ := Kd.S_ne HO_108000.out BK109.out (by decide); intro e_; exact h_ (by rw [e_]; rfl)) _; (with_reducible repeat (first | refine blk_drewN ?_ _ | refine blk_drew ?_ | refine blk_alloc ?_ _)); exact BK109.out⟩
       have n5_ : Aside0 ((w33.setCell ⟨go30, ((ji27) : Int).toNat * 4 + 1, none⟩ (.int .i64 (wrap64 (((rd_T43 t104 (ji27)).f1) + a1_1)))).heap[gb110]? = some (.cells cs3_ t3_ (0, 0))) := ⟨by (with_reducible repeat (first | refine blk_drewN ?_ _ | refine blk_drew ?_ | refine blk_alloc ?_ _)); refine blk_far ?_ (by first | (have h_ := Kd.S_away HO_108000.out (fun _ hk => hk.1); intro e_; exact h_ (by rw [e_]; rfl)) | (have h_ := Kd.S_away HO_108000.out (fun _ hk => hk); intro e_; exact h_ (by rw [e_]; rfl)) | (have h_ := Kd.S_away HO_108000.out (fun _ hk => hk.2); intro e_; exact h_ (by rw [e_]; rfl)) | (have h_ := Kd.S_away HO_108000.out (fun _ hk => hk.1.1); intro e_; exact h_ (by rw [e_]; rfl)) | (have h_ := Kd.S_away HO_108000.out (fun _ hk => hk.1.2); intro e_; exact h_ (by rw [e_]; rfl)) | (have h_ := Kd.S_away HO_108000.out (fun _ hk => hk.2.1); intro e_; exact h_ (by rw [e_]; rfl)) | (have h_ := Kd.S_away HO_108000.out (fun _ hk => hk.2.2); intro e_; exact h_ (by rw [e_]; rfl)) | (have h_ := Kd.S_away HO_108000.out (fun _ hk => hk.1.1.2); intro e_; exact h_ (by rw [e_]; rfl)) | (have h_ := Kd.S_away HO_108000.out (fun _ hk => hk.1.2.1); intro e_; exact h_ (by rw [e_]; rfl))) _; (with_reducible repeat (first | refine blk_drewN ?_ _ | refine blk_drew ?_ | refine blk_alloc ?_ _)); exact BK110.out⟩
       have n6_ : Aside0 ((w33.setCell ⟨go30, ((ji27) : Int).toNat * 4 + 1, none⟩ (.int .i64 (wrap64 (((rd_T43 t104 (ji27)).f1) + a1_1)))).heap[gb111]? = some (.cells #[.int .i64 a1_0, .int .i64 a1_1, .string a1_2, .slice A1_3 l1_3.length c1_3] 43 (0, 0))) := ⟨by (with_reducible repeat (first | refine blk_drewN ?_ _ | refine blk_drew ?_ | refine blk_alloc ?_ _)); refine blk_far ?_ (by first | (have h_ := Kd.S_away HO_108000.out (fun _ hk => hk.2); intro e_; exact h_ (by rw [e_]; rfl)) | (have h_ := Kd.S_away HO_108000.out (fun _ hk => hk); intro e_; exact h_ (by rw [e_]; rfl)) | (have h_ := Kd.S_away HO_108000.out (fun _ hk => hk.1); intro e_; exact h_ (by rw [e_]; rfl)) | (have h_ := Kd.S_away HO_108000.out (fun _ hk => hk.1.1); intro e_; exact h_ (by rw [e_]; rfl)) | (have h_ := Kd.S_away HO_108000.out (fun _ hk => hk.1.2); intro e_; exact h_ (by rw [e_]; rfl)) | (have h_ := Kd.S_away HO_108000.out (fun _ hk => hk.2.1); intro e_; exact h_ (by rw [e_]; rfl)) | (have h_ := Kd.S_away HO_108000.out (fun _ hk => hk.2.2); intro e_; exact h_ (by rw [e_]; rfl)) | (have h_ := Kd.S_away HO_108000.out (fun _ hk => hk.1.1.2); intro e_; exact h_ (by rw [e_]; rfl)) | (have h_ := Kd.S_away HO_108000.out (fun _ hk => hk.1.2.1); intro e_; exact h_ (by rw [e_]; rfl))) _; (with_reducible repeat (first | refine blk_drewN ?_ _ | refine blk_drew ?_ | refine blk_alloc ?_ _)); exact BK111.out⟩
       have n7_ : Aside0 (Below w.heap.size w (w33.setCell ⟨go30, ((ji27) : Int).toNat * 4 + 1, none⟩ (.int .i64 (wrap64 (((rd_T43 t104 (ji27)).f1) + a1_1))))) := ⟨bl HB.out⟩
       (try clear HO_108000)
       (try clear HL115_3)
       (try clear BK107)
       (try clear BK108)
       (try clear BK109)
       (try clear BK110)
       (try clear BK111)
       (try clear HB)
       generalize (w33.setCell ⟨go30, ((ji27) : Int).toNat * 4 + 1, none⟩ (.int .i64 (wrap64 (((rd_T43 t104 (ji27)).f1) + a1_1)))) = w35 at n0_ n1_ n2_ n3_ n4_ n5_ n6_ n7_ ⊢
       have HO_108000 := n0_
       have HL115_3 := n1_
       have BK107 := n2_
       have BK108 := n3_
       have BK109 := n4_
       have BK110 := n5_
       have BK111 := n6_
       have HB := n7_
       clear n0_ n1_ n2_ n3_ n4_ n5_ n6_ n7_
       have n0_ := am (Kd.S_drew HO_108000.out)
       have n1_ := am (Kd.R_drew HL115_3.out)
       have n2_ := am (blk_drew BK107.out)
       have n3_ := am (blk_drew BK108.out)
       have n4_ := am (blk_drew BK109.out)
       have n5_ := am (blk_drew BK110.out)
       have n6_ := am (blk_drew BK111.out)
       have n7_ := am (below_drew1 HB.out)
       clear HO_108000
       clear HL115_3
       clear BK107
       clear BK108
       clear BK109
       clear BK110
       clear BK111
       clear HB
       have HO_108000 := n0_
       have HL115_3 := n1_
       have BK107 := n2_
       have BK108 := n3_
       have BK109 := n4_
       have BK110 := n5_
       have BK111 := n6_
       have HB := n7_
       clear n0_ n1_ n2_ n3_ n4_ n5_ n6_ n7_
       have p117 : 0 ≤ ((ji27) : Int) := oda
       have q117 : (ji27) < (y116.length : Int) := (by have h_ : ((ji27) : Int) < ((t104.length : Int) : Int) := oda; first | (have e_ := (Kd.S_reads' HO_108000.out).1; omega) | simpa only [Ny116.out, List.length_set] using h_)
       have ql117 : (((ji27) : Int) < ((t104.length : Int) : Int)) = True := eq_true (oda)
       obtain ⟨ad117, A117_3, c117_3, e117, hx117_0, hx117_1, hx117_2, hx117_3, hl117_3, hi117_3⟩ := at_T43 (Kd.S_reads' HO_108000.out).2.2 (ji27) p117 q117
       obtain rfl : (⟨go30, 0, none⟩ : Addr) = ad117 := (by injection e117)
       obtain ⟨ce117, hce117, hMe117, hcc117⟩ := Kd.S_get HO_108000.out z43 (ji27) p117 (by first | exact q117 | exact oda | (have e_ := (Kd.S_reads' HO_108000.out).1; omega))
       obtain ⟨ve117_3, rfl, ge117_3⟩ := k43_openM hMe117
       have hv117_3 := hcc117 3 _ rfl
       rw [add_field _ _ 3 (by omega)] at hv117_3
       replace hv117_3 := Option.some.inj (hv117_3.symm.trans hx117_3)
       rw [hv117_3] at ge117_3
       have HL117_3 := am (show Kd.R k90 90 _ _ _ _ ((rd_T43 y116 (ji27)).f3) from ge117_3)
       clear hv117_3 ge117_3
       clear hcc117 hce117
       (first | simp only [add_plain] at hx117_0 | simp only [add_at] at hx117_0 | simp only [Addr.add, Nat.zero_add] at hx117_0 | skip)
       (first | simp only [add_plain] at hx117_1 | simp only [add_at] at hx117_1 | simp only [Addr.add, Nat.zero_add] at hx117_1 | skip)
       (first | simp only [add_plain] at hx117_2 | simp only [add_at] at hx117_2 | simp only [Addr.add, Nat.zero_add] at hx117_2 | skip)
       (first | simp only [add_plain] at hx117_3 | simp only [add_at] at hx117_3 | simp only [Addr.add, Nat.zero_add] at hx117_3 | skip)
       have HR117_3 := am hi117_3
       have HC117_3 := am hl117_3
       clear hi117_3 hl117_3
       replace p117 := eq_true p117
       replace q117 := eq_true q117
       have p32 : 0 ≤ ((ji27) : Int) := oda
       have q32 : ((ji27) : Int) < ((t104.length : Int) : Int) := oda
       obtain ⟨_, ce32, hcl32, hM32, hcc32, hfr32, _, _⟩ := Kd.S_elem HO_108000.out z43 ((ji27) : Int) p32 q32
       obtain ⟨ve32_3, rfl, ge32_3⟩ := k43_openM hM32
       have hx32_0 : World.cell? _ ⟨go30, ((ji27) : Int).toNat * 4, none⟩ = some (.int .i64 ((rd_T43 y116 (ji27)).f0)) := hcc32 0 _ rfl
       have hx32_1 : World.cell? _ ⟨go30, ((ji27) : Int).toNat * 4 + 1, none⟩ = some (.int .i64 ((rd_T43 y116 (ji27)).f1)) := hcc32 1 _ rfl
       have hx32_2 : World.cell? _ ⟨go30, ((ji27) : Int).toNat * 4 + 2, none⟩ = some (.string ((rd_T43 y116 (ji27)).f2)) := hcc32 2 _ rfl
       have hx32_3 : World.cell? _ ⟨go30, ((ji27) : Int).toNat * 4 + 3, none⟩ = some (ve32_3) := hcc32 3 _ rfl
       have hf32_0 : World.frozen? _ ⟨go30, ((ji27) : Int).toNat * 4, none⟩ = false := hfr32 0
       have hf32_1 : World.frozen? _ ⟨go30, ((ji27) : Int).toNat * 4 + 1, none⟩ = false := hfr32 1
       have hf32_2 : World.frozen? _ ⟨go30, ((ji27) : Int).toNat * 4 + 2, none⟩ = false := hfr32 2
       have hf32_3 : World.frozen? _ ⟨go30, ((ji27) : Int).toNat * 4 + 3, none⟩ = false := hfr32 3
       clear hcl32 hcc32 hfr32 hM32
       replace p32 := eq_true p32
       replace q32 := eq_true q32
       have HX37 := am (show Kd.S k43 43 _ w.heap.size (fun k_ => ((fun k_ => k_ ≠ gb110 ∧ k_ ≠ gb111)) k_ ∧ ¬ (fun _ => False) k_) (.slice (some ⟨go30, 0, none⟩) t104.length co6) y116 from (by exact Kd.S_mono HO_108000.out (fun k_ hk => by first | exact ⟨⟨hk.1, hk.2⟩, fun e_ => e_⟩ | (revert hk; simp +contextual; done))))
       obtain ⟨oki37, ce37, hcl37, hM37, hcc37, hfr37, hoki37, hH37⟩ := Kd.S_elem HX37.out z43 ((ji27) : Int) (oda) (by have h_ : ((ji27) : Int) < ((t104.length : Int) : Int) := oda; first | exact h_ | (have e_ := (Kd.S_reads' HO_108000.out).1; omega) | simpa using h_)
       obtain ⟨ve37_3, rfl, ge37_3⟩ := k43_openM hM37
       have HP37 := (Kd.S_seg hH37 (oda) (by have h_ : ((ji27) : Int) < ((t104.length : Int) : Int) := oda; first | exact h_ | (have e_ := (Kd.S_reads' HO_108000.out).1; omega) | simpa using h_) (seg := [.string (((rd_T43 y116 (ji27)).f2) ++ a1_2)]) (j := 2) (show 3 ≤ 4 from by decide) (x' := (⟨(rd_T43 y116 (ji27)).f0, (rd_T43 y116 (ji27)).f1, ((rd_T43 y116 (ji27)).f2) ++ a1_2, (rd_T43 y116 (ji27)).f3⟩ : S43)) (k43_mkM _ _ _ (⟨(rd_T43 y116 (ji27)).f0, (rd_T43 y116 (ji27)).f1, ((rd_T43 y116 (ji27)).f2) ++ a1_2, (rd_T43 y116 (ji27)).f3⟩ : S43) ge37_3) (fun _ hk => by first | exact Or.inl hk | (revert hk; simp +contextual; done)) (fun _ hk => by first | exact hk.elim | (revert hk; simp +contextual; done))).1
       rw [← Ny118.out] at HP37
       have HQ37 := am HP37
       clear hcl37 hcc37 hfr37 hM37 HP37
       refine start_ (n := 15) (S := fun w' => w'.cell? ⟨gb107, 0, none⟩ = some (.slice (some ⟨go30, 0, none⟩) t104.length co6) ∧ w'.cell? ⟨gb107, 1, none⟩ = some (.int .i64 a0) ∧ w'.cell? ⟨gb111, 0, none⟩ = some (.int .i64 a1_0) ∧ w'.cell? ⟨gb111, 1, none⟩ = some (.int .i64 a1_1) ∧ w'.cell? ⟨gb111, 2, none⟩ = some (.string a1_2) ∧ w'.cell? ⟨gb111, 3, none⟩ = some (.slice A1_3 l1_3.length c1_3) ∧ w'.cell? ⟨go30, ((ji27)).toNat * 4, none⟩ = some (.int .i64 ((rd_T43 y116 (ji27)).f0)) ∧ w'.cell? ⟨go30, ((ji27)).toNat * 4 + 1, none⟩ = some (.int .i64 ((rd_T43 y116 (ji27)).f1)) ∧ w'.cell? ⟨go30, ((ji27)).toNat * 4 + 2, none⟩ = some (.string ((rd_T43 y116 (ji27)).f2)) ∧ w'.cell? ⟨go30, ((ji27)).toNat * 4 + 3, none⟩ = some (.slice A117_3 ((rd_T43 y116 (ji27)).f3).length c117_3)) (ds := [14]) #[false, false, false, false, false, false, false, false, false, false, false, false, false, false, false] (by kernel_rfl) rfl rfl ⟨(blk_cell BK107.out 0).trans rfl, (blk_cell BK107.out 1).trans rfl, (blk_cell BK111.out 0).trans rfl, (blk_cell BK111.out 1).trans rfl, (blk_cell BK111.out 2).trans rfl, (blk_cell BK111.out 3).trans rfl, hx117_0, hx117_1, hx117_2, hx117_3⟩ (fun hHeld => ?_); refine with_tabW change_row_put.tab4 change_row_put.bits4 (fun HT_ HW_ => ?_)
       generalize w35.drew = w36 at HO_108000 HL115_3 BK107 BK108 BK109 BK110 BK111 HB HL117_3 HQ34 HQ37 HR117_3 hf32_0 hf32_1 hf32_2 hf32_3 hx117_0 hx117_1 hx117_2 hx117_3 hx32_0 hx32_1 hx32_2 hx32_3 hHeld ⊢
       refine pu 0 54 HT_ ?_
       refine pu 1 55 HT_ ?_
       refine pu 2 56 HT_ ?_
       refine pu 4 58 HT_ ?_
       refine pu 5 59 HT_ ?_
       refine pu 9 63 HT_ ?_
       refine tk 3 57 HT_ HW_ hHeld ?_
       refine pu 6 60 HT_ ?_
       refine pu 7 61 HT_ ?_
       refine tk 8 62 HT_ HW_ hHeld ?_
       refine tk 10 64 HT_ HW_ hHeld ?_
       refine pu 11 65 HT_ ?_
       refine pu 12 66 HT_ ?_
       refine pu 13 67 HT_ ?_
       refine last_ (i := 14) (N := none) #[true, true, true, true, true, true, true, true, true, true, true, true, true, true, true] rfl rfl (one_of HT_.out (by kernel_rfl)) (by decide) (fun K hK => ?_)
       refine skip_ (w1 := ?_) (by rfl) rfl ?_ ?_
       rotate_left
       ·go_simp
        rfl
       refine hK.out _ _ ?_
       clear hK K
       refine done_ (done_of HT_.out (by kernel_rfl)) ?_
       try go_wp2
       first | go_end0 | ((try simp only [Exit.inBlock, Exit.then]); refine bodyPost_ret (results_none rfl _ _ _) rfl ?_)
       exact ⟨rfl, .slice (some ⟨go30, 0, none⟩) t104.length co6, by (with_reducible repeat (first | refine blk_drewN ?_ _ | refine blk_drew ?_ | refine blk_alloc ?_ _)); refine blk_far ?_ (by have h_ := Kd.S_ne HO_108000.out BK107.out (by decide); intro e_; exact h_ (by rw [e_]; rfl)) _; (with_reducible repeat (first | refine blk_drewN ?_ _ | refine blk_drew ?_ | refine blk_alloc ?_ _)); exact BK107.out, by (with_reducible repeat (first | apply Kd.S_alloc | apply Kd.S_drewN | apply Kd.S_drew)); exact Kd.S_mono HQ37.out (fun _ hk => trivial), bl HB.out, by (with_reducible repeat (first | refine blk_drewN ?_ _ | refine blk_drew ?_ | refine blk_alloc ?_ _)); refine blk_far ?_ (by have h_ := Kd.S_ne HO_108000.out BK108.out (by decide); intro e_; exact h_ (by rw [e_]; rfl)) _; (with_reducible repeat (first | refine blk_drewN ?_ _ | refine blk_drew ?_ | refine blk_alloc ?_ _)); exact BK108.out, by (with_reducible repeat (first | refine blk_drewN ?_ _ | refine blk_drew ?_ | refine blk_alloc ?_ _)); refine blk_far ?_ (by have h_ := Kd.S_ne HO_108000.out BK109.out (by decide); intro e_; exact h_ (by rw [e_]; rfl)) _; (with_reducible repeat (first | refine blk_drewN ?_ _ | refine blk_drew ?_ | refine blk_alloc ?_ _)); exact BK109.out, by (with_reducible repeat (first | refine blk_drewN ?_ _ | refine blk_drew ?_ | refine blk_alloc ?_ _)); refine blk_far ?_ (by first | (have h_ := Kd.S_away HO_108000.out (fun _ hk => hk); intro e_; exact h_ (by rw [e_]; rfl)) | (have h_ := Kd.S_away HO_108000.out (fun _ hk => hk.1); intro e_; exact h_ (by rw [e_]; rfl)) | (have h_ := Kd.S_away HO_108000.out (fun _ hk => hk.2); intro e_; exact h_ (by rw [e_]; rfl)) | (have h_ := Kd.S_away HO_108000.out (fun _ hk => hk.1.1); intro e_; exact h_ (by rw [e_]; rfl)) | (have h_ := Kd.S_away HO_108000.out (fun _ hk => hk.1.2); intro e_; exact h_ (by rw [e_]; rfl)) | (have h_ := Kd.S_away HO_108000.out (fun _ hk => hk.2.1); intro e_; exact h_ (by rw [e_]; rfl)) | (have h_ := Kd.S_away HO_108000.out (fun _ hk => hk.2.2); intro e_; exact h_ (by rw [e_]; rfl)) | (have h_ := Kd.S_away HO_108000.out (fun _ hk => hk.1.1.2); intro e_; exact h_ (by rw [e_]; rfl)) | (have h_ := Kd.S_away HO_108000.out (fun _ hk => hk.1.2.1); intro e_; exact h_ (by rw [e_]; rfl))) _; (with_reducible repeat (first | refine blk_drewN ?_ _ | refine blk_drew ?_ | refine blk_alloc ?_ _)); exact BK110.out⟩
      rw [if_neg c31] at H
      exact absurd H (by simp)
     rw [if_neg c29] at H
     exact absurd H (by simp)
    rw [if_neg c28] at H
    exact absurd H (by simp)
   replace c26 := Bool.eq_false_iff.mpr c26
   subst c26
   have H1 : ((slices_Clone.f l1_3).bind fun t119 => (if t104.length < 2513169434916 then (some ((t104 ++ [(⟨a1_0, a1_1, a1_2, t119⟩ : S43)]), a0)) else (none))) = some (r1, r2) := by rw [if_neg (show ¬ (false = true) by decide)] at H; exact H
   clear H
   have H := H1
   clear H1
   replace H := Option.bind_eq_some_iff.mp H
   obtain ⟨t119, A380, H⟩ := H
   replace H : (if t104.length < 2513169434916 then (some ((t104 ++ [(⟨a1_0, a1_1, a1_2, t119⟩ : S43)]), a0)) else (none)) = some (r1, r2) := H
   have A38 := am A380
   clear A380
   by_cases c39 : t104.length < 2513169434916
   ·rw [if_pos c39] at H
    have LMc39 := am c39
    clear c39
    obtain ⟨y122, hy122⟩ : ∃ y_ : List (S43), y_ = (t104 ++ [(⟨a1_0, a1_1, a1_2, t119⟩ : S43)]) := ⟨_, rfl⟩
    replace H : (some (y122, a0)) = some (r1, r2) := by first | (rw [hy122]; with_reducible exact H) | (have H2_ := (Option.bind_some _ _).symm.trans H; rw [hy122]; with_reducible exact H2_) | (have H2_ := (Option.bind_some _ _).symm.trans H; with_reducible exact H2_) | with_reducible exact H | (rw [hy122]; exact H) | exact H
    have Ny122 := am hy122
    clear hy122
    simp only [Option.some.injEq, Prod.mk.injEq] at H
    obtain ⟨rfl, rfl⟩ := H
    have hnb40 := NB111_107.out
    have hnc40 := NB107_111.out
    have hnb41 := NB111_108.out
    have hnc41 := NB108_111.out
    have hnb42 := NB111_109.out
    have hnc42 := NB109_111.out
    have hnb43 := NB111_110.out
    have hnc43 := NB110_111.out
    have hcz44_0 : wc.cell? ⟨gb111, 0, none⟩ = some (.int .i64 a1_0) := (blk_cell BK111.out 0).trans rfl
    have hcz44_1 : wc.cell? ⟨gb111, 1, none⟩ = some (.int .i64 a1_1) := (blk_cell BK111.out 1).trans rfl
    have hcz44_2 : wc.cell? ⟨gb111, 2, none⟩ = some (.string a1_2) := (blk_cell BK111.out 2).trans rfl
    have hcz44_3 : wc.cell? ⟨gb111, 3, none⟩ = some (.slice A1_3 l1_3.length c1_3) := (blk_cell BK111.out 3).trans rfl
    have hfz44_0 := blk_frozen BK111.out 0
    have hfz44_1 := blk_frozen BK111.out 1
    have hfz44_2 := blk_frozen BK111.out 2
    have hfz44_3 := blk_frozen BK111.out 3
    try go_wp2_with (first | ((with_reducible refine gate_callee (f := 67) rfl ?_); refine goesL_ (some 70) rfl rfl Tryd.func67 (by kernel_rfl) rfl #[.slice A1_3 l1_3.length c1_3] rfl (by (try simp only [List.map_toArray, List.map_cons, List.map_nil]); first | done | rfl | (simp only [List.length_drop, List.length_take]; rfl)) ?_; (with_reducible refine (slices_Clone.calls _ _ l1_3 t119 _ ?side1 ?side2 A38.out).mono ?_); (case side1 => exact ks (Kd.C_below HR1_3.out HB.out)); (case side2 => exact HC1_3.out); rintro e w45 ⟨v120, rfl, ho0, hb⟩; refine ⟨_, rfl, ?_⟩; have HO_108000 := am (Kd.S_elder' (ks HO_108000.out) (Kd.R_base ho0) hb); have HO121 := am (Kd.R_lower ho0 (below_size (bl HB.out))); have BK107 := am (blk_below (bk BK107.out) hb); have BK108 := am (blk_below (bk BK108.out) hb); have BK109 := am (blk_below (bk BK109.out) hb); have BK110 := am (blk_below (bk BK110.out) hb); have BK111 := am (blk_below (bk BK111.out) hb); have HB := am (below_step (bl HB.out) hb); (try clear hb); (try clear hb2); (try clear hk); (try clear hi); (try clear ho0); obtain ⟨Ao46, co46, eo46⟩ := Kd.R_slice HO121.out; subst eo46; obtain ⟨hcz47_0, hcz47_1, hcz47_2, hcz47_3, hfz47_0, hfz47_1, hfz47_2, hfz47_3⟩ := bc4 BK111.out))
    have n0_ : Aside0 (Kd.S k43 43 (w45.setCell ⟨gb111, 3, none⟩ (.slice Ao46 t119.length co46)) w.heap.size (fun k_ => some k_ ≠ (.slice Ao46 t119.length co46 : Value).ownBlock ∧ k_ ≠ gb110 ∧ k_ ≠ gb111) (.slice Ao6 t104.length co6) t104) := ⟨by (with_reducible repeat (first | apply Kd.S_alloc | apply Kd.S_drewN | apply Kd.S_drew)); exact Kd.S_mono (Kd.S_far (p := ⟨gb111, 3, none⟩) (Kd.S_mono HO_108000.out (fun k_ hk => by first | exact (⟨hk, hk.1.2⟩ : _ ∧ k_ ≠ gb111) | (revert hk; simp +contextual; done))) (fun _ hk => by first | exact hk.2 | (revert hk; simp +contextual; done)) (.slice Ao46 t119.length co46)) (fun _ hk => by first | exact ⟨hk.1.2, ⟨hk.1.1.1, hk.1.1.2⟩⟩ | (revert hk; simp +contextual; done))⟩
    have n1_ : Aside0 (Kd.R k90 90 (w45.setCell ⟨gb111, 3, none⟩ (.slice Ao46 t119.length co46)) w.heap.size (fun _ => True) (.slice Ao46 t119.length co46) t119) := ⟨by (with_reducible repeat (first | apply Kd.R_alloc | apply Kd.R_drewN | apply Kd.R_drew)); exact Kd.R_mono (Kd.R_far (p := ⟨gb111, 3, none⟩) (Kd.R_types HO121.out BK111.out (by decide)) (fun _ hk => by first | exact hk.2 | (revert hk; simp +contextual; done)) (.slice Ao46 t119.length co46)) (fun _ hk => trivial)⟩
    have n2_ : Aside0 ((w45.setCell ⟨gb111, 3, none⟩ (.slice Ao46 t119.length co46)).heap[gb107]? = some (.cells #[.slice Ao6 t104.length co6, .int .i64 a0] 65 (0, 0))) := ⟨bk BK107.out⟩
    have n3_ : Aside0 ((w45.setCell ⟨gb111, 3, none⟩ (.slice Ao46 t119.length co46)).heap[gb108]? = some (.cells cs1_ 26 (0, 0))) := ⟨bk BK108.out⟩
    have n4_ : Aside0 ((w45.setCell ⟨gb111, 3, none⟩ (.slice Ao46 t119.length co46)).heap[gb109]? = some (.cells cs2_ 26 (0, 0))) := ⟨bk BK109.out⟩
    have n5_ : Aside0 ((w45.setCell ⟨gb111, 3, none⟩ (.slice Ao46 t119.length co46)).heap[gb110]? = some (.cells cs3_ t3_ (0, 0))) := ⟨bk BK110.out⟩
    have n6_ : Aside0 ((w45.setCell ⟨gb111, 3, none⟩ (.slice Ao46 t119.length co46)).heap[gb111]? = some (.cells #[.int .i64 a1_0, .int .i64 a1_1, .string a1_2, .slice Ao46 t119.length co46] 43 (0, 0))) := ⟨bp BK111.out⟩
    have n7_ : Aside0 (Below w.heap.size w (w45.setCell ⟨gb111, 3, none⟩ (.slice Ao46 t119.length co46))) := ⟨bl HB.out⟩
    (try clear HO_108000)
    (try clear HO121)
    (try clear BK107)
    (try clear BK108)
    (try clear BK109)
    (try clear BK110)
    (try clear BK111)
    (try clear HB)
    generalize (w45.setCell ⟨gb111, 3, none⟩ (.slice Ao46 t119.length co46)) = w48 at n0_ n1_ n2_ n3_ n4_ n5_ n6_ n7_ ⊢
    have HO_108000 := n0_
    have HO121 := n1_
    have BK107 := n2_
    have BK108 := n3_
    have BK109 := n4_
    have BK110 := n5_
    have BK111 := n6_
    have HB := n7_
    clear n0_ n1_ n2_ n3_ n4_ n5_ n6_ n7_
    have n0_ := am (Kd.S_drew HO_108000.out)
    have n1_ := am (Kd.R_drew HO121.out)
    have n2_ := am (blk_drew BK107.out)
    have n3_ := am (blk_drew BK108.out)
    have n4_ := am (blk_drew BK109.out)
    have n5_ := am (blk_drew BK110.out)
    have n6_ := am (blk_drew BK111.out)
    have n7_ := am (below_drew1 HB.out)
    clear HO_108000
    clear HO121
    clear BK107
    clear BK108
    clear BK109
    clear BK110
    clear BK111
    clear HB
    have HO_108000 := n0_
    have HO121 := n1_
    have BK107 := n2_
    have BK108 := n3_
    have BK109 := n4_
    have BK110 := n5_
    have BK111 := n6_
    have HB := n7_
    clear n0_ n1_ n2_ n3_ n4_ n5_ n6_ n7_
    refine start_ (n := 11) (S := fun w' => w'.cell? ⟨gb107, 0, none⟩ = some (.slice Ao6 t104.length co6) ∧ w'.cell? ⟨gb107, 1, none⟩ = some (.int .i64 a0) ∧ w'.cell? ⟨gb111, 0, none⟩ = some (.int .i64 a1_0) ∧ w'.cell? ⟨gb111, 1, none⟩ = some (.int .i64 a1_1) ∧ w'.cell? ⟨gb111, 2, none⟩ = some (.string a1_2) ∧ w'.cell? ⟨gb111, 3, none⟩ = some (.slice Ao46 t119.length co46)) (ds := [10]) #[false, false, false, false, false, false, false, false, false, false, false] (by kernel_rfl) rfl rfl ⟨(blk_cell BK107.out 0).trans rfl, (blk_cell BK107.out 1).trans rfl, (blk_cell BK111.out 0).trans rfl, (blk_cell BK111.out 1).trans rfl, (blk_cell BK111.out 2).trans rfl, (blk_cell BK111.out 3).trans rfl⟩ (fun hHeld => ?_); refine with_tabW change_row_put.tab6 change_row_put.bits6 (fun HT_ HW_ => ?_)
    generalize w48.drew = w49 at HO_108000 HO121 BK107 BK108 BK109 BK110 BK111 HB hHeld ⊢
    refine pu 0 72 HT_ ?_
    refine pu 1 73 HT_ ?_
    refine pu 2 74 HT_ ?_
    refine pu 3 75 HT_ ?_
    refine tk 4 76 HT_ HW_ hHeld ?_
    refine tk 5 77 HT_ HW_ hHeld ?_
    refine one_ (i := 6) (N := some 78) #[true, true, true, true, true, true, true, false, false, false, false] rfl rfl (one_of HT_.out (by kernel_rfl)) (by decide) (fun K hK => ?_)
    refine value_ (w1 := ?_) (v := ?_) (by rfl) rfl ?_ ?_
    rotate_left 2
    ·go_simp
     constructor
     ·rfl
     rfl
    refine hK.out _ _ ⟨(blk_cell (blk_alloc BK107.out _) 0).trans rfl, (blk_cell (blk_alloc BK107.out _) 1).trans rfl, (blk_cell (blk_alloc BK111.out _) 0).trans rfl, (blk_cell (blk_alloc BK111.out _) 1).trans rfl, (blk_cell (blk_alloc BK111.out _) 2).trans rfl, (blk_cell (blk_alloc BK111.out _) 3).trans rfl⟩ (fun hHeld => ?_)
    clear hK K
    refine norm_ (a' := ?_) ?_ ?_
    rotate_left
    ·show Act.put _ (some 78) _ = _
     simp only [Act.put, List.setIfInBounds_toArray, List.set_cons_zero, List.set_cons_succ, i64_w, i32_w]
     rfl
    refine one_ (i := 7) (N := some 79) #[true, true, true, true, true, true, true, true, false, false, false] rfl rfl (one_of HT_.out (by kernel_rfl)) (by decide) (fun K hK => ?_)
    refine Kd.S_append_step k43 (w0 := w) w.heap.size (by rfl) (.tmp 76) (.tmp 78) 24 43 (.agg #[(.int .i64 0), (.int .i64 0), (.string ⟨#[]⟩), (.slice none 0 0)]) 56 rfl Tryd.underlying24 info43 rfl (by decide) (by omega) (.slice Ao6 t104.length co6) t104 (⟨a1_0, a1_1, a1_2, t119⟩ : S43) [.int .i64 a1_0, .int .i64 a1_1, .string a1_2, .slice Ao46 t119.length co46] (fun k_ => k_ ≠ gb110 ∧ k_ ≠ gb111) (fun k_ => some k_ = (.slice Ao46 t119.length co46 : Value).ownBlock) rfl rfl ?aP (fun k_ hk_ => ((Kd.R_mono (ok' := fun k_ => ((fun k_ => k_ ≠ gb110 ∧ k_ ≠ gb111)) k_ ∧ some k_ ≠ (.slice Ao6 t104.length co6 : Value).ownBlock) (Kd.R_types (Kd.R_types (Kd.R_apart' (HO121.out) (Kd.S_typed HO_108000.out) (by decide)) BK110.out (by first | decide | exact ht3_)) BK111.out (by decide)) (fun k_ hk => by first | exact ⟨⟨hk.1.2, hk.2⟩, hk.1.1.2⟩ | (revert hk; simp +contextual; done)))).1 k_ hk_.symm) ?aF ?aO ?aB ?aS ?aL ?_
    (case aP => exact k43_mkM _ _ _ (⟨a1_0, a1_1, a1_2, t119⟩ : S43) (Kd.R_mono (Kd.R_tight rfl (Kd.R_mono (ok' := fun k_ => ((fun k_ => k_ ≠ gb110 ∧ k_ ≠ gb111)) k_ ∧ some k_ ≠ (.slice Ao6 t104.length co6 : Value).ownBlock) (Kd.R_types (Kd.R_types (Kd.R_apart' (HO121.out) (Kd.S_typed HO_108000.out) (by decide)) BK110.out (by first | decide | exact ht3_)) BK111.out (by decide)) (fun k_ hk => by first | exact ⟨⟨hk.1.2, hk.2⟩, hk.1.1.2⟩ | (revert hk; simp +contextual; done)))) (fun _ h_ => h_)))
    (case aB => exact (bl HB.out))
    (case aF => exact (fun k_ hk => by first | exact ⟨Kd.freshB (g := gb110) (o := .cells cs3_ t3_ (0, 0)) (bk BK110.out) k_ hk, Kd.freshB (g := gb111) (o := .cells #[.int .i64 a1_0, .int .i64 a1_1, .string a1_2, .slice Ao46 t119.length co46] 43 (0, 0)) (bk BK111.out) k_ hk⟩ | (revert hk; simp +contextual; done)))
    (case aO => exact (by (with_reducible repeat (first | apply Kd.S_alloc | apply Kd.S_drewN | apply Kd.S_drew)); exact Kd.S_mono HO_108000.out (fun k_ hk => by first | exact ⟨⟨hk.2.1, hk.2.2⟩, fun e_ => hk.1 e_⟩ | (revert hk; simp +contextual; done))))
    (case aS => exact (below_size (bl HB.out)))
    (case aL => have := LMc39.out; omega)
    intro v123 w50 ho hb hg hat
    rw [← Ny122.out] at ho
    have n0_ := am (blk_grown (bk BK107.out) hg (Kd.S_ne HO_108000.out BK107.out (by decide)))
    have n1_ := am (blk_grown (bk BK108.out) hg (Kd.S_ne HO_108000.out BK108.out (by decide)))
    have n2_ := am (blk_grown (bk BK109.out) hg (Kd.S_ne HO_108000.out BK109.out (by decide)))
    have n3_ := am (blk_grown (bk BK110.out) hg (Kd.S_away HO_108000.out (fun _ hk => hk.2.1)))
    have n4_ := am (blk_grown (bk BK111.out) hg (Kd.S_away HO_108000.out (fun _ hk => hk.2.2)))
    have n5_ := am (hb)
    have n6_ := am (ho)
    clear BK107
    clear BK108
    clear BK109
    clear BK110
    clear BK111
    clear HB
    clear HO_108000
    clear HO121
    have BK107 := n0_
    have BK108 := n1_
    have BK109 := n2_
    have BK110 := n3_
    have BK111 := n4_
    have HB := n5_
    have HO124 := n6_
    clear n0_ n1_ n2_ n3_ n4_ n5_ n6_
    clear ho hb hg hat
    obtain ⟨Ao51, co51, eo51⟩ := Kd.S_slice HO124.out
    (first | subst eo51 | (injection eo51 with f1_ f2_ f3_; have f4_ := f1_.symm; have f5_ := f3_.symm; clear f1_ f2_ f3_; subst f4_; subst f5_))
    refine hK.out _ _ ⟨(blk_cell BK107.out 0).trans rfl, (blk_cell BK107.out 1).trans rfl, (blk_cell BK111.out 0).trans rfl, (blk_cell BK111.out 1).trans rfl, (blk_cell BK111.out 2).trans rfl, (blk_cell BK111.out 3).trans rfl⟩ (fun hHeld => ?_)
    clear hK K
    refine norm_ (a' := ?_) ?_ ?_
    rotate_left
    ·show Act.put _ (some 79) _ = _
     simp only [Act.put, List.setIfInBounds_toArray, List.set_cons_zero, List.set_cons_succ, i64_w, i32_w]
     rfl
    refine pu 8 80 HT_ ?_
    refine pu 9 81 HT_ ?_
    refine last_ (i := 10) (N := none) #[true, true, true, true, true, true, true, true, true, true, true] rfl rfl (one_of HT_.out (by kernel_rfl)) (by decide) (fun K hK => ?_)
    have hs52 : w50.cell? ⟨gb107, 0, none⟩ = some (.slice Ao6 t104.length co6) := (blk_cell BK107.out 0).trans rfl
    have hfs52 := blk_frozen BK107.out 0
    have hns52_1 := NB108_107.out
    have hns52_2 := NB109_107.out
    have hns52_3 := NB110_107.out
    have hns52_4 := NB111_107.out
    have hms52_1 := NB107_108.out
    have hms52_2 := NB107_109.out
    have hms52_3 := NB107_110.out
    have hms52_4 := NB107_111.out
    refine skip_ (w1 := ?_) (by rfl) rfl ?_ ?_
    rotate_left
    ·go_simp
     rfl
    refine hK.out _ _ ?_
    clear hK K
    refine done_ (done_of HT_.out (by kernel_rfl)) ?_
    try go_wp2
    first | go_end0 | ((try simp only [Exit.inBlock, Exit.then]); refine bodyPost_ret (results_none rfl _ _ _) rfl ?_)
    exact ⟨rfl, .slice Ao51 y122.length co51, bp BK107.out, by (with_reducible repeat (first | apply Kd.S_alloc | apply Kd.S_drewN | apply Kd.S_drew)); exact Kd.S_mono (Kd.S_far (p := ⟨gb107, 0, none⟩) (Kd.S_types HO124.out BK107.out (by decide)) (fun _ hk => by first | exact hk.2 | (revert hk; simp +contextual; done)) (.slice Ao51 y122.length co51)) (fun _ hk => trivial), bl HB.out, bk BK108.out, bk BK109.out, bk BK110.out⟩
   rw [if_neg c39] at H
   exact absurd H (by simp)
end Go.Proofs.YtinbpjodheceoaaDoor.Sp
