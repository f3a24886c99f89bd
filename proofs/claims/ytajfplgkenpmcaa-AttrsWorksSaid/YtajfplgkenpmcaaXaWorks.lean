/- The law AttrsWorks, walked: the contracts of Lent, Kept, Spoil, of attrs and of its reference, in the law's order. -/
import Derived.Test.YtajfplgkenpmcaaXaSemL
import Derived.Test.YtajfplgkenpmcaaXaSp5
import Derived.Test.YtajfplgkenpmcaaXaSp7
import Derived.Test.YtajfplgkenpmcaaXaSp10
import Derived.Test.YtajfplgkenpmcaaXaSp11
import Derived.Test.YtajfplgkenpmcaaXaSp12
import Derived.Test.YtajfplgkenpmcaaXaSp6
namespace Go.Proofs.Ytajfplgkenpmcaa.Sp
open Go.RowKit Go.Proofs.YtajfplgkenpmcaaW.PrintWords Go.Proofs.YtajfplgkenpmcaaW.PrintLast
set_option linter.unusedVariables false
set_option linter.unusedSimpArgs false
def Own (W : World) (a b : Nat) (v : Value) (l : List S36) : Prop := Kd.R k36 36 W a (fun k => a ≤ k ∧ k < b) v l
theorem Own.make {w w' : World} {v : Value} {l : List S36} (h : Kd.R k36 36 w' w.heap.size (fun _ => True) v l) : Own w' w.heap.size w'.heap.size v l := Kd.R_mono (Kd.R_bound h) fun k hk => ⟨hk.2.1, hk.2.2.1⟩
theorem Own.below {W W1 : World} {a b : Nat} {v : Value} {l : List S36} (h : Own W a b v l) (hb : Below W.heap.size W W1) : Own W1 a b v l := Kd.R_below h hb
theorem Own.grown {W W1 : World} {a b g : Nat} {v : Value} {l : List S36} (h : Own W a b v l) (hg : W.grownBy W1 (some g)) (hlt : g < a) : Own W1 a b v l := Kd.R_grown h hg fun k hk e => by injection e with e; omega
theorem Own.kept {W W1 : World} {a b c d : Nat} {v : Value} {l : List S36} (h : Own W a b v l) (hk : Kept W W1 (fun k => c ≤ k ∧ k < d)) (hd : b ≤ c ∨ d ≤ a) : Own W1 a b v l := Kd.R_kept h hk fun k h1 h2 => by omega
theorem Own.C {W : World} {a b c : Nat} {A : Option Addr} {l : List S36} (h : Own W a b (.slice A l.length c) l) : Kd.C k36 W A l.length l ∧ l.length ≤ c := by
  obtain ⟨A', c', e, hl, hr⟩ := Kd.R_reads h
  injection e with e1 e2 e3
  subst e1; subst e3
  exact ⟨hr, hl⟩
theorem row_below {W W1 : World} {g : Nat} {o : Obj} (h : W.heap[g]? = some o) (hb : Below W.heap.size W W1) : W1.heap[g]? = some o := (hb.block g (blk_lt h)).trans h
theorem row_grown {W W1 : World} {g g' : Nat} {o : Obj} (h : W.heap[g]? = some o) (hg : W.grownBy W1 (some g')) (hne : g ≠ g') : W1.heap[g]? = some o := (hg.block g (blk_lt h) (fun e => hne (by injection e))).trans h
theorem drawn_below {W W1 : World} (h : Drawn0 W W1) : Below W.heap.size W W1 := by
  obtain ⟨nd, rfl⟩ := h
  exact pw_below_drewN (Below.refl _ _) nd
set_option maxHeartbeats 16000000 in
set_option maxRecDepth 100000 in
theorem blotterlaw02_AttrsWorks.walk (k : Nat) (A0 : Option Addr) (c0 : Nat) (l0 : List S36) (A1 : Option Addr) (c1 : Nat) (l1 : List S36) (a2 : Bool) (w : World)
    (p q r s : List S36) (pe qe re se n1 n2 n3 n4 : Int)
    (hr0 : Kd.C k36 w A0 l0.length l0) (hc0 : l0.length ≤ c0) (hr1 : Kd.C k36 w A1 l1.length l1) (hc1 : l1.length ≤ c1)
    (hl0 : l0.length * 32 ≤ 140737488351232) (hl1 : l1.length * 32 ≤ 140737488351232)
    (hA : blotterlaw02_awake.f k = some true)
    (h1 : attrs_Apply.f k l0 l1 = some (p, pe)) (h2 : attrs_Compose.f k l0 l1 = some (q, qe)) (h3 : attrs_Follow.f k l0 l1 a2 = some (r, re)) (h4 : attrs_Invert.f k l0 l1 = some (s, se))
    (g1 : blotterref02_Apply.f k l0 l1 = some (p, pe)) (g2 : blotterref02_Compose.f k l0 l1 = some (q, qe)) (g3 : blotterref02_Follow.f k l0 l1 a2 = some (r, re)) (g4 : blotterref02_Invert.f k l0 l1 = some (s, se))
    (e0 : blotterref02_Same.f k l0 l0 = some true) (e1 : blotterref02_Same.f k l1 l1 = some true)
    (ep : blotterref02_Same.f k p p = some true) (eq : blotterref02_Same.f k q q = some true) (er : blotterref02_Same.f k r r = some true) (es : blotterref02_Same.f k s s = some true)
    (t1 : blotterlaw02_Spoil.f k p = some n1) (t2 : blotterlaw02_Spoil.f k q = some n2) (t3 : blotterlaw02_Spoil.f k r = some n3) (t4 : blotterlaw02_Spoil.f k s = some n4)
    (hn : wrap64 (wrap64 (wrap64 (n1 + n2) + n3) + n4) ≥ 4) :
    Calls Try.prog 3 #[.slice A0 l0.length c0, .slice A1 l1.length c1, .bool a2] w fun e w' => e = .returned (.bool true) ∧ Below w.heap.size w w' := by
  have HR0 := Aside0.mk hr0
  clear hr0
  have HC0 := Aside0.mk hc0
  clear hc0
  have HR1 := Aside0.mk hr1
  clear hr1
  have HC1 := Aside0.mk hc1
  clear hc1
  have HL0 := Aside0.mk hl0
  clear hl0
  have HL1 := Aside0.mk hl1
  clear hl1
  have HA := Aside0.mk hA
  clear hA
  have Zh1 := Aside0.mk h1
  clear h1
  have Zh2 := Aside0.mk h2
  clear h2
  have Zh3 := Aside0.mk h3
  clear h3
  have Zh4 := Aside0.mk h4
  clear h4
  have Zg1 := Aside0.mk g1
  clear g1
  have Zg2 := Aside0.mk g2
  clear g2
  have Zg3 := Aside0.mk g3
  clear g3
  have Zg4 := Aside0.mk g4
  clear g4
  have Ze0 := Aside0.mk e0
  clear e0
  have Ze1 := Aside0.mk e1
  clear e1
  have Zep := Aside0.mk ep
  clear ep
  have Zeq := Aside0.mk eq
  clear eq
  have Zer := Aside0.mk er
  clear er
  have Zes := Aside0.mk es
  clear es
  have Zt1 := Aside0.mk t1
  clear t1
  have Zt2 := Aside0.mk t2
  clear t2
  have Zt3 := Aside0.mk t3
  clear t3
  have Zt4 := Aside0.mk t4
  clear t4
  have hnb : decide (wrap64 (wrap64 (wrap64 (n1 + n2) + n3) + n4) ≥ 4) = true := decide_eq_true hn
  have HB := Aside0.mk (Below.refl w.heap.size w)
  go_enter Try.func3, Try.ntmps3
  go_wp2_with (fail)
  refine (blotterlaw02_awake.calls k true _ HA.out).mono ?_
  rintro e w1 ⟨rfl, hb⟩
  have n_ := Aside0.mk (below_step HB.out hb); clear HB; have HB := n_; clear n_
  have HS1 := Aside0.mk hb.size
  clear hb
  go_wp2_with (fail)
  refine (law02_Lent.calls _ _ l0 _ (Kd.C_below HR0.out HB.out) HC0.out HL0.out).mono ?_
  rintro e w2 ⟨gX, rfl, hge, hrow, hb⟩
  have n_ := Aside0.mk (below_step HB.out hb); clear HB; have HB := n_; clear n_
  have HS2 := Aside0.mk hb.size
  clear hb
  have HX := Aside0.mk hrow; have HGX := Aside0.mk hge; have HTX := Aside0.mk (blk_lt hrow); clear hrow hge
  go_wp2_with (fail)
  refine (law02_Lent.calls _ _ l1 _ (Kd.C_below HR1.out HB.out) HC1.out HL1.out).mono ?_
  rintro e w3 ⟨gY, rfl, hge, hrow, hb⟩
  have n_ := Aside0.mk (row_below HX.out hb); clear HX; have HX := n_; clear n_
  have n_ := Aside0.mk (below_step HB.out hb); clear HB; have HB := n_; clear n_
  have HS3 := Aside0.mk hb.size
  clear hb
  have HY := Aside0.mk hrow; have HGY := Aside0.mk hge; have HTY := Aside0.mk (blk_lt hrow); clear hrow hge
  go_wp2_with (fail)
  refine (attrs_Apply.calls k _ _ l0 _ _ l1 p pe _ (blk_C (n := 0) HX.out (by have := HL0.out; omega)) (Nat.le_succ _) (blk_C (n := 0) HY.out (by have := HL1.out; omega)) (Nat.le_succ _) Zh1.out).mono ?_
  rintro e w4 ⟨vp, rfl, ho, hb⟩
  obtain ⟨Avp, cvp, rfl⟩ := Kd.R_slice ho
  have n_ := Aside0.mk (row_below HX.out hb); clear HX; have HX := n_; clear n_
  have n_ := Aside0.mk (row_below HY.out hb); clear HY; have HY := n_; clear n_
  have n_ := Aside0.mk (below_step HB.out hb); clear HB; have HB := n_; clear n_
  have HS4 := Aside0.mk hb.size
  clear hb
  have HOvp := Aside0.mk (Own.make ho); clear ho
  go_wp2_with (fail)
  refine (attrs_Compose.calls k _ _ l0 _ _ l1 q qe _ (blk_C (n := 0) HX.out (by have := HL0.out; omega)) (Nat.le_succ _) (blk_C (n := 0) HY.out (by have := HL1.out; omega)) (Nat.le_succ _) Zh2.out).mono ?_
  rintro e w5 ⟨vq, rfl, ho, hb⟩
  obtain ⟨Avq, cvq, rfl⟩ := Kd.R_slice ho
  have n_ := Aside0.mk (HOvp.out.below hb); clear HOvp; have HOvp := n_; clear n_
  have n_ := Aside0.mk (row_below HX.out hb); clear HX; have HX := n_; clear n_
  have n_ := Aside0.mk (row_below HY.out hb); clear HY; have HY := n_; clear n_
  have n_ := Aside0.mk (below_step HB.out hb); clear HB; have HB := n_; clear n_
  have HS5 := Aside0.mk hb.size
  clear hb
  have HOvq := Aside0.mk (Own.make ho); clear ho
  go_wp2_with (fail)
  refine (attrs_Follow.calls k _ _ l0 _ _ l1 a2 r re _ (blk_C (n := 0) HX.out (by have := HL0.out; omega)) (Nat.le_succ _) (blk_C (n := 0) HY.out (by have := HL1.out; omega)) (Nat.le_succ _) Zh3.out).mono ?_
  rintro e w6 ⟨vr, rfl, ho, hb⟩
  obtain ⟨Avr, cvr, rfl⟩ := Kd.R_slice ho
  have n_ := Aside0.mk (HOvp.out.below hb); clear HOvp; have HOvp := n_; clear n_
  have n_ := Aside0.mk (HOvq.out.below hb); clear HOvq; have HOvq := n_; clear n_
  have n_ := Aside0.mk (row_below HX.out hb); clear HX; have HX := n_; clear n_
  have n_ := Aside0.mk (row_below HY.out hb); clear HY; have HY := n_; clear n_
  have n_ := Aside0.mk (below_step HB.out hb); clear HB; have HB := n_; clear n_
  have HS6 := Aside0.mk hb.size
  clear hb
  have HOvr := Aside0.mk (Own.make ho); clear ho
  go_wp2_with (fail)
  refine (attrs_Invert.calls k _ _ l0 _ _ l1 s se _ (blk_C (n := 0) HX.out (by have := HL0.out; omega)) (Nat.le_succ _) (blk_C (n := 0) HY.out (by have := HL1.out; omega)) (Nat.le_succ _) Zh4.out).mono ?_
  rintro e w7 ⟨vs, rfl, ho, hb⟩
  obtain ⟨Avs, cvs, rfl⟩ := Kd.R_slice ho
  have n_ := Aside0.mk (HOvp.out.below hb); clear HOvp; have HOvp := n_; clear n_
  have n_ := Aside0.mk (HOvq.out.below hb); clear HOvq; have HOvq := n_; clear n_
  have n_ := Aside0.mk (HOvr.out.below hb); clear HOvr; have HOvr := n_; clear n_
  have n_ := Aside0.mk (row_below HX.out hb); clear HX; have HX := n_; clear n_
  have n_ := Aside0.mk (row_below HY.out hb); clear HY; have HY := n_; clear n_
  have n_ := Aside0.mk (below_step HB.out hb); clear HB; have HB := n_; clear n_
  have HS7 := Aside0.mk hb.size
  clear hb
  have HOvs := Aside0.mk (Own.make ho); clear ho
  go_wp2_with (fail)
  refine (law02_Kept.calls k _ l0 _ _ l0 true _ HX.out (by have := HL0.out; omega) (Kd.C_below HR0.out HB.out) HC0.out Ze0.out).mono ?_
  rintro e w8 ⟨rfl, hg⟩
  clear HX
  have n_ := Aside0.mk (HOvp.out.grown hg (by have := HGX.out; have := HTX.out; have := HGY.out; have := HTY.out; have := HS1.out; have := HS2.out; have := HS3.out; have := HS4.out; have := HS5.out; have := HS6.out; have := HS7.out; omega)); clear HOvp; have HOvp := n_; clear n_
  have n_ := Aside0.mk (HOvq.out.grown hg (by have := HGX.out; have := HTX.out; have := HGY.out; have := HTY.out; have := HS1.out; have := HS2.out; have := HS3.out; have := HS4.out; have := HS5.out; have := HS6.out; have := HS7.out; omega)); clear HOvq; have HOvq := n_; clear n_
  have n_ := Aside0.mk (HOvr.out.grown hg (by have := HGX.out; have := HTX.out; have := HGY.out; have := HTY.out; have := HS1.out; have := HS2.out; have := HS3.out; have := HS4.out; have := HS5.out; have := HS6.out; have := HS7.out; omega)); clear HOvr; have HOvr := n_; clear n_
  have n_ := Aside0.mk (HOvs.out.grown hg (by have := HGX.out; have := HTX.out; have := HGY.out; have := HTY.out; have := HS1.out; have := HS2.out; have := HS3.out; have := HS4.out; have := HS5.out; have := HS6.out; have := HS7.out; omega)); clear HOvs; have HOvs := n_; clear n_
  have n_ := Aside0.mk (row_grown HY.out hg (by have := HGX.out; have := HTX.out; have := HGY.out; have := HTY.out; have := HS1.out; have := HS2.out; have := HS3.out; have := HS4.out; have := HS5.out; have := HS6.out; have := HS7.out; omega)); clear HY; have HY := n_; clear n_
  have n_ := Aside0.mk (HB.out.grown hg HB.out.size (fun k hk => by cases hk; exact (by have := HGX.out; have := HTX.out; have := HGY.out; have := HTY.out; have := HS1.out; have := HS2.out; have := HS3.out; have := HS4.out; have := HS5.out; have := HS6.out; have := HS7.out; omega))); clear HB; have HB := n_; clear n_
  have HS8 := Aside0.mk hg.size
  clear hg
  go_wp2_with (fail)
  refine (law02_Kept.calls k _ l1 _ _ l1 true _ HY.out (by have := HL1.out; omega) (Kd.C_below HR1.out HB.out) HC1.out Ze1.out).mono ?_
  rintro e w9 ⟨rfl, hg⟩
  clear HY
  have n_ := Aside0.mk (HOvp.out.grown hg (by have := HGX.out; have := HTX.out; have := HGY.out; have := HTY.out; have := HS1.out; have := HS2.out; have := HS3.out; have := HS4.out; have := HS5.out; have := HS6.out; have := HS7.out; have := HS8.out; omega)); clear HOvp; have HOvp := n_; clear n_
  have n_ := Aside0.mk (HOvq.out.grown hg (by have := HGX.out; have := HTX.out; have := HGY.out; have := HTY.out; have := HS1.out; have := HS2.out; have := HS3.out; have := HS4.out; have := HS5.out; have := HS6.out; have := HS7.out; have := HS8.out; omega)); clear HOvq; have HOvq := n_; clear n_
  have n_ := Aside0.mk (HOvr.out.grown hg (by have := HGX.out; have := HTX.out; have := HGY.out; have := HTY.out; have := HS1.out; have := HS2.out; have := HS3.out; have := HS4.out; have := HS5.out; have := HS6.out; have := HS7.out; have := HS8.out; omega)); clear HOvr; have HOvr := n_; clear n_
  have n_ := Aside0.mk (HOvs.out.grown hg (by have := HGX.out; have := HTX.out; have := HGY.out; have := HTY.out; have := HS1.out; have := HS2.out; have := HS3.out; have := HS4.out; have := HS5.out; have := HS6.out; have := HS7.out; have := HS8.out; omega)); clear HOvs; have HOvs := n_; clear n_
  have n_ := Aside0.mk (HB.out.grown hg HB.out.size (fun k hk => by cases hk; exact (by have := HGX.out; have := HTX.out; have := HGY.out; have := HTY.out; have := HS1.out; have := HS2.out; have := HS3.out; have := HS4.out; have := HS5.out; have := HS6.out; have := HS7.out; have := HS8.out; omega))); clear HB; have HB := n_; clear n_
  have HS9 := Aside0.mk hg.size
  clear hg
  go_wp2_with (fail)
  refine (blotterref02_Apply.calls k _ _ l0 _ _ l1 p pe _ (Kd.C_below HR0.out HB.out) HC0.out (Kd.C_below HR1.out HB.out) HC1.out Zg1.out).mono ?_
  rintro e w10 ⟨vp2, rfl, ho, hb⟩
  obtain ⟨Avp2, cvp2, rfl⟩ := Kd.R_slice ho
  have n_ := Aside0.mk (HOvp.out.below hb); clear HOvp; have HOvp := n_; clear n_
  have n_ := Aside0.mk (HOvq.out.below hb); clear HOvq; have HOvq := n_; clear n_
  have n_ := Aside0.mk (HOvr.out.below hb); clear HOvr; have HOvr := n_; clear n_
  have n_ := Aside0.mk (HOvs.out.below hb); clear HOvs; have HOvs := n_; clear n_
  have n_ := Aside0.mk (below_step HB.out hb); clear HB; have HB := n_; clear n_
  have HS10 := Aside0.mk hb.size
  clear hb
  have HOvp2 := Aside0.mk (Own.make ho); clear ho
  go_wp2_with (fail)
  refine (blotterref02_Compose.calls k _ _ l0 _ _ l1 q qe _ (Kd.C_below HR0.out HB.out) HC0.out (Kd.C_below HR1.out HB.out) HC1.out Zg2.out).mono ?_
  rintro e w11 ⟨vq2, rfl, ho, hb⟩
  obtain ⟨Avq2, cvq2, rfl⟩ := Kd.R_slice ho
  have n_ := Aside0.mk (HOvp.out.below hb); clear HOvp; have HOvp := n_; clear n_
  have n_ := Aside0.mk (HOvq.out.below hb); clear HOvq; have HOvq := n_; clear n_
  have n_ := Aside0.mk (HOvr.out.below hb); clear HOvr; have HOvr := n_; clear n_
  have n_ := Aside0.mk (HOvs.out.below hb); clear HOvs; have HOvs := n_; clear n_
  have n_ := Aside0.mk (HOvp2.out.below hb); clear HOvp2; have HOvp2 := n_; clear n_
  have n_ := Aside0.mk (below_step HB.out hb); clear HB; have HB := n_; clear n_
  have HS11 := Aside0.mk hb.size
  clear hb
  have HOvq2 := Aside0.mk (Own.make ho); clear ho
  go_wp2_with (fail)
  refine (blotterref02_Follow.calls k _ _ l0 _ _ l1 a2 r re _ (Kd.C_below HR0.out HB.out) HC0.out (Kd.C_below HR1.out HB.out) HC1.out Zg3.out).mono ?_
  rintro e w12 ⟨vr2, rfl, ho, hb⟩
  obtain ⟨Avr2, cvr2, rfl⟩ := Kd.R_slice ho
  have n_ := Aside0.mk (HOvp.out.below hb); clear HOvp; have HOvp := n_; clear n_
  have n_ := Aside0.mk (HOvq.out.below hb); clear HOvq; have HOvq := n_; clear n_
  have n_ := Aside0.mk (HOvr.out.below hb); clear HOvr; have HOvr := n_; clear n_
  have n_ := Aside0.mk (HOvs.out.below hb); clear HOvs; have HOvs := n_; clear n_
  have n_ := Aside0.mk (HOvp2.out.below hb); clear HOvp2; have HOvp2 := n_; clear n_
  have n_ := Aside0.mk (HOvq2.out.below hb); clear HOvq2; have HOvq2 := n_; clear n_
  have n_ := Aside0.mk (below_step HB.out hb); clear HB; have HB := n_; clear n_
  have HS12 := Aside0.mk hb.size
  clear hb
  have HOvr2 := Aside0.mk (Own.make ho); clear ho
  go_wp2_with (fail)
  refine (blotterref02_Invert.calls k _ _ l0 _ _ l1 s se _ (Kd.C_below HR0.out HB.out) HC0.out (Kd.C_below HR1.out HB.out) HC1.out Zg4.out).mono ?_
  rintro e w13 ⟨vs2, rfl, ho, hb⟩
  obtain ⟨Avs2, cvs2, rfl⟩ := Kd.R_slice ho
  have n_ := Aside0.mk (HOvp.out.below hb); clear HOvp; have HOvp := n_; clear n_
  have n_ := Aside0.mk (HOvq.out.below hb); clear HOvq; have HOvq := n_; clear n_
  have n_ := Aside0.mk (HOvr.out.below hb); clear HOvr; have HOvr := n_; clear n_
  have n_ := Aside0.mk (HOvs.out.below hb); clear HOvs; have HOvs := n_; clear n_
  have n_ := Aside0.mk (HOvp2.out.below hb); clear HOvp2; have HOvp2 := n_; clear n_
  have n_ := Aside0.mk (HOvq2.out.below hb); clear HOvq2; have HOvq2 := n_; clear n_
  have n_ := Aside0.mk (HOvr2.out.below hb); clear HOvr2; have HOvr2 := n_; clear n_
  have n_ := Aside0.mk (below_step HB.out hb); clear HB; have HB := n_; clear n_
  have HS13 := Aside0.mk hb.size
  clear hb
  have HOvs2 := Aside0.mk (Own.make ho); clear ho
  go_wp2_with (fail)
  refine (blotterref02_Same.calls k _ _ p _ _ p true _ HOvp.out.C.1 HOvp.out.C.2 HOvp2.out.C.1 HOvp2.out.C.2 Zep.out).mono ?_
  rintro e w14 ⟨rfl, hd⟩
  have hb := drawn_below hd; clear hd
  have n_ := Aside0.mk (HOvp.out.below hb); clear HOvp; have HOvp := n_; clear n_
  have n_ := Aside0.mk (HOvq.out.below hb); clear HOvq; have HOvq := n_; clear n_
  have n_ := Aside0.mk (HOvr.out.below hb); clear HOvr; have HOvr := n_; clear n_
  have n_ := Aside0.mk (HOvs.out.below hb); clear HOvs; have HOvs := n_; clear n_
  have n_ := Aside0.mk (HOvp2.out.below hb); clear HOvp2; have HOvp2 := n_; clear n_
  have n_ := Aside0.mk (HOvq2.out.below hb); clear HOvq2; have HOvq2 := n_; clear n_
  have n_ := Aside0.mk (HOvr2.out.below hb); clear HOvr2; have HOvr2 := n_; clear n_
  have n_ := Aside0.mk (HOvs2.out.below hb); clear HOvs2; have HOvs2 := n_; clear n_
  have n_ := Aside0.mk (below_step HB.out hb); clear HB; have HB := n_; clear n_
  have HS14 := Aside0.mk hb.size
  clear hb
  go_wp2_with (fail)
  refine (blotterref02_Same.calls k _ _ q _ _ q true _ HOvq.out.C.1 HOvq.out.C.2 HOvq2.out.C.1 HOvq2.out.C.2 Zeq.out).mono ?_
  rintro e w15 ⟨rfl, hd⟩
  have hb := drawn_below hd; clear hd
  have n_ := Aside0.mk (HOvp.out.below hb); clear HOvp; have HOvp := n_; clear n_
  have n_ := Aside0.mk (HOvq.out.below hb); clear HOvq; have HOvq := n_; clear n_
  have n_ := Aside0.mk (HOvr.out.below hb); clear HOvr; have HOvr := n_; clear n_
  have n_ := Aside0.mk (HOvs.out.below hb); clear HOvs; have HOvs := n_; clear n_
  have n_ := Aside0.mk (HOvp2.out.below hb); clear HOvp2; have HOvp2 := n_; clear n_
  have n_ := Aside0.mk (HOvq2.out.below hb); clear HOvq2; have HOvq2 := n_; clear n_
  have n_ := Aside0.mk (HOvr2.out.below hb); clear HOvr2; have HOvr2 := n_; clear n_
  have n_ := Aside0.mk (HOvs2.out.below hb); clear HOvs2; have HOvs2 := n_; clear n_
  have n_ := Aside0.mk (below_step HB.out hb); clear HB; have HB := n_; clear n_
  have HS15 := Aside0.mk hb.size
  clear hb
  go_wp2_with (fail)
  refine (blotterref02_Same.calls k _ _ r _ _ r true _ HOvr.out.C.1 HOvr.out.C.2 HOvr2.out.C.1 HOvr2.out.C.2 Zer.out).mono ?_
  rintro e w16 ⟨rfl, hd⟩
  have hb := drawn_below hd; clear hd
  have n_ := Aside0.mk (HOvp.out.below hb); clear HOvp; have HOvp := n_; clear n_
  have n_ := Aside0.mk (HOvq.out.below hb); clear HOvq; have HOvq := n_; clear n_
  have n_ := Aside0.mk (HOvr.out.below hb); clear HOvr; have HOvr := n_; clear n_
  have n_ := Aside0.mk (HOvs.out.below hb); clear HOvs; have HOvs := n_; clear n_
  have n_ := Aside0.mk (HOvp2.out.below hb); clear HOvp2; have HOvp2 := n_; clear n_
  have n_ := Aside0.mk (HOvq2.out.below hb); clear HOvq2; have HOvq2 := n_; clear n_
  have n_ := Aside0.mk (HOvr2.out.below hb); clear HOvr2; have HOvr2 := n_; clear n_
  have n_ := Aside0.mk (HOvs2.out.below hb); clear HOvs2; have HOvs2 := n_; clear n_
  have n_ := Aside0.mk (below_step HB.out hb); clear HB; have HB := n_; clear n_
  have HS16 := Aside0.mk hb.size
  clear hb
  go_wp2_with (fail)
  refine (blotterref02_Same.calls k _ _ s _ _ s true _ HOvs.out.C.1 HOvs.out.C.2 HOvs2.out.C.1 HOvs2.out.C.2 Zes.out).mono ?_
  rintro e w17 ⟨rfl, hd⟩
  have hb := drawn_below hd; clear hd
  have n_ := Aside0.mk (HOvp.out.below hb); clear HOvp; have HOvp := n_; clear n_
  have n_ := Aside0.mk (HOvq.out.below hb); clear HOvq; have HOvq := n_; clear n_
  have n_ := Aside0.mk (HOvr.out.below hb); clear HOvr; have HOvr := n_; clear n_
  have n_ := Aside0.mk (HOvs.out.below hb); clear HOvs; have HOvs := n_; clear n_
  have n_ := Aside0.mk (HOvp2.out.below hb); clear HOvp2; have HOvp2 := n_; clear n_
  have n_ := Aside0.mk (HOvq2.out.below hb); clear HOvq2; have HOvq2 := n_; clear n_
  have n_ := Aside0.mk (HOvr2.out.below hb); clear HOvr2; have HOvr2 := n_; clear n_
  have n_ := Aside0.mk (HOvs2.out.below hb); clear HOvs2; have HOvs2 := n_; clear n_
  have n_ := Aside0.mk (below_step HB.out hb); clear HB; have HB := n_; clear n_
  have HS17 := Aside0.mk hb.size
  clear hb
  go_wp2_with (fail)
  refine (blotterlaw02_Spoil.calls k _ _ p n1 w _ HB.out (Kd.R_lower HOvp.out (by have := HGX.out; have := HTX.out; have := HGY.out; have := HTY.out; have := HS1.out; have := HS2.out; have := HS3.out; have := HS4.out; have := HS5.out; have := HS6.out; have := HS7.out; have := HS8.out; have := HS9.out; have := HS10.out; have := HS11.out; have := HS12.out; have := HS13.out; have := HS14.out; have := HS15.out; have := HS16.out; have := HS17.out; omega)) Zt1.out).mono ?_
  rintro e w18 ⟨rfl, hb, hk⟩
  clear HOvp
  have n_ := Aside0.mk (HOvq.out.kept hk (by have := HGX.out; have := HTX.out; have := HGY.out; have := HTY.out; have := HS1.out; have := HS2.out; have := HS3.out; have := HS4.out; have := HS5.out; have := HS6.out; have := HS7.out; have := HS8.out; have := HS9.out; have := HS10.out; have := HS11.out; have := HS12.out; have := HS13.out; have := HS14.out; have := HS15.out; have := HS16.out; have := HS17.out; omega)); clear HOvq; have HOvq := n_; clear n_
  have n_ := Aside0.mk (HOvr.out.kept hk (by have := HGX.out; have := HTX.out; have := HGY.out; have := HTY.out; have := HS1.out; have := HS2.out; have := HS3.out; have := HS4.out; have := HS5.out; have := HS6.out; have := HS7.out; have := HS8.out; have := HS9.out; have := HS10.out; have := HS11.out; have := HS12.out; have := HS13.out; have := HS14.out; have := HS15.out; have := HS16.out; have := HS17.out; omega)); clear HOvr; have HOvr := n_; clear n_
  have n_ := Aside0.mk (HOvs.out.kept hk (by have := HGX.out; have := HTX.out; have := HGY.out; have := HTY.out; have := HS1.out; have := HS2.out; have := HS3.out; have := HS4.out; have := HS5.out; have := HS6.out; have := HS7.out; have := HS8.out; have := HS9.out; have := HS10.out; have := HS11.out; have := HS12.out; have := HS13.out; have := HS14.out; have := HS15.out; have := HS16.out; have := HS17.out; omega)); clear HOvs; have HOvs := n_; clear n_
  have n_ := Aside0.mk (HOvp2.out.kept hk (by have := HGX.out; have := HTX.out; have := HGY.out; have := HTY.out; have := HS1.out; have := HS2.out; have := HS3.out; have := HS4.out; have := HS5.out; have := HS6.out; have := HS7.out; have := HS8.out; have := HS9.out; have := HS10.out; have := HS11.out; have := HS12.out; have := HS13.out; have := HS14.out; have := HS15.out; have := HS16.out; have := HS17.out; omega)); clear HOvp2; have HOvp2 := n_; clear n_
  have n_ := Aside0.mk (HOvq2.out.kept hk (by have := HGX.out; have := HTX.out; have := HGY.out; have := HTY.out; have := HS1.out; have := HS2.out; have := HS3.out; have := HS4.out; have := HS5.out; have := HS6.out; have := HS7.out; have := HS8.out; have := HS9.out; have := HS10.out; have := HS11.out; have := HS12.out; have := HS13.out; have := HS14.out; have := HS15.out; have := HS16.out; have := HS17.out; omega)); clear HOvq2; have HOvq2 := n_; clear n_
  have n_ := Aside0.mk (HOvr2.out.kept hk (by have := HGX.out; have := HTX.out; have := HGY.out; have := HTY.out; have := HS1.out; have := HS2.out; have := HS3.out; have := HS4.out; have := HS5.out; have := HS6.out; have := HS7.out; have := HS8.out; have := HS9.out; have := HS10.out; have := HS11.out; have := HS12.out; have := HS13.out; have := HS14.out; have := HS15.out; have := HS16.out; have := HS17.out; omega)); clear HOvr2; have HOvr2 := n_; clear n_
  have n_ := Aside0.mk (HOvs2.out.kept hk (by have := HGX.out; have := HTX.out; have := HGY.out; have := HTY.out; have := HS1.out; have := HS2.out; have := HS3.out; have := HS4.out; have := HS5.out; have := HS6.out; have := HS7.out; have := HS8.out; have := HS9.out; have := HS10.out; have := HS11.out; have := HS12.out; have := HS13.out; have := HS14.out; have := HS15.out; have := HS16.out; have := HS17.out; omega)); clear HOvs2; have HOvs2 := n_; clear n_
  have HB := Aside0.mk hb; have HS18 := Aside0.mk hk.1; clear hb hk
  go_wp2_with (fail)
  refine (blotterlaw02_Spoil.calls k _ _ q n2 w _ HB.out (Kd.R_lower HOvq.out (by have := HGX.out; have := HTX.out; have := HGY.out; have := HTY.out; have := HS1.out; have := HS2.out; have := HS3.out; have := HS4.out; have := HS5.out; have := HS6.out; have := HS7.out; have := HS8.out; have := HS9.out; have := HS10.out; have := HS11.out; have := HS12.out; have := HS13.out; have := HS14.out; have := HS15.out; have := HS16.out; have := HS17.out; have := HS18.out; omega)) Zt2.out).mono ?_
  rintro e w19 ⟨rfl, hb, hk⟩
  clear HOvq
  have n_ := Aside0.mk (HOvr.out.kept hk (by have := HGX.out; have := HTX.out; have := HGY.out; have := HTY.out; have := HS1.out; have := HS2.out; have := HS3.out; have := HS4.out; have := HS5.out; have := HS6.out; have := HS7.out; have := HS8.out; have := HS9.out; have := HS10.out; have := HS11.out; have := HS12.out; have := HS13.out; have := HS14.out; have := HS15.out; have := HS16.out; have := HS17.out; have := HS18.out; omega)); clear HOvr; have HOvr := n_; clear n_
  have n_ := Aside0.mk (HOvs.out.kept hk (by have := HGX.out; have := HTX.out; have := HGY.out; have := HTY.out; have := HS1.out; have := HS2.out; have := HS3.out; have := HS4.out; have := HS5.out; have := HS6.out; have := HS7.out; have := HS8.out; have := HS9.out; have := HS10.out; have := HS11.out; have := HS12.out; have := HS13.out; have := HS14.out; have := HS15.out; have := HS16.out; have := HS17.out; have := HS18.out; omega)); clear HOvs; have HOvs := n_; clear n_
  have n_ := Aside0.mk (HOvp2.out.kept hk (by have := HGX.out; have := HTX.out; have := HGY.out; have := HTY.out; have := HS1.out; have := HS2.out; have := HS3.out; have := HS4.out; have := HS5.out; have := HS6.out; have := HS7.out; have := HS8.out; have := HS9.out; have := HS10.out; have := HS11.out; have := HS12.out; have := HS13.out; have := HS14.out; have := HS15.out; have := HS16.out; have := HS17.out; have := HS18.out; omega)); clear HOvp2; have HOvp2 := n_; clear n_
  have n_ := Aside0.mk (HOvq2.out.kept hk (by have := HGX.out; have := HTX.out; have := HGY.out; have := HTY.out; have := HS1.out; have := HS2.out; have := HS3.out; have := HS4.out; have := HS5.out; have := HS6.out; have := HS7.out; have := HS8.out; have := HS9.out; have := HS10.out; have := HS11.out; have := HS12.out; have := HS13.out; have := HS14.out; have := HS15.out; have := HS16.out; have := HS17.out; have := HS18.out; omega)); clear HOvq2; have HOvq2 := n_; clear n_
  have n_ := Aside0.mk (HOvr2.out.kept hk (by have := HGX.out; have := HTX.out; have := HGY.out; have := HTY.out; have := HS1.out; have := HS2.out; have := HS3.out; have := HS4.out; have := HS5.out; have := HS6.out; have := HS7.out; have := HS8.out; have := HS9.out; have := HS10.out; have := HS11.out; have := HS12.out; have := HS13.out; have := HS14.out; have := HS15.out; have := HS16.out; have := HS17.out; have := HS18.out; omega)); clear HOvr2; have HOvr2 := n_; clear n_
  have n_ := Aside0.mk (HOvs2.out.kept hk (by have := HGX.out; have := HTX.out; have := HGY.out; have := HTY.out; have := HS1.out; have := HS2.out; have := HS3.out; have := HS4.out; have := HS5.out; have := HS6.out; have := HS7.out; have := HS8.out; have := HS9.out; have := HS10.out; have := HS11.out; have := HS12.out; have := HS13.out; have := HS14.out; have := HS15.out; have := HS16.out; have := HS17.out; have := HS18.out; omega)); clear HOvs2; have HOvs2 := n_; clear n_
  have HB := Aside0.mk hb; have HS19 := Aside0.mk hk.1; clear hb hk
  go_wp2_with (fail)
  refine (blotterlaw02_Spoil.calls k _ _ r n3 w _ HB.out (Kd.R_lower HOvr.out (by have := HGX.out; have := HTX.out; have := HGY.out; have := HTY.out; have := HS1.out; have := HS2.out; have := HS3.out; have := HS4.out; have := HS5.out; have := HS6.out; have := HS7.out; have := HS8.out; have := HS9.out; have := HS10.out; have := HS11.out; have := HS12.out; have := HS13.out; have := HS14.out; have := HS15.out; have := HS16.out; have := HS17.out; have := HS18.out; have := HS19.out; omega)) Zt3.out).mono ?_
  rintro e w20 ⟨rfl, hb, hk⟩
  clear HOvr
  have n_ := Aside0.mk (HOvs.out.kept hk (by have := HGX.out; have := HTX.out; have := HGY.out; have := HTY.out; have := HS1.out; have := HS2.out; have := HS3.out; have := HS4.out; have := HS5.out; have := HS6.out; have := HS7.out; have := HS8.out; have := HS9.out; have := HS10.out; have := HS11.out; have := HS12.out; have := HS13.out; have := HS14.out; have := HS15.out; have := HS16.out; have := HS17.out; have := HS18.out; have := HS19.out; omega)); clear HOvs; have HOvs := n_; clear n_
  have n_ := Aside0.mk (HOvp2.out.kept hk (by have := HGX.out; have := HTX.out; have := HGY.out; have := HTY.out; have := HS1.out; have := HS2.out; have := HS3.out; have := HS4.out; have := HS5.out; have := HS6.out; have := HS7.out; have := HS8.out; have := HS9.out; have := HS10.out; have := HS11.out; have := HS12.out; have := HS13.out; have := HS14.out; have := HS15.out; have := HS16.out; have := HS17.out; have := HS18.out; have := HS19.out; omega)); clear HOvp2; have HOvp2 := n_; clear n_
  have n_ := Aside0.mk (HOvq2.out.kept hk (by have := HGX.out; have := HTX.out; have := HGY.out; have := HTY.out; have := HS1.out; have := HS2.out; have := HS3.out; have := HS4.out; have := HS5.out; have := HS6.out; have := HS7.out; have := HS8.out; have := HS9.out; have := HS10.out; have := HS11.out; have := HS12.out; have := HS13.out; have := HS14.out; have := HS15.out; have := HS16.out; have := HS17.out; have := HS18.out; have := HS19.out; omega)); clear HOvq2; have HOvq2 := n_; clear n_
  have n_ := Aside0.mk (HOvr2.out.kept hk (by have := HGX.out; have := HTX.out; have := HGY.out; have := HTY.out; have := HS1.out; have := HS2.out; have := HS3.out; have := HS4.out; have := HS5.out; have := HS6.out; have := HS7.out; have := HS8.out; have := HS9.out; have := HS10.out; have := HS11.out; have := HS12.out; have := HS13.out; have := HS14.out; have := HS15.out; have := HS16.out; have := HS17.out; have := HS18.out; have := HS19.out; omega)); clear HOvr2; have HOvr2 := n_; clear n_
  have n_ := Aside0.mk (HOvs2.out.kept hk (by have := HGX.out; have := HTX.out; have := HGY.out; have := HTY.out; have := HS1.out; have := HS2.out; have := HS3.out; have := HS4.out; have := HS5.out; have := HS6.out; have := HS7.out; have := HS8.out; have := HS9.out; have := HS10.out; have := HS11.out; have := HS12.out; have := HS13.out; have := HS14.out; have := HS15.out; have := HS16.out; have := HS17.out; have := HS18.out; have := HS19.out; omega)); clear HOvs2; have HOvs2 := n_; clear n_
  have HB := Aside0.mk hb; have HS20 := Aside0.mk hk.1; clear hb hk
  go_wp2_with (fail)
  refine (blotterlaw02_Spoil.calls k _ _ s n4 w _ HB.out (Kd.R_lower HOvs.out (by have := HGX.out; have := HTX.out; have := HGY.out; have := HTY.out; have := HS1.out; have := HS2.out; have := HS3.out; have := HS4.out; have := HS5.out; have := HS6.out; have := HS7.out; have := HS8.out; have := HS9.out; have := HS10.out; have := HS11.out; have := HS12.out; have := HS13.out; have := HS14.out; have := HS15.out; have := HS16.out; have := HS17.out; have := HS18.out; have := HS19.out; have := HS20.out; omega)) Zt4.out).mono ?_
  rintro e w21 ⟨rfl, hb, hk⟩
  clear HOvs
  have n_ := Aside0.mk (HOvp2.out.kept hk (by have := HGX.out; have := HTX.out; have := HGY.out; have := HTY.out; have := HS1.out; have := HS2.out; have := HS3.out; have := HS4.out; have := HS5.out; have := HS6.out; have := HS7.out; have := HS8.out; have := HS9.out; have := HS10.out; have := HS11.out; have := HS12.out; have := HS13.out; have := HS14.out; have := HS15.out; have := HS16.out; have := HS17.out; have := HS18.out; have := HS19.out; have := HS20.out; omega)); clear HOvp2; have HOvp2 := n_; clear n_
  have n_ := Aside0.mk (HOvq2.out.kept hk (by have := HGX.out; have := HTX.out; have := HGY.out; have := HTY.out; have := HS1.out; have := HS2.out; have := HS3.out; have := HS4.out; have := HS5.out; have := HS6.out; have := HS7.out; have := HS8.out; have := HS9.out; have := HS10.out; have := HS11.out; have := HS12.out; have := HS13.out; have := HS14.out; have := HS15.out; have := HS16.out; have := HS17.out; have := HS18.out; have := HS19.out; have := HS20.out; omega)); clear HOvq2; have HOvq2 := n_; clear n_
  have n_ := Aside0.mk (HOvr2.out.kept hk (by have := HGX.out; have := HTX.out; have := HGY.out; have := HTY.out; have := HS1.out; have := HS2.out; have := HS3.out; have := HS4.out; have := HS5.out; have := HS6.out; have := HS7.out; have := HS8.out; have := HS9.out; have := HS10.out; have := HS11.out; have := HS12.out; have := HS13.out; have := HS14.out; have := HS15.out; have := HS16.out; have := HS17.out; have := HS18.out; have := HS19.out; have := HS20.out; omega)); clear HOvr2; have HOvr2 := n_; clear n_
  have n_ := Aside0.mk (HOvs2.out.kept hk (by have := HGX.out; have := HTX.out; have := HGY.out; have := HTY.out; have := HS1.out; have := HS2.out; have := HS3.out; have := HS4.out; have := HS5.out; have := HS6.out; have := HS7.out; have := HS8.out; have := HS9.out; have := HS10.out; have := HS11.out; have := HS12.out; have := HS13.out; have := HS14.out; have := HS15.out; have := HS16.out; have := HS17.out; have := HS18.out; have := HS19.out; have := HS20.out; omega)); clear HOvs2; have HOvs2 := n_; clear n_
  have HB := Aside0.mk hb; have HS21 := Aside0.mk hk.1; clear hb hk
  go_wp2_with (fail)
  refine (attrs_Apply.calls k _ _ l0 _ _ l1 p pe _ (Kd.C_below HR0.out HB.out) HC0.out (Kd.C_below HR1.out HB.out) HC1.out Zh1.out).mono ?_
  rintro e w22 ⟨vt, rfl, ho, hb⟩
  obtain ⟨Avt, cvt, rfl⟩ := Kd.R_slice ho
  have n_ := Aside0.mk (HOvp2.out.below hb); clear HOvp2; have HOvp2 := n_; clear n_
  have n_ := Aside0.mk (HOvq2.out.below hb); clear HOvq2; have HOvq2 := n_; clear n_
  have n_ := Aside0.mk (HOvr2.out.below hb); clear HOvr2; have HOvr2 := n_; clear n_
  have n_ := Aside0.mk (HOvs2.out.below hb); clear HOvs2; have HOvs2 := n_; clear n_
  have n_ := Aside0.mk (below_step HB.out hb); clear HB; have HB := n_; clear n_
  have HS22 := Aside0.mk hb.size
  clear hb
  have HOvt := Aside0.mk (Own.make ho); clear ho
  go_wp2_with (fail)
  refine (attrs_Compose.calls k _ _ l0 _ _ l1 q qe _ (Kd.C_below HR0.out HB.out) HC0.out (Kd.C_below HR1.out HB.out) HC1.out Zh2.out).mono ?_
  rintro e w23 ⟨vu, rfl, ho, hb⟩
  obtain ⟨Avu, cvu, rfl⟩ := Kd.R_slice ho
  have n_ := Aside0.mk (HOvp2.out.below hb); clear HOvp2; have HOvp2 := n_; clear n_
  have n_ := Aside0.mk (HOvq2.out.below hb); clear HOvq2; have HOvq2 := n_; clear n_
  have n_ := Aside0.mk (HOvr2.out.below hb); clear HOvr2; have HOvr2 := n_; clear n_
  have n_ := Aside0.mk (HOvs2.out.below hb); clear HOvs2; have HOvs2 := n_; clear n_
  have n_ := Aside0.mk (HOvt.out.below hb); clear HOvt; have HOvt := n_; clear n_
  have n_ := Aside0.mk (below_step HB.out hb); clear HB; have HB := n_; clear n_
  have HS23 := Aside0.mk hb.size
  clear hb
  have HOvu := Aside0.mk (Own.make ho); clear ho
  go_wp2_with (fail)
  refine (attrs_Follow.calls k _ _ l0 _ _ l1 a2 r re _ (Kd.C_below HR0.out HB.out) HC0.out (Kd.C_below HR1.out HB.out) HC1.out Zh3.out).mono ?_
  rintro e w24 ⟨vv, rfl, ho, hb⟩
  obtain ⟨Avv, cvv, rfl⟩ := Kd.R_slice ho
  have n_ := Aside0.mk (HOvp2.out.below hb); clear HOvp2; have HOvp2 := n_; clear n_
  have n_ := Aside0.mk (HOvq2.out.below hb); clear HOvq2; have HOvq2 := n_; clear n_
  have n_ := Aside0.mk (HOvr2.out.below hb); clear HOvr2; have HOvr2 := n_; clear n_
  have n_ := Aside0.mk (HOvs2.out.below hb); clear HOvs2; have HOvs2 := n_; clear n_
  have n_ := Aside0.mk (HOvt.out.below hb); clear HOvt; have HOvt := n_; clear n_
  have n_ := Aside0.mk (HOvu.out.below hb); clear HOvu; have HOvu := n_; clear n_
  have n_ := Aside0.mk (below_step HB.out hb); clear HB; have HB := n_; clear n_
  have HS24 := Aside0.mk hb.size
  clear hb
  have HOvv := Aside0.mk (Own.make ho); clear ho
  go_wp2_with (fail)
  refine (attrs_Invert.calls k _ _ l0 _ _ l1 s se _ (Kd.C_below HR0.out HB.out) HC0.out (Kd.C_below HR1.out HB.out) HC1.out Zh4.out).mono ?_
  rintro e w25 ⟨vw, rfl, ho, hb⟩
  obtain ⟨Avw, cvw, rfl⟩ := Kd.R_slice ho
  have n_ := Aside0.mk (HOvp2.out.below hb); clear HOvp2; have HOvp2 := n_; clear n_
  have n_ := Aside0.mk (HOvq2.out.below hb); clear HOvq2; have HOvq2 := n_; clear n_
  have n_ := Aside0.mk (HOvr2.out.below hb); clear HOvr2; have HOvr2 := n_; clear n_
  have n_ := Aside0.mk (HOvs2.out.below hb); clear HOvs2; have HOvs2 := n_; clear n_
  have n_ := Aside0.mk (HOvt.out.below hb); clear HOvt; have HOvt := n_; clear n_
  have n_ := Aside0.mk (HOvu.out.below hb); clear HOvu; have HOvu := n_; clear n_
  have n_ := Aside0.mk (HOvv.out.below hb); clear HOvv; have HOvv := n_; clear n_
  have n_ := Aside0.mk (below_step HB.out hb); clear HB; have HB := n_; clear n_
  have HS25 := Aside0.mk hb.size
  clear hb
  have HOvw := Aside0.mk (Own.make ho); clear ho
  go_wp2_with (fail)
  refine (blotterref02_Same.calls k _ _ p _ _ p true _ HOvt.out.C.1 HOvt.out.C.2 HOvp2.out.C.1 HOvp2.out.C.2 Zep.out).mono ?_
  rintro e w26 ⟨rfl, hd⟩
  have hb := drawn_below hd; clear hd
  have n_ := Aside0.mk (HOvp2.out.below hb); clear HOvp2; have HOvp2 := n_; clear n_
  have n_ := Aside0.mk (HOvq2.out.below hb); clear HOvq2; have HOvq2 := n_; clear n_
  have n_ := Aside0.mk (HOvr2.out.below hb); clear HOvr2; have HOvr2 := n_; clear n_
  have n_ := Aside0.mk (HOvs2.out.below hb); clear HOvs2; have HOvs2 := n_; clear n_
  have n_ := Aside0.mk (HOvt.out.below hb); clear HOvt; have HOvt := n_; clear n_
  have n_ := Aside0.mk (HOvu.out.below hb); clear HOvu; have HOvu := n_; clear n_
  have n_ := Aside0.mk (HOvv.out.below hb); clear HOvv; have HOvv := n_; clear n_
  have n_ := Aside0.mk (HOvw.out.below hb); clear HOvw; have HOvw := n_; clear n_
  have n_ := Aside0.mk (below_step HB.out hb); clear HB; have HB := n_; clear n_
  have HS26 := Aside0.mk hb.size
  clear hb
  go_wp2_with (fail)
  refine (blotterref02_Same.calls k _ _ q _ _ q true _ HOvu.out.C.1 HOvu.out.C.2 HOvq2.out.C.1 HOvq2.out.C.2 Zeq.out).mono ?_
  rintro e w27 ⟨rfl, hd⟩
  have hb := drawn_below hd; clear hd
  have n_ := Aside0.mk (HOvp2.out.below hb); clear HOvp2; have HOvp2 := n_; clear n_
  have n_ := Aside0.mk (HOvq2.out.below hb); clear HOvq2; have HOvq2 := n_; clear n_
  have n_ := Aside0.mk (HOvr2.out.below hb); clear HOvr2; have HOvr2 := n_; clear n_
  have n_ := Aside0.mk (HOvs2.out.below hb); clear HOvs2; have HOvs2 := n_; clear n_
  have n_ := Aside0.mk (HOvt.out.below hb); clear HOvt; have HOvt := n_; clear n_
  have n_ := Aside0.mk (HOvu.out.below hb); clear HOvu; have HOvu := n_; clear n_
  have n_ := Aside0.mk (HOvv.out.below hb); clear HOvv; have HOvv := n_; clear n_
  have n_ := Aside0.mk (HOvw.out.below hb); clear HOvw; have HOvw := n_; clear n_
  have n_ := Aside0.mk (below_step HB.out hb); clear HB; have HB := n_; clear n_
  have HS27 := Aside0.mk hb.size
  clear hb
  go_wp2_with (fail)
  refine (blotterref02_Same.calls k _ _ r _ _ r true _ HOvv.out.C.1 HOvv.out.C.2 HOvr2.out.C.1 HOvr2.out.C.2 Zer.out).mono ?_
  rintro e w28 ⟨rfl, hd⟩
  have hb := drawn_below hd; clear hd
  have n_ := Aside0.mk (HOvp2.out.below hb); clear HOvp2; have HOvp2 := n_; clear n_
  have n_ := Aside0.mk (HOvq2.out.below hb); clear HOvq2; have HOvq2 := n_; clear n_
  have n_ := Aside0.mk (HOvr2.out.below hb); clear HOvr2; have HOvr2 := n_; clear n_
  have n_ := Aside0.mk (HOvs2.out.below hb); clear HOvs2; have HOvs2 := n_; clear n_
  have n_ := Aside0.mk (HOvt.out.below hb); clear HOvt; have HOvt := n_; clear n_
  have n_ := Aside0.mk (HOvu.out.below hb); clear HOvu; have HOvu := n_; clear n_
  have n_ := Aside0.mk (HOvv.out.below hb); clear HOvv; have HOvv := n_; clear n_
  have n_ := Aside0.mk (HOvw.out.below hb); clear HOvw; have HOvw := n_; clear n_
  have n_ := Aside0.mk (below_step HB.out hb); clear HB; have HB := n_; clear n_
  have HS28 := Aside0.mk hb.size
  clear hb
  go_wp2_with (fail)
  refine (blotterref02_Same.calls k _ _ s _ _ s true _ HOvw.out.C.1 HOvw.out.C.2 HOvs2.out.C.1 HOvs2.out.C.2 Zes.out).mono ?_
  rintro e w29 ⟨rfl, hd⟩
  have hb := drawn_below hd; clear hd
  have n_ := Aside0.mk (HOvp2.out.below hb); clear HOvp2; have HOvp2 := n_; clear n_
  have n_ := Aside0.mk (HOvq2.out.below hb); clear HOvq2; have HOvq2 := n_; clear n_
  have n_ := Aside0.mk (HOvr2.out.below hb); clear HOvr2; have HOvr2 := n_; clear n_
  have n_ := Aside0.mk (HOvs2.out.below hb); clear HOvs2; have HOvs2 := n_; clear n_
  have n_ := Aside0.mk (HOvt.out.below hb); clear HOvt; have HOvt := n_; clear n_
  have n_ := Aside0.mk (HOvu.out.below hb); clear HOvu; have HOvu := n_; clear n_
  have n_ := Aside0.mk (HOvv.out.below hb); clear HOvv; have HOvv := n_; clear n_
  have n_ := Aside0.mk (HOvw.out.below hb); clear HOvw; have HOvw := n_; clear n_
  have n_ := Aside0.mk (below_step HB.out hb); clear HB; have HB := n_; clear n_
  have HS29 := Aside0.mk hb.size
  clear hb
  go_wp2_with (fail)
  go_ret
  exact ⟨by first | rfl | simp, HB.out⟩
def blotterlaw02_AttrsWorks.Ok (k : Nat) (l0 l1 : List S36) (a2 r : Bool) : Prop := r = true ∧ l0.length * 32 ≤ 140737488351232 ∧ l1.length * 32 ≤ 140737488351232 ∧ blotterlaw02_awake.f k = some true ∧
  ∃ (p q r s : List S36) (pe qe re se n1 n2 n3 n4 : Int),
    (attrs_Apply.f k l0 l1 = some (p, pe) ∧ attrs_Compose.f k l0 l1 = some (q, qe) ∧ attrs_Follow.f k l0 l1 a2 = some (r, re) ∧ attrs_Invert.f k l0 l1 = some (s, se)) ∧
    (blotterref02_Apply.f k l0 l1 = some (p, pe) ∧ blotterref02_Compose.f k l0 l1 = some (q, qe) ∧ blotterref02_Follow.f k l0 l1 a2 = some (r, re) ∧ blotterref02_Invert.f k l0 l1 = some (s, se)) ∧
    (blotterref02_Same.f k l0 l0 = some true ∧ blotterref02_Same.f k l1 l1 = some true) ∧
    (blotterref02_Same.f k p p = some true ∧ blotterref02_Same.f k q q = some true ∧ blotterref02_Same.f k r r = some true ∧ blotterref02_Same.f k s s = some true) ∧
    (blotterlaw02_Spoil.f k p = some n1 ∧ blotterlaw02_Spoil.f k q = some n2 ∧ blotterlaw02_Spoil.f k r = some n3 ∧ blotterlaw02_Spoil.f k s = some n4) ∧
    wrap64 (wrap64 (wrap64 (n1 + n2) + n3) + n4) ≥ 4
theorem blotterlaw02_AttrsWorks.calls (k : Nat) (A0 : Option Addr) (c0 : Nat) (l0 : List S36) (A1 : Option Addr) (c1 : Nat) (l1 : List S36) (a2 : Bool) (r : Bool) (w : World) (hr0 : Kd.C k36 w A0 l0.length l0) (hc0 : l0.length ≤ c0) (hr1 : Kd.C k36 w A1 l1.length l1) (hc1 : l1.length ≤ c1) (h : blotterlaw02_AttrsWorks.Ok k l0 l1 a2 r) :
    Calls Try.prog 3 #[.slice A0 l0.length c0, .slice A1 l1.length c1, .bool a2] w fun e w' => e = .returned (.bool r) ∧ Below w.heap.size w w' := by
  obtain ⟨rfl, hl0, hl1, hA, p, q, r, s, pe, qe, re, se, n1, n2, n3, n4, ⟨h1, h2, h3, h4⟩, ⟨g1, g2, g3, g4⟩, ⟨e0, e1⟩, ⟨ep, eq, er, es⟩, ⟨t1, t2, t3, t4⟩, hn⟩ := h
  exact blotterlaw02_AttrsWorks.walk k A0 c0 l0 A1 c1 l1 a2 w p q r s pe qe re se n1 n2 n3 n4 hr0 hc0 hr1 hc1 hl0 hl1 hA h1 h2 h3 h4 g1 g2 g3 g4 e0 e1 ep eq er es t1 t2 t3 t4 hn
end Go.Proofs.Ytajfplgkenpmcaa.Sp
