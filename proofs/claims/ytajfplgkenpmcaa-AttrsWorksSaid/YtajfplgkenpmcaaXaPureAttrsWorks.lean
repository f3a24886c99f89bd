/- The pure statement of AttrsWorks: what changes make of attributes and of each other, as the document says. -/
import Derived.Test.YtajfplgkenpmcaaXaSemG
import Derived.Test.YtajfplgkenpmcaaXaSemAwake
import Derived.Test.YtajfplgkenpmcaaXaOpenAttr
import Derived.Test.YtajfplgkenpmcaaXaWorks
namespace Go.Proofs.Ytajfplgkenpmcaa.Pure
open Go.RowKit Go.Proofs.YtajfplgkenpmcaaW.PrintWords Go.Proofs.Ytajfplgkenpmcaa.Sp Go.Proofs.Ytajfplgkenpmcaa.Open Go.Proofs.Ytajfplgkenpmcaa.Sem
theorem few_len (x : List S36) : (fewS x).1.length ≤ 8 := by
  unfold fewS
  by_cases h : x.length > 8
  · rw [if_pos h]; simp
  · rw [if_neg h]; show x.length ≤ 8; omega
theorem wrap_small (x : Int) (h0 : 0 ≤ x) (h1 : x ≤ 100) : wrap64 x = x := by unfold wrap64; omega
theorem four_wrap (a b c d : Nat) (ha : a ≤ 8) (hb : b ≤ 8) (hc : c ≤ 16) (hd : d ≤ 16) : wrap64 (wrap64 (wrap64 ((a : Int) + 1 + ((b : Int) + 1)) + ((c : Int) + 1)) + ((d : Int) + 1)) ≥ 4 := by
  rw [wrap_small ((a : Int) + 1 + ((b : Int) + 1)) (by omega) (by omega), wrap_small ((a : Int) + 1 + ((b : Int) + 1) + ((c : Int) + 1)) (by omega) (by omega), wrap_small _ (by omega) (by omega)]
  omega
set_option maxHeartbeats 4000000 in
theorem AttrsWorks (l0 l1 : List S36) (a2 : Bool) (h0 : GoodAttrs l0) (h1 : GoodAttrs l1) : ∃ k, blotterlaw02_AttrsWorks.Ok k l0 l1 a2 true := by
  have s0 : Small l0 := ⟨h0.2.1, h0.2.2⟩
  have s1 : Small l1 := ⟨h1.2.1, h1.2.2⟩
  have lp : (applyS l0 l1).1.length ≤ 8 := by unfold applyS; split; exact few_len _; simp
  have lq : (composeS l0 l1).1.length ≤ 8 := by unfold composeS; split; exact few_len _; simp
  have lm : ∀ c, changeOk l0 = true → changeOk l1 = true → (mergeS c l0 l1).length ≤ 16 := fun c x y => by
    have := merge_len c l0 l1; have := ch_len x; have := ch_len y; omega
  have lr : (followS l0 l1 a2).1.length ≤ 16 := by
    unfold followS; split
    · rename_i h; rw [Bool.and_eq_true] at h; exact lm _ h.1 h.2
    · simp
  have ls : (invertS l0 l1).1.length ≤ 16 := by
    unfold invertS; split
    · rename_i h; rw [Bool.and_eq_true] at h; exact lm _ (ri_ch h.1) h.2
    · simp
  obtain ⟨K0, H0⟩ := awake_ev
  obtain ⟨K1, H1⟩ := apply_ev l0 l1 s0 s1
  obtain ⟨K2, H2⟩ := compose_ev l0 l1 s0 s1
  obtain ⟨K3, H3⟩ := follow_ev l0 l1 a2 s0 s1
  obtain ⟨K4, H4⟩ := invert_ev l0 l1 s0 s1
  obtain ⟨K5, H5⟩ := refapply_ev l0 l1 s0 s1
  obtain ⟨K6, H6⟩ := refcompose_ev l0 l1 s0 s1
  obtain ⟨K7, H7⟩ := reffollow_ev l0 l1 a2 s0 s1
  obtain ⟨K8, H8⟩ := refinvert_ev l0 l1 s0 s1
  obtain ⟨K9, H9⟩ := refsame_ev l0 l0 s0.1
  obtain ⟨K10, H10⟩ := refsame_ev l1 l1 s1.1
  obtain ⟨K11, H11⟩ := refsame_ev (applyS l0 l1).1 (applyS l0 l1).1 (by omega)
  obtain ⟨K12, H12⟩ := refsame_ev (composeS l0 l1).1 (composeS l0 l1).1 (by omega)
  obtain ⟨K13, H13⟩ := refsame_ev (followS l0 l1 a2).1 (followS l0 l1 a2).1 (by omega)
  obtain ⟨K14, H14⟩ := refsame_ev (invertS l0 l1).1 (invertS l0 l1).1 (by omega)
  obtain ⟨K15, H15⟩ := spoil_ev (applyS l0 l1).1 (by omega)
  obtain ⟨K16, H16⟩ := spoil_ev (composeS l0 l1).1 (by omega)
  obtain ⟨K17, H17⟩ := spoil_ev (followS l0 l1 a2).1 (by omega)
  obtain ⟨K18, H18⟩ := spoil_ev (invertS l0 l1).1 (by omega)
  obtain ⟨k, hk⟩ : ∃ k, k = K0 + K1 + K2 + K3 + K4 + K5 + K6 + K7 + K8 + K9 + K10 + K11 + K12 + K13 + K14 + K15 + K16 + K17 + K18 := ⟨_, rfl⟩
  replace H0 := H0 k (by omega)
  replace H1 := H1 k (by omega)
  replace H2 := H2 k (by omega)
  replace H3 := H3 k (by omega)
  replace H4 := H4 k (by omega)
  replace H5 := H5 k (by omega)
  replace H6 := H6 k (by omega)
  replace H7 := H7 k (by omega)
  replace H8 := H8 k (by omega)
  replace H9 := H9 k (by omega)
  replace H10 := H10 k (by omega)
  replace H11 := H11 k (by omega)
  replace H12 := H12 k (by omega)
  replace H13 := H13 k (by omega)
  replace H14 := H14 k (by omega)
  replace H15 := H15 k (by omega)
  replace H16 := H16 k (by omega)
  replace H17 := H17 k (by omega)
  replace H18 := H18 k (by omega)
  simp only [decide_true] at H9 H10 H11 H12 H13 H14
  refine ⟨k, rfl, h0.1, h1.1, H0, (applyS l0 l1).1, (composeS l0 l1).1, (followS l0 l1 a2).1, (invertS l0 l1).1, (applyS l0 l1).2, (composeS l0 l1).2, (followS l0 l1 a2).2, (invertS l0 l1).2, _, _, _, _, ⟨H1, H2, H3, H4⟩, ⟨H5, H6, H7, H8⟩, ⟨H9, H10⟩, ⟨H11, H12, H13, H14⟩, ⟨H15, H16, H17, H18⟩, ?_⟩
  clear H0 H1 H2 H3 H4 H5 H6 H7 H8 H9 H10 H11 H12 H13 H14 H15 H16 H17 H18 hk
  generalize (applyS l0 l1).1.length = x1 at *
  generalize (composeS l0 l1).1.length = x2 at *
  generalize (followS l0 l1 a2).1.length = x3 at *
  generalize (invertS l0 l1).1.length = x4 at *
  exact four_wrap x1 x2 x3 x4 lp lq lr ls
end Go.Proofs.Ytajfplgkenpmcaa.Pure
