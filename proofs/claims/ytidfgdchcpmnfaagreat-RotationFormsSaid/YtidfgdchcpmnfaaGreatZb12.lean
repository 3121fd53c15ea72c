/-
  Lemmas for the statements about rotations, part 12 of 51.
-/
import Derived.BigQuiet
import Derived.Test.YtidfgdchcpmnfaaGreatZb03
import Derived.Test.YtidfgdchcpmnfaaGreatZb09
namespace Go.Proofs.YtidfgdchcpmnfaaGreat
open Go.RowKit
set_option maxRecDepth 100000
set_option maxHeartbeats 2000000
set_option linter.unusedSimpArgs false
set_option linter.unusedVariables false
theorem Canon.pos {b : List Nat} (hb : Canon b) (h : b ≠ []) : 0 < val b := by
  rcases Nat.eq_zero_or_pos (val b) with h0 | h0
  · have := dig_val hb
    rw [h0,dig_zero] at this
    exact absurd this.symm h
  · exact h0
def GTwo (l m : List Nat) (w : World) (e : Ending) (w' : World) : Prop := ∃ v1 v2,e = .returned (.tuple #[v1,v2]) ∧ Rd w' v1 l ∧ Rd w' v2 m ∧ Below w.heap.size w w'
theorem over_lt (s t : Value) (a b : List Nat) (w : World) (hs : Rd w s a) (ht : Rd w t b) (ha : Canon a) (hb : Canon b) (la : a.length ≤ 1000000000) (hb0 : b ≠ []) (hlt : val a < val b) :
    Calls Tryz.prog 151 #[s,t] w (GTwo (dig (val a / val b)) (dig (val a % val b)) w) := by
  have hbp := hb.pos hb0
  obtain ⟨p,c,rfl,hc1,hc2⟩ := hs.form
  obtain ⟨q,d,rfl,hd1,hd2⟩ := ht.form
  have HX : Hid (dig (val a / val b) = [] ∧ dig (val a % val b) = a) := by
    refine ⟨by rw [Nat.div_eq_of_lt hlt,dig_zero],by rw [Nat.mod_eq_of_lt hlt,dig_val ha]⟩
  have hcv : cmpI (val a) (val b) = -1 := by unfold cmpI;rw [if_pos (by omega)]
  have HCV := Lib.hid hcv
  clear hcv hlt hbp
  go_enter Tryz.func151,Tryz.ntmps151
  go_wp2_with fail
  refine (compare_any _ _ a b _ hs ht ha hb).mono ?_
  rw [HCV.out]
  rintro e w1 ⟨rfl,hb1⟩
  go_wp2_with fail
  go_ret2
  exact ⟨_,_,rfl,by rw [HX.out.1];exact Rd.nil _,by rw [HX.out.2];exact hs.below hb1,hb1⟩
theorem over_small (s t : Value) (a b : List Nat) (w : World) (hs : Rd w s a) (ht : Rd w t b) (ha : Canon a) (hb : Canon b) (la : a.length ≤ 1000000000) (hb0 : b ≠ []) (hle : val b ≤ val a) (ha2 : a.length ≤ 2) :
    Calls Tryz.prog 151 #[s,t] w (GTwo (dig (val a / val b)) (dig (val a % val b)) w) := by
  have hbp := hb.pos hb0
  obtain ⟨p,c,rfl,hc1,hc2⟩ := hs.form
  obtain ⟨q,d,rfl,hd1,hd2⟩ := ht.form
  have hlen : b.length ≤ a.length := by
    have := dig_length_mono hle
    rwa [dig_val ha,dig_val hb] at this
  have hb1' : 1 ≤ b.length := List.length_pos_iff.2 hb0
  have hc : 0 ≤ cmpI (val a) (val b) := by unfold cmpI;rw [if_neg (by omega)];split <;> omega
  obtain ⟨cv,hcv⟩ : ∃ cv,cmpI (val a) (val b) = cv := ⟨_,rfl⟩
  rw [hcv] at hc
  have hdc : decide (cv < 0) = false := by simpa using hc
  have HCV := Lib.hid hcv
  have HLE := Lib.hid hle
  have HBP := Lib.hid hbp
  clear hcv hle hbp hc
  have hb2 : b.length ≤ 2 := by omega
  have hA : val a ≤ 999999999999999999 := by
    have h1 := val_lt ha.1
    have h2 : BB ^ a.length ≤ BB ^ 2 := Nat.pow_le_pow_right BB_pos ha2
    rw [BB_eq] at h1 h2
    omega
  have hbv : 0 < val b := HBP.out
  have hble : val b ≤ val a := HLE.out
  obtain ⟨A,hA'⟩ : ∃ A,val a = A := ⟨_,rfl⟩
  obtain ⟨B,hB'⟩ : ∃ B,val b = B := ⟨_,rfl⟩
  rw [hA'] at hA hble ⊢
  rw [hB'] at hbv hble ⊢
  have hq1 : A / B ≤ A := Nat.div_le_self _ _
  have hr1 : A % B < B := Nat.mod_lt _ hbv
  obtain ⟨Q,hQ⟩ : ∃ Q,A / B = Q := ⟨_,rfl⟩
  obtain ⟨R,hR⟩ : ∃ R,A % B = R := ⟨_,rfl⟩
  rw [hQ] at hq1 ⊢
  rw [hR] at hr1 ⊢
  have i1 : (A : Int) / B = Q := by rw [← hQ];simp
  have i2 : (A : Int) % B = R := by rw [← hR];simp
  have i3 : (A : Int).tmod B = R := by rw [Int.tmod_eq_emod_of_nonneg (by omega)];exact i2
  have w1 : IntKind.u64.wrap (Q : Int) = Q := wrap_u64 (by omega)
  have w2 : IntKind.u64.wrap (R : Int) = R := wrap_u64 (by omega)
  have hdz : ((B : Int) == 0) = false := by simp;omega
  have hdn : ¬ B = 0 := by omega
  have hquo := fun w => quo_runL (n := A) (d := B) (v := Q) (by omega) hA i1 w1 w
  have hrem := fun w => rem_runL (n := A) (d := B) (v := R) (by omega) hA i2 w2 w
  have HAB := Lib.hid (And.intro hA' hB')
  clear hQ hR hA' hB'
  go_enter Tryz.func151,Tryz.ntmps151
  go_wp2_with fail
  refine (compare_any _ _ a b _ hs ht ha hb).mono ?_
  rw [HCV.out]
  rintro e w1 ⟨rfl,hb1⟩
  go_wp2_with fail
  refine (word_yes _ a _ (hs.below hb1) ha.1 ha2).mono ?_
  rw [HAB.out.1]
  rintro e w2 ⟨rfl,hb2'⟩
  go_wp2_with fail
  refine (word_yes _ b _ ((ht.below hb1).below hb2') hb.1 hb2).mono ?_
  rw [HAB.out.2]
  rintro e w3 ⟨rfl,hb3⟩
  have hB3 := (hb1.trans (hb2'.mono hb1.size)).trans (hb3.mono (Nat.le_trans hb1.size hb2'.size))
  have tk1 : True := trivial
  have hz3 := hB3.size
  go_wp2_with fail
  have S0 : (fun _ : World => True) w3.drew := trivial
  go_region_held3 (fun _ : World => True) (trivial)
    (first
      | (have := tk1;clear tk1;go_at_call 115;(with_reducible refine (split_any Q _ (by omega)).mono ?_);rintro e w4 ⟨v4,rfl,ho4,hb4⟩)
      | (go_at_call 115;(with_reducible refine (split_any R _ (by omega)).mono ?_);rintro e w5 ⟨v5,rfl,ho5,hb5⟩))
  go_wp2_with fail
  go_ret2
  exact ⟨_,_,rfl,(Rd.of_owns ho4).below hb5,Rd.of_owns ho5,(hB3.drew.trans (hb4.mono hz3)).trans (hb5.mono (Nat.le_trans hz3 hb4.size))⟩
theorem over_one (s t : Value) (a b : List Nat) (w : World) (hs : Rd w s a) (ht : Rd w t b) (ha : Canon a) (hb : Canon b) (la : a.length ≤ 1000000000) (hb0 : b ≠ []) (hle : val b ≤ val a) (ha3 : 2 < a.length) (hb1'' : b.length = 1) :
    Calls Tryz.prog 151 #[s,t] w (GTwo (dig (val a / val b)) (dig (val a % val b)) w) := by
  have hbp := hb.pos hb0
  obtain ⟨p,c,rfl,hc1,hc2⟩ := hs.form
  obtain ⟨q,d,rfl,hd1,hd2⟩ := ht.form
  have hlen : b.length ≤ a.length := by
    have := dig_length_mono hle
    rwa [dig_val ha,dig_val hb] at this
  have hb1' : 1 ≤ b.length := List.length_pos_iff.2 hb0
  have hc : 0 ≤ cmpI (val a) (val b) := by unfold cmpI;rw [if_neg (by omega)];split <;> omega
  obtain ⟨cv,hcv⟩ : ∃ cv,cmpI (val a) (val b) = cv := ⟨_,rfl⟩
  rw [hcv] at hc
  have hdc : decide (cv < 0) = false := by simpa using hc
  have HCV := Lib.hid hcv
  have HLE := Lib.hid hle
  have HBP := Lib.hid hbp
  clear hcv hle hbp hc
  obtain ⟨d0,rfl⟩ : ∃ d0,b = [d0] := by
    cases b with
    | nil => simp at hb1''
    | cons x t => cases t with
      | nil => exact ⟨x,rfl⟩
      | cons => simp at hb1''
  have ht' : Rd w (.slice q 1 d) [d0] := ht
  show Calls Tryz.prog 151 #[.slice p a.length c,.slice q 1 d] w _
  obtain ⟨gb,ob,rfl,hgb,hcb⟩ := ht'.at (by simp)
  have hc0 : w.cell? ⟨gb,ob,none⟩ = some (.int .u32 (d0 : Nat)) := by simpa [gr] using hcb 0 (by simp)
  have hd1' : d0 ≤ 999999999 := by have := hb.1 d0 (by simp);rw [BB_eq] at this;omega
  have hvd : val [d0] = d0 := by simp [val_cons]
  have hd0 : 1 ≤ d0 := by have := HBP.out;rw [hvd] at this;exact this
  have hr0 : val a % d0 < d0 := Nat.mod_lt _ hd0
  have HVD := Lib.hid hvd
  clear hvd hcb hb1''
  go_enter Tryz.func151,Tryz.ntmps151
  go_wp2_with fail
  refine (compare_any _ _ a [d0] _ hs ht' ha hb).mono ?_
  rw [HCV.out]
  rintro e w1 ⟨rfl,hb1⟩
  go_wp2_with fail
  refine (word_no _ a _ (hs.below hb1) ha3).mono ?_
  rintro e w2 ⟨rfl,hb2'⟩
  go_wp2_with fail
  refine (word_yes _ [d0] _ ((ht'.below hb1).below hb2') hb.1 (by simp)).mono ?_
  rintro e w3 ⟨rfl,hb3⟩
  have hB3 := (hb1.trans (hb2'.mono hb1.size)).trans (hb3.mono (Nat.le_trans hb1.size hb2'.size))
  have hc3 : w3.cell? ⟨gb,ob,none⟩ = some (.int .u32 (d0 : Nat)) := (hB3.cell (p := ⟨gb,ob,none⟩) hgb).trans hc0
  have hs3 := hs.below hB3
  have hz3 := hB3.size
  go_wp2_with fail
  refine (short_any _ a d0 _ hs3 ha.1 hd0 hd1' (by omega)).mono ?_
  rintro e w4 ⟨v4,rfl,ho4,hb4⟩
  obtain ⟨R,hR⟩ : ∃ R,val a % d0 = R := ⟨_,rfl⟩
  rw [hR] at hr0 ⊢
  have HR := Lib.hid hR
  clear hR
  go_wp2_with fail
  refine (split_any R _ (by omega)).mono ?_
  rintro e w5 ⟨v5,rfl,ho5,hb5⟩
  go_wp2_with fail
  go_ret2
  exact ⟨_,_,rfl,by rw [HVD.out];exact (Rd.of_owns ho4).below hb5,by rw [HVD.out,HR.out];exact Rd.of_owns ho5,(hB3.trans (hb4.mono hz3)).trans (hb5.mono (Nat.le_trans hz3 hb4.size))⟩
theorem over_long (s t : Value) (a b : List Nat) (w : World) (hs : Rd w s a) (ht : Rd w t b) (ha : Canon a) (hb : Canon b) (la : a.length ≤ 1000000000) (hb0 : b ≠ []) (hle : val b ≤ val a) (ha3 : 2 < a.length) (hb1'' : b.length ≠ 1) :
    Calls Tryz.prog 151 #[s,t] w (GTwo (dig (val a / val b)) (dig (val a % val b)) w) := by
  have hbp := hb.pos hb0
  obtain ⟨p,c,rfl,hc1,hc2⟩ := hs.form
  obtain ⟨q,d,rfl,hd1,hd2⟩ := ht.form
  have hlen : b.length ≤ a.length := by
    have := dig_length_mono hle
    rwa [dig_val ha,dig_val hb] at this
  have hb1' : 1 ≤ b.length := List.length_pos_iff.2 hb0
  have hc : 0 ≤ cmpI (val a) (val b) := by unfold cmpI;rw [if_neg (by omega)];split <;> omega
  obtain ⟨cv,hcv⟩ : ∃ cv,cmpI (val a) (val b) = cv := ⟨_,rfl⟩
  rw [hcv] at hc
  have hdc : decide (cv < 0) = false := by simpa using hc
  have HCV := Lib.hid hcv
  have HLE := Lib.hid hle
  have HBP := Lib.hid hbp
  clear hcv hle hbp hc
  have hb2 : 2 ≤ b.length := by omega
  have hne : ((b.length : Int) == 1) = false := by simp;omega
  have hz := fun (w3 : World) (hB3 : Below w.heap.size w w3) => long_any _ _ a b w3 (hs.below hB3) (ht.below hB3) ha hb la hb2 HLE.out
  have HZ := Lib.hid hz
  have HN1 := Lib.hid hb1''
  clear hz hb1''
  by_cases hb3 : b.length ≤ 2
  all_goals
    go_enter Tryz.func151,Tryz.ntmps151
    go_wp2_with fail
    refine (compare_any _ _ a b _ hs ht ha hb).mono ?_
    rw [HCV.out]
    rintro e w1 ⟨rfl,hb1⟩
    go_wp2_with fail
    refine (word_no _ a _ (hs.below hb1) ha3).mono ?_
    rintro e w2 ⟨rfl,hb2'⟩
    go_wp2_with fail
    first
      | refine (word_yes _ b _ ((ht.below hb1).below hb2') hb.1 hb3).mono ?_
      | refine (word_no _ b _ ((ht.below hb1).below hb2') (by omega)).mono ?_
    rintro e w3 ⟨rfl,hb3'⟩
    have hB3 := (hb1.trans (hb2'.mono hb1.size)).trans (hb3'.mono (Nat.le_trans hb1.size hb2'.size))
    go_wp2_with fail
    refine (HZ.out _ hB3).mono ?_
    rintro e w4 ⟨v1,v2,rfl,hv1,hv2,hb4⟩
    go_wp2_with fail
    go_ret2
    exact ⟨_,_,rfl,hv1,hv2,hB3.trans (hb4.mono hB3.size)⟩
theorem over_any (s t : Value) (a b : List Nat) (w : World) (hs : Rd w s a) (ht : Rd w t b) (ha : Canon a) (hb : Canon b) (la : a.length ≤ 1000000000) (hb0 : b ≠ []) :
    Calls Tryz.prog 151 #[s,t] w (GTwo (dig (val a / val b)) (dig (val a % val b)) w) := by
  by_cases hlt : val a < val b
  · exact over_lt s t a b w hs ht ha hb la hb0 hlt
  · by_cases ha2 : a.length ≤ 2
    · exact over_small s t a b w hs ht ha hb la hb0 (by omega) ha2
    · by_cases h1 : b.length = 1
      · exact over_one s t a b w hs ht ha hb la hb0 (by omega) (by omega) h1
      · exact over_long s t a b w hs ht ha hb la hb0 (by omega) (by omega) h1
end Go.Proofs.YtidfgdchcpmnfaaGreat
