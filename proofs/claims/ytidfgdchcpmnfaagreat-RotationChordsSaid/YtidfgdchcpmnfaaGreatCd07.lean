/-
  Lemmas for the theorem vchords_holds, part 7 of 33.
-/
import Derived.BigQuiet
import Derived.Test.YtidfgdchcpmnfaaGreatCd02
import Derived.Test.YtidfgdchcpmnfaaGreatCd06
namespace Go.Proofs.YtidfgdchcpmnfaaGreat
open Go.RowKit
set_option maxRecDepth 100000
set_option maxHeartbeats 2000000
set_option linter.unusedSimpArgs false
set_option linter.unusedVariables false
theorem Canon.pos {b : List Nat} (hb : Canon b) (h : b ≠ []) : 0 < val b := by
  rcases Nat.eq_zero_or_pos (val b) with h0 | h0
  · have := dig_val hb
    rw [h0,dig_zero] at this
    exact absurd this.symm h
  · exact h0
def GTwo (l m : List Nat) (w : World) (e : Ending) (w' : World) : Prop := ∃ v1 v2,e = .returned (.tuple #[v1,v2]) ∧ Rd w' v1 l ∧ Rd w' v2 m ∧ Below w.heap.size w w'
theorem over_lt (s t : Value) (a b : List Nat) (w : World) (hs : Rd w s a) (ht : Rd w t b) (ha : Canon a) (hb : Canon b) (la : a.length ≤ 1000000000) (hb0 : b ≠ []) (hlt : val a < val b) :
    Calls Tryz.prog 151 #[s,t] w (GTwo (dig (val a / val b)) (dig (val a % val b)) w) := by
  have hbp := hb.pos hb0
  obtain ⟨p,c,rfl,hc1,hc2⟩ := hs.form
  obtain ⟨q,d,rfl,hd1,hd2⟩ := ht.form
  have HX : Hid (dig (val a / val b) = [] ∧ dig (val a % val b) = a) := by
    refine ⟨by rw [Nat.div_eq_of_lt hlt,dig_zero],by rw [Nat.mod_eq_of_lt hlt,dig_val ha]⟩
  have hcv : cmpI (val a) (val b) = -1 := by unfold cmpI;rw [if_pos (by omega)]
  have HCV := Lib.hid hcv
  clear hcv hlt hbp
  go_enter Tryz.func151,Tryz.ntmps151
  go_wp2_with fail
  refine (compare_any _ _ a b _ hs ht ha hb).mono ?_
  rw [HCV.out]
  rintro e w1 ⟨rfl,hb1⟩
  go_wp2_with fail
  go_ret2
  exact ⟨_,_,rfl,by rw [HX.out.1];exact Rd.nil _,by rw [HX.out.2];exact hs.below hb1,hb1⟩
theorem over_small (s t : Value) (a b : List Nat) (w : World) (hs : Rd w s a) (ht : Rd w t b) (ha : Canon a) (hb : Canon b) (la : a.length ≤ 1000000000) (hb0 : b ≠ []) (hle : val b ≤ val a) (ha2 : a.length ≤ 2) :
    Calls Tryz.prog 151 #[s,t] w (GTwo (dig (val a / val b)) (dig (val a % val b)) w) := by
  have hbp := hb.pos hb0
  obtain ⟨p,c,rfl,hc1,hc2⟩ := hs.form
  obtain ⟨q,d,rfl,hd1,hd2⟩ := ht.form
  have hlen : b.length ≤ a.length := by
    have := dig_length_mono hle
    rwa [dig_val ha,dig_val hb] at this
  have hb1' : 1 ≤ b.length := List.length_pos_iff.2 hb0
  have hc : 0 ≤ cmpI (val a) (val b) := by unfold cmpI;rw [if_neg (by omega)];split <;> omega
  obtain ⟨cv,hcv⟩ : ∃ cv,cmpI (val a) (val b) = cv := ⟨_,rfl⟩
  rw [hcv] at hc
  have hdc : decide (cv < 0) = false := by simpa using hc
  have HCV := Lib.hid hcv
  have HLE := Lib.hid hle
  have HBP := Lib.hid hbp
  clear hcv hle hbp hc
  have hb2 : b.length ≤ 2 := by omega
  have hA : val a ≤ 999999999999999999 := by
    have h1 := val_lt ha.1
    have h2 : BB ^ a.length ≤ BB ^ 2 := Nat.pow_le_pow_right BB_pos ha2
    rw [BB_eq] at h1 h2
    omega
  have hbv : 0 < val b := HBP.out
  have hble : val b ≤ val a := HLE.out
  obtain ⟨A,hA'⟩ : ∃ A,val a = A := ⟨_,rfl⟩
  obtain ⟨B,hB'⟩ : ∃ B,val b = B := ⟨_,rfl⟩
  rw [hA'] at hA hble ⊢
  rw [hB'] at hbv hble ⊢
  have hq1 : A / B ≤ A := Nat.div_le_self _ _
  have hr1 : A % B < B := Nat.mod_lt _ hbv
  obtain ⟨Q,hQ⟩ : ∃ Q,A / B = Q := ⟨_,rfl⟩
  obtain ⟨R,hR⟩ : ∃ R,A % B = R := ⟨_,rfl⟩
  rw [hQ] at hq1 ⊢
  rw [hR] at hr1 ⊢
  have i1 : (A : Int) / B = Q := by rw [← hQ];simp
  have i2 : (A : Int) % B = R := by rw [← hR];simp
  have i3 : (A : Int).tmod B = R := by rw [Int.tmod_eq_emod_of_nonneg (by omega)];exact i2
  have w1 : IntKind.u64.wrap (Q : Int) = Q := wrap_u64 (by omega)
  have w2 : IntKind.u64.wrap (R : Int) = R := wrap_u64 (by omega)
  have hdz : ((B : Int) == 0) = false := by simp;omega
  have hdn : ¬ B = 0 := by omega
  have hquo := fun w => quo_runL (n := A) (d := B) (v := Q) (by omega) hA i1 w1 w
  have hrem := fun w => rem_runL (n := A) (d := B) (v := R) (by omega) hA i2 w2 w
  have HAB := Lib.hid (And.intro hA' hB')
  clear hQ hR hA' hB'
  go_enter Tryz.func151,Tryz.ntmps151
  go_wp2_with fail
  refine (compare_any _ _ a b _ hs ht ha hb).mono ?_
  rw [HCV.out]
  rintro e w1 ⟨rfl,hb1⟩
  go_wp2_with fail
  refine (word_yes _ a _ (hs.below hb1) ha.1 ha2).mono ?_
  rw [HAB.out.1]
  rintro e w2 ⟨rfl,hb2'⟩
  go_wp2_with fail
  refine (word_yes _ b _ ((ht.below hb1).below hb2') hb.1 hb2).mono ?_
  rw [HAB.out.2]
  rintro e w3 ⟨rfl,hb3⟩
  have hB3 := (hb1.trans (hb2'.mono hb1.size)).trans (hb3.mono (Nat.le_trans hb1.size hb2'.size))
  have tk1 : True := trivial
  have hz3 := hB3.size
  go_wp2_with fail
  have S0 : (fun _ : World => True) w3.drew := trivial
  go_region_held3 (fun _ : World => True) (trivial)
    (first
      | (have := tk1;clear tk1;go_at_call 115;(with_reducible refine (split_any Q _ (by omega)).mono ?_);rintro e w4 ⟨v4,rfl,ho4,hb4⟩)
      | (go_at_call 115;(with_reducible refine (split_any R _ (by omega)).mono ?_);rintro e w5 ⟨v5,rfl,ho5,hb5⟩))
  go_wp2_with fail
  go_ret2
  exact ⟨_,_,rfl,(Rd.of_owns ho4).below hb5,Rd.of_owns ho5,(hB3.drew.trans (hb4.mono hz3)).trans (hb5.mono (Nat.le_trans hz3 hb4.size))⟩
theorem over_one (s t : Value) (a b : List Nat) (w : World) (hs : Rd w s a) (ht : Rd w t b) (ha : Canon a) (hb : Canon b) (la : a.length ≤ 1000000000) (hb0 : b ≠ []) (hle : val b ≤ val a) (ha3 : 2 < a.length) (hb1'' : b.length = 1) :
    Calls Tryz.prog 151 #[s,t] w (GTwo (dig (val a / val b)) (dig (val a % val b)) w) := by
  have hbp := hb.pos hb0
  obtain ⟨p,c,rfl,hc1,hc2⟩ := hs.form
  obtain ⟨q,d,rfl,hd1,hd2⟩ := ht.form
  have hlen : b.length ≤ a.length := by
    have := dig_length_mono hle
    rwa [dig_val ha,dig_val hb] at this
  have hb1' : 1 ≤ b.length := List.length_pos_iff.2 hb0
  have hc : 0 ≤ cmpI (val a) (val b) := by unfold cmpI;rw [if_neg (by omega)];split <;> omega
  obtain ⟨cv,hcv⟩ : ∃ cv,cmpI (val a) (val b) = cv := ⟨_,rfl⟩
  rw [hcv] at hc
  have hdc : decide (cv < 0) = false := by simpa using hc
  have HCV := Lib.hid hcv
  have HLE := Lib.hid hle
  have HBP := Lib.hid hbp
  clear hcv hle hbp hc
  obtain ⟨d0,rfl⟩ : ∃ d0,b = [d0] := by
    cases b with
    | nil => simp at hb1''
    | cons x t => cases t with
      | nil => exact ⟨x,rfl⟩
      | cons => simp at hb1''
  have ht' : Rd w (.slice q 1 d) [d0] := ht
  show Calls Tryz.prog 151 #[.slice p a.length c,.slice q 1 d] w _
  obtain ⟨gb,ob,rfl,hgb,hcb⟩ := ht'.at (by simp)
  have hc0 : w.cell? ⟨gb,ob,none⟩ = some (.int .u32 (d0 : Nat)) := by simpa [gr] using hcb 0 (by simp)
  have hd1' : d0 ≤ 999999999 := by have := hb.1 d0 (by simp);rw [BB_eq] at this;omega
  have hvd : val [d0] = d0 := by simp [val_cons]
  have hd0 : 1 ≤ d0 := by have := HBP.out;rw [hvd] at this;exact this
  have hr0 : val a % d0 < d0 := Nat.mod_lt _ hd0
  have HVD := Lib.hid hvd
  clear hvd hcb hb1''
  go_enter Tryz.func151,Tryz.ntmps151
  go_wp2_with fail
  refine (compare_any _ _ a [d0] _ hs ht' ha hb).mono ?_
  rw [HCV.out]
  rintro e w1 ⟨rfl,hb1⟩
  go_wp2_with fail
  refine (word_no _ a _ (hs.below hb1) ha3).mono ?_
  rintro e w2 ⟨rfl,hb2'⟩
  go_wp2_with fail
  refine (word_yes _ [d0] _ ((ht'.below hb1).below hb2') hb.1 (by simp)).mono ?_
  rintro e w3 ⟨rfl,hb3⟩
  have hB3 := (hb1.trans (hb2'.mono hb1.size)).trans (hb3.mono (Nat.le_trans hb1.size hb2'.size))
  have hc3 : w3.cell? ⟨gb,ob,none⟩ = some (.int .u32 (d0 : Nat)) := (hB3.cell (p := ⟨gb,ob,none⟩) hgb).trans hc0
  have hs3 := hs.below hB3
  have hz3 := hB3.size
  go_wp2_with fail
  refine (short_any _ a d0 _ hs3 ha.1 hd0 hd1' (by omega)).mono ?_
  rintro e w4 ⟨v4,rfl,ho4,hb4⟩
  obtain ⟨R,hR⟩ : ∃ R,val a % d0 = R := ⟨_,rfl⟩
  rw [hR] at hr0 ⊢
  have HR := Lib.hid hR
  clear hR
  go_wp2_with fail
  refine (split_any R _ (by omega)).mono ?_
  rintro e w5 ⟨v5,rfl,ho5,hb5⟩
  go_wp2_with fail
  go_ret2
  exact ⟨_,_,rfl,by rw [HVD.out];exact (Rd.of_owns ho4).below hb5,by rw [HVD.out,HR.out];exact Rd.of_owns ho5,(hB3.trans (hb4.mono hz3)).trans (hb5.mono (Nat.le_trans hz3 hb4.size))⟩
theorem over_long (s t : Value) (a b : List Nat) (w : World) (hs : Rd w s a) (ht : Rd w t b) (ha : Canon a) (hb : Canon b) (la : a.length ≤ 1000000000) (hb0 : b ≠ []) (hle : val b ≤ val a) (ha3 : 2 < a.length) (hb1'' : b.length ≠ 1) :
    Calls Tryz.prog 151 #[s,t] w (GTwo (dig (val a / val b)) (dig (val a % val b)) w) := by
  have hbp := hb.pos hb0
  obtain ⟨p,c,rfl,hc1,hc2⟩ := hs.form
  obtain ⟨q,d,rfl,hd1,hd2⟩ := ht.form
  have hlen : b.length ≤ a.length := by
    have := dig_length_mono hle
    rwa [dig_val ha,dig_val hb] at this
  have hb1' : 1 ≤ b.length := List.length_pos_iff.2 hb0
  have hc : 0 ≤ cmpI (val a) (val b) := by unfold cmpI;rw [if_neg (by omega)];split <;> omega
  obtain ⟨cv,hcv⟩ : ∃ cv,cmpI (val a) (val b) = cv := ⟨_,rfl⟩
  rw [hcv] at hc
  have hdc : decide (cv < 0) = false := by simpa using hc
  have HCV := Lib.hid hcv
  have HLE := Lib.hid hle
  have HBP := Lib.hid hbp
  clear hcv hle hbp hc
  have hb2 : 2 ≤ b.length := by omega
  have hne : ((b.length : Int) == 1) = false := by simp;omega
  have hz := fun (w3 : World) (hB3 : Below w.heap.size w w3) => long_any _ _ a b w3 (hs.below hB3) (ht.below hB3) ha hb la hb2 HLE.out
  have HZ := Lib.hid hz
  have HN1 := Lib.hid hb1''
  clear hz hb1''
  by_cases hb3 : b.length ≤ 2
  all_goals
    go_enter Tryz.func151,Tryz.ntmps151
    go_wp2_with fail
    refine (compare_any _ _ a b _ hs ht ha hb).mono ?_
    rw [HCV.out]
    rintro e w1 ⟨rfl,hb1⟩
    go_wp2_with fail
    refine (word_no _ a _ (hs.below hb1) ha3).mono ?_
    rintro e w2 ⟨rfl,hb2'⟩
    go_wp2_with fail
    first
      | refine (word_yes _ b _ ((ht.below hb1).below hb2') hb.1 hb3).mono ?_
      | refine (word_no _ b _ ((ht.below hb1).below hb2') (by omega)).mono ?_
    rintro e w3 ⟨rfl,hb3'⟩
    have hB3 := (hb1.trans (hb2'.mono hb1.size)).trans (hb3'.mono (Nat.le_trans hb1.size hb2'.size))
    go_wp2_with fail
    refine (HZ.out _ hB3).mono ?_
    rintro e w4 ⟨v1,v2,rfl,hv1,hv2,hb4⟩
    go_wp2_with fail
    go_ret2
    exact ⟨_,_,rfl,hv1,hv2,hB3.trans (hb4.mono hB3.size)⟩
theorem over_any (s t : Value) (a b : List Nat) (w : World) (hs : Rd w s a) (ht : Rd w t b) (ha : Canon a) (hb : Canon b) (la : a.length ≤ 1000000000) (hb0 : b ≠ []) :
    Calls Tryz.prog 151 #[s,t] w (GTwo (dig (val a / val b)) (dig (val a % val b)) w) := by
  by_cases hlt : val a < val b
  · exact over_lt s t a b w hs ht ha hb la hb0 hlt
  · by_cases ha2 : a.length ≤ 2
    · exact over_small s t a b w hs ht ha hb la hb0 (by omega) ha2
    · by_cases h1 : b.length = 1
      · exact over_one s t a b w hs ht ha hb la hb0 (by omega) (by omega) h1
      · exact over_long s t a b w hs ht ha hb la hb0 (by omega) (by omega) h1
end Go.Proofs.YtidfgdchcpmnfaaGreat
namespace Go.Proofs.YtidfgdchcpmnfaaGreat
open Go.RowKit
set_option maxRecDepth 100000
set_option maxHeartbeats 2000000
set_option linter.unusedSimpArgs false
set_option linter.unusedVariables false
def GDiv (q r : Int) (w : World) (e : Ending) (w' : World) : Prop := ∃ v1 v2,e = .returned (.tuple #[v1,v2,.int .i64 0]) ∧ RInt w' v1 q ∧ RInt w' v2 r ∧ Below w.heap.size w w'
theorem groups_ne {y : Int} (h : y ≠ 0) : dig y.natAbs ≠ [] := fun e => h (by have := dig_eq_nil.1 e;omega)
theorem divide_out {w : World} {v : Value} {x y : Int} (h : RInt w v x) (e : x = y) : RInt w v y := e ▸ h
theorem divide_pp (v u : Value) (x y : Int) (w : World) (hv : Raw w v x) (hu : Raw w u y) (hl : isz x ≤ 1000000000) (hl2 : isz y ≤ 1000000000) (hy : y ≠ 0) (hr : x.natAbs % y.natAbs ≠ 0) {b d : Bool} {p o : Option Addr} {n c m e : Nat} (ev : v = .agg #[.bool b,.slice p n c]) (eu : u = .agg #[.bool d,.slice o m e]) (hbd : (b != d) = false) :
    Calls Tryz.prog 110 #[v,u] w (GDiv (x.fdiv y) (x.fmod y) w) := by
  subst ev
  subst eu
  have hx1 := sg_of hv
  have hy1 := sg_of hu
  have hyp : 0 < y.natAbs := by omega
  have HX : Hid (sg false (val (dig (val (dig x.natAbs) / val (dig y.natAbs)))) = x.fdiv y ∧ sg d (val (dig (val (dig x.natAbs) % val (dig y.natAbs)))) = x.fmod y) := by
    unfold Hid
    simp only [val_dig]
    obtain rfl : b = d := by simpa using hbd
    have e1 := fdiv_same b x.natAbs _ hyp
    rw [hx1,hy1] at e1
    rw [e1.1,e1.2]
    simp [sg]
  have hlx : (dig x.natAbs).length ≤ 1000000000 := hl
  have hly : (dig y.natAbs).length ≤ 1000000000 := hl2
  have hyn := groups_ne hy
  have hy0 : 0 < (dig y.natAbs).length := List.length_pos_iff.2 hyn
  have hrle : Hid (val (dig (val (dig x.natAbs) % val (dig y.natAbs))) ≤ val (dig y.natAbs)) := by unfold Hid;simp only [val_dig];exact Nat.le_of_lt (Nat.mod_lt _ hyp)
  have hrl2 : Hid ((dig (val (dig x.natAbs) % val (dig y.natAbs))).length ≤ (dig y.natAbs).length) := by unfold Hid;have := dig_length_mono hrle.out;simpa only [val_dig] using this
  have hrl : Hid ((dig (val (dig x.natAbs) % val (dig y.natAbs))).length ≤ 1000000000) := by have := hrl2.out;unfold Hid;omega
  have hql : Hid ((dig (val (dig x.natAbs) / val (dig y.natAbs))).length ≤ 1000000000) := by unfold Hid;simp only [val_dig];exact Nat.le_trans (dig_length_mono (Nat.div_le_self _ _)) hlx
  have hr0 : 0 < (dig (val (dig x.natAbs) % val (dig y.natAbs))).length := by simp only [val_dig];exact List.length_pos_iff.2 (fun e => hr (dig_eq_nil.1 e))
  skip
  skip
  skip
  have hbd2 : (!b == d) = false := by rw [← hbd];cases b <;> cases d <;> rfl
  clear hy hr hx1 hy1 hyp hl hl2
  have hB_0 : Below w.heap.size w w := Below.refl _ _
  go_enter Tryz.func110,Tryz.ntmps110
  go_wp2_with fail
  obtain ⟨hA1,i0,j0,n0,o0⟩ := bx4 w rfl [.bool b,.slice p n c] 28 [.bool d,.slice o m e] 28 [.bool false,.slice none 0 0] 28 [.bool false,.slice none 0 0] 28
  have S0_1 := (AndS.mk (i0.drew).bs2 (j0.drew).bs2)
  have tk1 : True := trivial
  have tk2 : True := trivial
  go_region_held3 (AndS (BS2 w.heap.size (.bool b) (.slice p n c)) (BS2 (w.heap.size + 1) (.bool d) (.slice o m e))) (first | with_reducible exact S0_1 | with_reducible exact HeldK.go (AndS.hk BS2.hk BS2.hk) (by assumption) (by assumption) | (simp;done))
    (first
      | (((have := tk1);clear tk1;have p0 := (hv.below hA1).drew;go_at_call 119;(with_reducible refine (groups_any _ (x) _ p0).mono ?_);rintro e w1 ⟨s1,rfl,hs1,hb1⟩;obtain ⟨p1,c1,rfl,hlp1,hmp1⟩ := hs1.form))
      | (((have := tk2);clear tk2;have hu_1 := ((hu.below hA1).drew.below hb1);have q0 := hu_1;go_at_call 119;(with_reducible refine (groups_any _ (y) _ q0).mono ?_);rintro e w2 ⟨s2,rfl,hs2,hb2⟩;obtain ⟨p2,c2,rfl,hlp2,hmp2⟩ := hs2.form)))
  go_wp2_with fail
  have x0 := (hs1.below hb2)
  have r0 := x0
  have s0 := hs2
  (with_reducible refine (over_any _ _ _ _ _ r0 s0 (dig_canon _) (dig_canon _) hlx hyn).mono ?_)
  rintro e w3 ⟨s3,t3,rfl,hs3,ht3,hb3⟩
  obtain ⟨p3,c3,rfl,hlp3,hmp3⟩ := hs3.form
  obtain ⟨o3,d3,rfl,hlo3,hmo3⟩ := ht3.form
  go_wp2_with fail
  have t0 := ht3
  (with_reducible refine (clone_any _ _ _ t0 (by have := hrl.out;omega)).mono ?_)
  rintro e w4 ⟨s4,rfl,ho4,hb4⟩
  have hs4 := Rd.of_owns ho4
  obtain ⟨p4,c4,rfl,hlp4,hmp4⟩ := hs4.form
  have q0_4 := ((((i0.drew.to hb1).to hb2).to hb3).to hb4)
  obtain ⟨a1,b1⟩ := q0_4.cs2
  have q1_4 := ((((j0.drew.to hb1).to hb2).to hb3).to hb4)
  obtain ⟨d1,f1⟩ := q1_4.cs2
  go_wp2_with fail
  have q3_4 := ((((o0.drew.to hb1).to hb2).to hb3).to hb4)
  have S0_8 := (AndS.mk (q0_4.drew).bs2 (AndS.mk (q1_4.drew).bs2 (BN.of (q3_4.drew))))
  have k0 : HeldC (w.heap.size + 1 + 1) (AndS (BS2 w.heap.size (.bool b) (.slice p n c)) (AndS (BS2 (w.heap.size + 1) (.bool d) (.slice o m e)) (BN (w.heap.size + 1 + 1 + 1)))) := (AndS.hc (BS2.hc (by omega)) (AndS.hc (BS2.hc (by omega)) BN.hc))
  have l0 : HeldC (w.heap.size + 1 + 1 + 1) (AndS (BS2 w.heap.size (.bool b) (.slice p n c)) (AndS (BS2 (w.heap.size + 1) (.bool d) (.slice o m e)) (BN (w.heap.size + 1 + 1 + 1)))) := (AndS.hc (BS2.hc (by omega)) (AndS.hc (BS2.hc (by omega)) BN.hc))
  have tk3 : True := trivial
  have tk4 : True := trivial
  go_region_held3 (AndS (BS2 w.heap.size (.bool b) (.slice p n c)) (AndS (BS2 (w.heap.size + 1) (.bool d) (.slice o m e)) (BN (w.heap.size + 1 + 1 + 1)))) (first | with_reducible exact S0_8 | with_reducible exact HeldK.go (AndS.hk BS2.hk (AndS.hk BS2.hk BN.hk)) (by assumption) (by assumption) | with_reducible exact HeldC.go2 k0 (by assumption) | with_reducible exact HeldC.go2 l0 (by assumption) | (simp;done))
    (first
      | (((have := tk3);clear tk3;have y0 := (hs3.below hb4);have u0 := y0.drew;go_at_call 114;(with_reducible refine (made_any _ _ _ _ u0 (dig_low _)).mono ?_);rintro e w5 ⟨v5,rfl,hi5,hb5⟩;obtain ⟨g5,p5,n5,c5,rfl⟩ := hi5.form))
      | (((have := tk4);clear tk4;have z0 := (hs4.drew.below hb5);have v0 := z0;go_at_call 114;(with_reducible refine (made_any _ _ _ _ v0 (dig_low _)).mono ?_);rintro e w6 ⟨v6,rfl,hi6,hb6⟩;obtain ⟨g6,p6,n6,c6,rfl⟩ := hi6.form;have q2_6 := ((((((n0.drew.to hb1).to hb2).to hb3).to hb4).drew.to hb5).to hb6);obtain ⟨a0,c0,b0,d0⟩ := q2_6.cf2;have q3_6 := ((q3_4.drew.to hb5).to hb6);obtain ⟨e0,g0,f0,h0⟩ := q3_6.cf2)))
  have w0 := (hi5.below hb6)
  have m0 := (Below.tr (Below.tr (Below.tr (Below.tr (Below.tr (Below.tr (Below.tr hB_0 hA1).drew hb1) hb2) hb3) hb4).drew hb5) hb6)
  go_wp2_with fail
  exact bodyPost_ret (v := .tuple #[.agg #[.bool g5,.slice p5 n5 c5],.agg #[.bool g6,.slice p6 n6 c6],.int .i64 0]) (by simp [results,Tryz.results110,go_sem,a0,c0,b0,d0,e0,g0,f0,h0]) rfl ⟨_,_,rfl,divide_out ((w0.sets2 q2_6 rfl rfl (.bool g5) (.slice p5 n5 c5)).sets2 (q3_6.other2 (b := w.heap.size + 1 + 1) (by omega) (.bool g5) (.slice p5 n5 c5)) rfl rfl (.bool g6) (.slice p6 n6 c6)) HX.out.1,divide_out ((hi6.sets2 q2_6 rfl rfl (.bool g5) (.slice p5 n5 c5)).sets2 (q3_6.other2 (b := w.heap.size + 1 + 1) (by omega) (.bool g5) (.slice p5 n5 c5)) rfl rfl (.bool g6) (.slice p6 n6 c6)) HX.out.2,(Below.sets2 (Below.sets2 m0 (b := w.heap.size + 1 + 1) (by omega) (.bool g5) (.slice p5 n5 c5)) (b := w.heap.size + 1 + 1 + 1) (by omega) (.bool g6) (.slice p6 n6 c6))⟩
theorem divide_np (v u : Value) (x y : Int) (w : World) (hv : Raw w v x) (hu : Raw w u y) (hl : isz x ≤ 1000000000) (hl2 : isz y ≤ 1000000000) (hy : y ≠ 0) (hr : x.natAbs % y.natAbs ≠ 0) {b d : Bool} {p o : Option Addr} {n c m e : Nat} (ev : v = .agg #[.bool b,.slice p n c]) (eu : u = .agg #[.bool d,.slice o m e]) (hbd : (b != d) = true) :
    Calls Tryz.prog 110 #[v,u] w (GDiv (x.fdiv y) (x.fmod y) w) := by
  subst ev
  subst eu
  have hx1 := sg_of hv
  have hy1 := sg_of hu
  have hyp : 0 < y.natAbs := by omega
  have HX : Hid (sg true (val (dig (val (dig (val (dig x.natAbs) / val (dig y.natAbs))) + val [1]))) = x.fdiv y ∧ sg d (val (dig (val (dig y.natAbs) - val (dig (val (dig x.natAbs) % val (dig y.natAbs)))))) = x.fmod y) := by
    unfold Hid
    simp only [val_dig]
    have e1 := fdiv_rest b d _ _ hyp hbd hr
    skip
    rw [hx1,hy1] at e1
    rw [e1.1,e1.2]
    simp [val_cons]
  have hlx : (dig x.natAbs).length ≤ 1000000000 := hl
  have hly : (dig y.natAbs).length ≤ 1000000000 := hl2
  have hyn := groups_ne hy
  have hy0 : 0 < (dig y.natAbs).length := List.length_pos_iff.2 hyn
  have hrle : Hid (val (dig (val (dig x.natAbs) % val (dig y.natAbs))) ≤ val (dig y.natAbs)) := by unfold Hid;simp only [val_dig];exact Nat.le_of_lt (Nat.mod_lt _ hyp)
  have hrl2 : Hid ((dig (val (dig x.natAbs) % val (dig y.natAbs))).length ≤ (dig y.natAbs).length) := by unfold Hid;have := dig_length_mono hrle.out;simpa only [val_dig] using this
  have hrl : Hid ((dig (val (dig x.natAbs) % val (dig y.natAbs))).length ≤ 1000000000) := by have := hrl2.out;unfold Hid;omega
  have hql : Hid ((dig (val (dig x.natAbs) / val (dig y.natAbs))).length ≤ 1000000000) := by unfold Hid;simp only [val_dig];exact Nat.le_trans (dig_length_mono (Nat.div_le_self _ _)) hlx
  have hr0 : 0 < (dig (val (dig x.natAbs) % val (dig y.natAbs))).length := by simp only [val_dig];exact List.length_pos_iff.2 (fun e => hr (dig_eq_nil.1 e))
  skip
  skip
  skip
  have hbd2 : (!b == d) = true := by rw [← hbd];cases b <;> cases d <;> rfl
  clear hy hr hx1 hy1 hyp hl hl2
  have hB_0 : Below w.heap.size w w := Below.refl _ _
  go_enter Tryz.func110,Tryz.ntmps110
  go_wp2_with fail
  obtain ⟨hA1,m0,n0,r0,s0⟩ := bx4 w rfl [.bool b,.slice p n c] 28 [.bool d,.slice o m e] 28 [.bool false,.slice none 0 0] 28 [.bool false,.slice none 0 0] 28
  have S0_1 := (AndS.mk (m0.drew).bs2 (n0.drew).bs2)
  have tk1 : True := trivial
  have tk2 : True := trivial
  go_region_held3 (AndS (BS2 w.heap.size (.bool b) (.slice p n c)) (BS2 (w.heap.size + 1) (.bool d) (.slice o m e))) (first | with_reducible exact S0_1 | with_reducible exact HeldK.go (AndS.hk BS2.hk BS2.hk) (by assumption) (by assumption) | (simp;done))
    (first
      | (((have := tk1);clear tk1;have t0 := (hv.below hA1).drew;go_at_call 119;(with_reducible refine (groups_any _ (x) _ t0).mono ?_);rintro e w1 ⟨s1,rfl,hs1,hb1⟩;obtain ⟨p1,c1,rfl,hlp1,hmp1⟩ := hs1.form))
      | (((have := tk2);clear tk2;have hu_1 := ((hu.below hA1).drew.below hb1);have u0 := hu_1;go_at_call 119;(with_reducible refine (groups_any _ (y) _ u0).mono ?_);rintro e w2 ⟨s2,rfl,hs2,hb2⟩;obtain ⟨p2,c2,rfl,hlp2,hmp2⟩ := hs2.form)))
  go_wp2_with fail
  have h1 := (hs1.below hb2)
  have v0 := h1
  have w0 := hs2
  (with_reducible refine (over_any _ _ _ _ _ v0 w0 (dig_canon _) (dig_canon _) hlx hyn).mono ?_)
  rintro e w3 ⟨s3,t3,rfl,hs3,ht3,hb3⟩
  obtain ⟨p3,c3,rfl,hlp3,hmp3⟩ := hs3.form
  obtain ⟨o3,d3,rfl,hlo3,hmo3⟩ := ht3.form
  go_wp2_with fail
  have x0 := ht3
  (with_reducible refine (clone_any _ _ _ x0 (by have := hrl.out;omega)).mono ?_)
  rintro e w4 ⟨s4,rfl,ho4,hb4⟩
  have hs4 := Rd.of_owns ho4
  obtain ⟨p4,c4,rfl,hlp4,hmp4⟩ := hs4.form
  have q0_4 := ((((m0.drew.to hb1).to hb2).to hb3).to hb4)
  obtain ⟨o1,q1⟩ := q0_4.cs2
  have q1_4 := ((((n0.drew.to hb1).to hb2).to hb3).to hb4)
  obtain ⟨r1,t1⟩ := q1_4.cs2
  have i0 := (q0_4).1
  have j0 := (q1_4).1
  have q2_4 := ((((r0.drew.to hb1).to hb2).to hb3).to hb4)
  have k0 := (q2_4).1
  have q3_4 := ((((s0.drew.to hb1).to hb2).to hb3).to hb4)
  have l0 := (q3_4).1
  have n1 : Rd (w4.alloc (.cells #[.int .u32 1] 118)) (.slice (some ⟨w4.heap.size,0,none⟩) 1 1) [1] := (by simpa using one_rd w4 1)
  go_wp2_with fail
  have j1 := (hs3.below hb4)
  obtain ⟨hA2,u1⟩ := bx1 w4 rfl [.int .u32 1] 118
  have y0 := (j1.below hA2)
  have z0 := n1
  (with_reducible refine (plus_any _ _ _ _ _ y0 z0 (dig_low _) (Low.cons.2 ⟨BB_one,Low.nil⟩) (by have := hql.out;omega) (by simp)).mono ?_)
  rintro e w5 ⟨s5,rfl,ho5,hb5⟩
  have hs5 := Rd.of_owns ho5
  obtain ⟨p5,c5,rfl,hlp5,hmp5⟩ := hs5.form
  go_wp2_with fail
  have i1 := ((((hs2.below hb3).below hb4).below hA2).below hb5)
  have a1 := i1
  have k1 := ((hs4.below hA2).below hb5)
  have b1 := k1
  (with_reducible refine (minus_any _ _ _ _ _ a1 b1 (dig_low _) (dig_low _) (by omega) (by have := hrl2.out;omega) (by have := hrle.out;omega)).mono ?_)
  rintro e w6 ⟨s6,rfl,ho6,hb6⟩
  have hs6 := Rd.of_owns ho6
  obtain ⟨p6,c6,rfl,hlp6,hmp6⟩ := hs6.form
  go_wp2_with fail
  have q0_6 := (((q0_4.to hA2).to hb5).to hb6)
  have q1_6 := (((q1_4.to hA2).to hb5).to hb6)
  have q3_6 := (((q3_4.to hA2).to hb5).to hb6)
  have S0_8 := (AndS.mk (q0_6.drew).bs2 (AndS.mk (q1_6.drew).bs2 (BN.of (q3_6.drew))))
  have o0 : HeldC (w.heap.size + 1 + 1) (AndS (BS2 w.heap.size (.bool b) (.slice p n c)) (AndS (BS2 (w.heap.size + 1) (.bool d) (.slice o m e)) (BN (w.heap.size + 1 + 1 + 1)))) := (AndS.hc (BS2.hc (by omega)) (AndS.hc (BS2.hc (by omega)) BN.hc))
  have p0 : HeldC (w.heap.size + 1 + 1 + 1) (AndS (BS2 w.heap.size (.bool b) (.slice p n c)) (AndS (BS2 (w.heap.size + 1) (.bool d) (.slice o m e)) (BN (w.heap.size + 1 + 1 + 1)))) := (AndS.hc (BS2.hc (by omega)) (AndS.hc (BS2.hc (by omega)) BN.hc))
  have tk3 : True := trivial
  have tk4 : True := trivial
  go_region_held3 (AndS (BS2 w.heap.size (.bool b) (.slice p n c)) (AndS (BS2 (w.heap.size + 1) (.bool d) (.slice o m e)) (BN (w.heap.size + 1 + 1 + 1)))) (first | with_reducible exact S0_8 | with_reducible exact HeldK.go (AndS.hk BS2.hk (AndS.hk BS2.hk BN.hk)) (by assumption) (by assumption) | with_reducible exact HeldC.go2 o0 (by assumption) | with_reducible exact HeldC.go2 p0 (by assumption) | (simp;done))
    (first
      | (((have := tk3);clear tk3;have l1 := (hs5.below hb6);have d1 := l1.drew;go_at_call 114;(with_reducible refine (made_any _ _ _ _ d1 (dig_low _)).mono ?_);rintro e w7 ⟨v7,rfl,hi7,hb7⟩;obtain ⟨g7,p7,n7,c7,rfl⟩ := hi7.form))
      | (((have := tk4);clear tk4;have m1 := (hs6.drew.below hb7);have f1 := m1;go_at_call 114;(with_reducible refine (made_any _ _ _ _ f1 (dig_low _)).mono ?_);rintro e w8 ⟨v8,rfl,hi8,hb8⟩;obtain ⟨g8,p8,n8,c8,rfl⟩ := hi8.form;have q2_8 := (((((q2_4.to hA2).to hb5).to hb6).drew.to hb7).to hb8);obtain ⟨a0,c0,b0,d0⟩ := q2_8.cf2;have q3_8 := ((q3_6.drew.to hb7).to hb8);obtain ⟨e0,g0,f0,h0⟩ := q3_8.cf2)))
  have g1 := (hi7.below hb8)
  have q0 := (Below.tr (Below.tr (Below.tr (Below.tr (Below.tr (Below.tr (Below.tr (Below.tr (Below.tr (Below.tr hB_0 hA1).drew hb1) hb2) hb3) hb4) hA2) hb5) hb6).drew hb7) hb8)
  go_wp2_with fail
  exact bodyPost_ret (v := .tuple #[.agg #[.bool g7,.slice p7 n7 c7],.agg #[.bool g8,.slice p8 n8 c8],.int .i64 0]) (by simp [results,Tryz.results110,go_sem,i0,j0,k0,l0,a0,c0,b0,d0,e0,g0,f0,h0]) rfl ⟨_,_,rfl,divide_out ((g1.sets2 q2_8 rfl rfl (.bool g7) (.slice p7 n7 c7)).sets2 (q3_8.other2 (b := w.heap.size + 1 + 1) (by omega) (.bool g7) (.slice p7 n7 c7)) rfl rfl (.bool g8) (.slice p8 n8 c8)) HX.out.1,divide_out ((hi8.sets2 q2_8 rfl rfl (.bool g7) (.slice p7 n7 c7)).sets2 (q3_8.other2 (b := w.heap.size + 1 + 1) (by omega) (.bool g7) (.slice p7 n7 c7)) rfl rfl (.bool g8) (.slice p8 n8 c8)) HX.out.2,(Below.sets2 (Below.sets2 q0 (b := w.heap.size + 1 + 1) (by omega) (.bool g7) (.slice p7 n7 c7)) (b := w.heap.size + 1 + 1 + 1) (by omega) (.bool g8) (.slice p8 n8 c8))⟩
theorem divide_p0 (v u : Value) (x y : Int) (w : World) (hv : Raw w v x) (hu : Raw w u y) (hl : isz x ≤ 1000000000) (hl2 : isz y ≤ 1000000000) (hy : y ≠ 0) (hr : x.natAbs % y.natAbs = 0) {b d : Bool} {p o : Option Addr} {n c m e : Nat} (ev : v = .agg #[.bool b,.slice p n c]) (eu : u = .agg #[.bool d,.slice o m e]) (hbd : (b != d) = false) :
    Calls Tryz.prog 110 #[v,u] w (GDiv (x.fdiv y) (x.fmod y) w) := by
  subst ev
  subst eu
  have hx1 := sg_of hv
  have hy1 := sg_of hu
  have hyp : 0 < y.natAbs := by omega
  have HX : Hid (sg false (val (dig (val (dig x.natAbs) / val (dig y.natAbs)))) = x.fdiv y ∧ sg d (val (dig (val (dig x.natAbs) % val (dig y.natAbs)))) = x.fmod y) := by
    unfold Hid
    simp only [val_dig]
    obtain rfl : b = d := by simpa using hbd
    have e1 := fdiv_same b x.natAbs _ hyp
    rw [hx1,hy1] at e1
    rw [e1.1,e1.2]
    simp [sg]
  have hlx : (dig x.natAbs).length ≤ 1000000000 := hl
  have hly : (dig y.natAbs).length ≤ 1000000000 := hl2
  have hyn := groups_ne hy
  have hy0 : 0 < (dig y.natAbs).length := List.length_pos_iff.2 hyn
  have hrle : Hid (val (dig (val (dig x.natAbs) % val (dig y.natAbs))) ≤ val (dig y.natAbs)) := by unfold Hid;simp only [val_dig];exact Nat.le_of_lt (Nat.mod_lt _ hyp)
  have hrl2 : Hid ((dig (val (dig x.natAbs) % val (dig y.natAbs))).length ≤ (dig y.natAbs).length) := by unfold Hid;have := dig_length_mono hrle.out;simpa only [val_dig] using this
  have hrl : Hid ((dig (val (dig x.natAbs) % val (dig y.natAbs))).length ≤ 1000000000) := by have := hrl2.out;unfold Hid;omega
  have hql : Hid ((dig (val (dig x.natAbs) / val (dig y.natAbs))).length ≤ 1000000000) := by unfold Hid;simp only [val_dig];exact Nat.le_trans (dig_length_mono (Nat.div_le_self _ _)) hlx
  have hr00 : (dig (val (dig x.natAbs) % val (dig y.natAbs))).length = 0 := by simp only [val_dig];rw [hr,dig_zero];rfl
  have hr1 : decide (0 < (dig (val (dig x.natAbs) % val (dig y.natAbs))).length) = false := by simp only [hr00];rfl
  have hr2 : decide ((0 : Int) < ((dig (val (dig x.natAbs) % val (dig y.natAbs))).length : Int)) = false := by simp only [hr00];rfl
  clear hr00
  have hbd2 : (!b == d) = false := by rw [← hbd];cases b <;> cases d <;> rfl
  clear hy hr hx1 hy1 hyp hl hl2
  have hB_0 : Below w.heap.size w w := Below.refl _ _
  go_enter Tryz.func110,Tryz.ntmps110
  go_wp2_with fail
  obtain ⟨hA1,i0,j0,n0,o0⟩ := bx4 w rfl [.bool b,.slice p n c] 28 [.bool d,.slice o m e] 28 [.bool false,.slice none 0 0] 28 [.bool false,.slice none 0 0] 28
  have S0_1 := (AndS.mk (i0.drew).bs2 (j0.drew).bs2)
  have tk1 : True := trivial
  have tk2 : True := trivial
  go_region_held3 (AndS (BS2 w.heap.size (.bool b) (.slice p n c)) (BS2 (w.heap.size + 1) (.bool d) (.slice o m e))) (first | with_reducible exact S0_1 | with_reducible exact HeldK.go (AndS.hk BS2.hk BS2.hk) (by assumption) (by assumption) | (simp;done))
    (first
      | (((have := tk1);clear tk1;have p0 := (hv.below hA1).drew;go_at_call 119;(with_reducible refine (groups_any _ (x) _ p0).mono ?_);rintro e w1 ⟨s1,rfl,hs1,hb1⟩;obtain ⟨p1,c1,rfl,hlp1,hmp1⟩ := hs1.form))
      | (((have := tk2);clear tk2;have hu_1 := ((hu.below hA1).drew.below hb1);have q0 := hu_1;go_at_call 119;(with_reducible refine (groups_any _ (y) _ q0).mono ?_);rintro e w2 ⟨s2,rfl,hs2,hb2⟩;obtain ⟨p2,c2,rfl,hlp2,hmp2⟩ := hs2.form)))
  go_wp2_with fail
  have x0 := (hs1.below hb2)
  have r0 := x0
  have s0 := hs2
  (with_reducible refine (over_any _ _ _ _ _ r0 s0 (dig_canon _) (dig_canon _) hlx hyn).mono ?_)
  rintro e w3 ⟨s3,t3,rfl,hs3,ht3,hb3⟩
  obtain ⟨p3,c3,rfl,hlp3,hmp3⟩ := hs3.form
  obtain ⟨o3,d3,rfl,hlo3,hmo3⟩ := ht3.form
  go_wp2_with fail
  have t0 := ht3
  (with_reducible refine (clone_any _ _ _ t0 (by have := hrl.out;omega)).mono ?_)
  rintro e w4 ⟨s4,rfl,ho4,hb4⟩
  have hs4 := Rd.of_owns ho4
  obtain ⟨p4,c4,rfl,hlp4,hmp4⟩ := hs4.form
  go_wp2_with fail
  have q0_4 := ((((i0.drew.to hb1).to hb2).to hb3).to hb4)
  have q1_4 := ((((j0.drew.to hb1).to hb2).to hb3).to hb4)
  have q3_4 := ((((o0.drew.to hb1).to hb2).to hb3).to hb4)
  have S0_8 := (AndS.mk (q0_4.drew).bs2 (AndS.mk (q1_4.drew).bs2 (BN.of (q3_4.drew))))
  have k0 : HeldC (w.heap.size + 1 + 1) (AndS (BS2 w.heap.size (.bool b) (.slice p n c)) (AndS (BS2 (w.heap.size + 1) (.bool d) (.slice o m e)) (BN (w.heap.size + 1 + 1 + 1)))) := (AndS.hc (BS2.hc (by omega)) (AndS.hc (BS2.hc (by omega)) BN.hc))
  have l0 : HeldC (w.heap.size + 1 + 1 + 1) (AndS (BS2 w.heap.size (.bool b) (.slice p n c)) (AndS (BS2 (w.heap.size + 1) (.bool d) (.slice o m e)) (BN (w.heap.size + 1 + 1 + 1)))) := (AndS.hc (BS2.hc (by omega)) (AndS.hc (BS2.hc (by omega)) BN.hc))
  have tk3 : True := trivial
  have tk4 : True := trivial
  go_region_held3 (AndS (BS2 w.heap.size (.bool b) (.slice p n c)) (AndS (BS2 (w.heap.size + 1) (.bool d) (.slice o m e)) (BN (w.heap.size + 1 + 1 + 1)))) (first | with_reducible exact S0_8 | with_reducible exact HeldK.go (AndS.hk BS2.hk (AndS.hk BS2.hk BN.hk)) (by assumption) (by assumption) | with_reducible exact HeldC.go2 k0 (by assumption) | with_reducible exact HeldC.go2 l0 (by assumption) | (simp;done))
    (first
      | (((have := tk3);clear tk3;have y0 := (hs3.below hb4);have u0 := y0.drew;go_at_call 114;(with_reducible refine (made_any _ _ _ _ u0 (dig_low _)).mono ?_);rintro e w5 ⟨v5,rfl,hi5,hb5⟩;obtain ⟨g5,p5,n5,c5,rfl⟩ := hi5.form))
      | (((have := tk4);clear tk4;have z0 := (hs4.drew.below hb5);have v0 := z0;go_at_call 114;(with_reducible refine (made_any _ _ _ _ v0 (dig_low _)).mono ?_);rintro e w6 ⟨v6,rfl,hi6,hb6⟩;obtain ⟨g6,p6,n6,c6,rfl⟩ := hi6.form;have q2_6 := ((((((n0.drew.to hb1).to hb2).to hb3).to hb4).drew.to hb5).to hb6);obtain ⟨a0,c0,b0,d0⟩ := q2_6.cf2;have q3_6 := ((q3_4.drew.to hb5).to hb6);obtain ⟨e0,g0,f0,h0⟩ := q3_6.cf2)))
  have w0 := (hi5.below hb6)
  have m0 := (Below.tr (Below.tr (Below.tr (Below.tr (Below.tr (Below.tr (Below.tr hB_0 hA1).drew hb1) hb2) hb3) hb4).drew hb5) hb6)
  go_wp2_with fail
  exact bodyPost_ret (v := .tuple #[.agg #[.bool g5,.slice p5 n5 c5],.agg #[.bool g6,.slice p6 n6 c6],.int .i64 0]) (by simp [results,Tryz.results110,go_sem,a0,c0,b0,d0,e0,g0,f0,h0]) rfl ⟨_,_,rfl,divide_out ((w0.sets2 q2_6 rfl rfl (.bool g5) (.slice p5 n5 c5)).sets2 (q3_6.other2 (b := w.heap.size + 1 + 1) (by omega) (.bool g5) (.slice p5 n5 c5)) rfl rfl (.bool g6) (.slice p6 n6 c6)) HX.out.1,divide_out ((hi6.sets2 q2_6 rfl rfl (.bool g5) (.slice p5 n5 c5)).sets2 (q3_6.other2 (b := w.heap.size + 1 + 1) (by omega) (.bool g5) (.slice p5 n5 c5)) rfl rfl (.bool g6) (.slice p6 n6 c6)) HX.out.2,(Below.sets2 (Below.sets2 m0 (b := w.heap.size + 1 + 1) (by omega) (.bool g5) (.slice p5 n5 c5)) (b := w.heap.size + 1 + 1 + 1) (by omega) (.bool g6) (.slice p6 n6 c6))⟩
theorem divide_n0 (v u : Value) (x y : Int) (w : World) (hv : Raw w v x) (hu : Raw w u y) (hl : isz x ≤ 1000000000) (hl2 : isz y ≤ 1000000000) (hy : y ≠ 0) (hr : x.natAbs % y.natAbs = 0) {b d : Bool} {p o : Option Addr} {n c m e : Nat} (ev : v = .agg #[.bool b,.slice p n c]) (eu : u = .agg #[.bool d,.slice o m e]) (hbd : (b != d) = true) :
    Calls Tryz.prog 110 #[v,u] w (GDiv (x.fdiv y) (x.fmod y) w) := by
  subst ev
  subst eu
  have hx1 := sg_of hv
  have hy1 := sg_of hu
  have hyp : 0 < y.natAbs := by omega
  have HX : Hid (sg true (val (dig (val (dig x.natAbs) / val (dig y.natAbs)))) = x.fdiv y ∧ sg d (val (dig (val (dig x.natAbs) % val (dig y.natAbs)))) = x.fmod y) := by
    unfold Hid
    simp only [val_dig]
    have e1 := fdiv_exact b d _ _ hyp hbd hr
    skip
    rw [hx1,hy1] at e1
    rw [e1.1,e1.2]
    simp [sg,hr]
  have hlx : (dig x.natAbs).length ≤ 1000000000 := hl
  have hly : (dig y.natAbs).length ≤ 1000000000 := hl2
  have hyn := groups_ne hy
  have hy0 : 0 < (dig y.natAbs).length := List.length_pos_iff.2 hyn
  have hrle : Hid (val (dig (val (dig x.natAbs) % val (dig y.natAbs))) ≤ val (dig y.natAbs)) := by unfold Hid;simp only [val_dig];exact Nat.le_of_lt (Nat.mod_lt _ hyp)
  have hrl2 : Hid ((dig (val (dig x.natAbs) % val (dig y.natAbs))).length ≤ (dig y.natAbs).length) := by unfold Hid;have := dig_length_mono hrle.out;simpa only [val_dig] using this
  have hrl : Hid ((dig (val (dig x.natAbs) % val (dig y.natAbs))).length ≤ 1000000000) := by have := hrl2.out;unfold Hid;omega
  have hql : Hid ((dig (val (dig x.natAbs) / val (dig y.natAbs))).length ≤ 1000000000) := by unfold Hid;simp only [val_dig];exact Nat.le_trans (dig_length_mono (Nat.div_le_self _ _)) hlx
  have hr00 : (dig (val (dig x.natAbs) % val (dig y.natAbs))).length = 0 := by simp only [val_dig];rw [hr,dig_zero];rfl
  have hr1 : decide (0 < (dig (val (dig x.natAbs) % val (dig y.natAbs))).length) = false := by simp only [hr00];rfl
  have hr2 : decide ((0 : Int) < ((dig (val (dig x.natAbs) % val (dig y.natAbs))).length : Int)) = false := by simp only [hr00];rfl
  clear hr00
  have hbd2 : (!b == d) = true := by rw [← hbd];cases b <;> cases d <;> rfl
  clear hy hr hx1 hy1 hyp hl hl2
  have hB_0 : Below w.heap.size w w := Below.refl _ _
  go_enter Tryz.func110,Tryz.ntmps110
  go_wp2_with fail
  obtain ⟨hA1,i0,j0,n0,o0⟩ := bx4 w rfl [.bool b,.slice p n c] 28 [.bool d,.slice o m e] 28 [.bool false,.slice none 0 0] 28 [.bool false,.slice none 0 0] 28
  have S0_1 := (AndS.mk (i0.drew).bs2 (j0.drew).bs2)
  have tk1 : True := trivial
  have tk2 : True := trivial
  go_region_held3 (AndS (BS2 w.heap.size (.bool b) (.slice p n c)) (BS2 (w.heap.size + 1) (.bool d) (.slice o m e))) (first | with_reducible exact S0_1 | with_reducible exact HeldK.go (AndS.hk BS2.hk BS2.hk) (by assumption) (by assumption) | (simp;done))
    (first
      | (((have := tk1);clear tk1;have p0 := (hv.below hA1).drew;go_at_call 119;(with_reducible refine (groups_any _ (x) _ p0).mono ?_);rintro e w1 ⟨s1,rfl,hs1,hb1⟩;obtain ⟨p1,c1,rfl,hlp1,hmp1⟩ := hs1.form))
      | (((have := tk2);clear tk2;have hu_1 := ((hu.below hA1).drew.below hb1);have q0 := hu_1;go_at_call 119;(with_reducible refine (groups_any _ (y) _ q0).mono ?_);rintro e w2 ⟨s2,rfl,hs2,hb2⟩;obtain ⟨p2,c2,rfl,hlp2,hmp2⟩ := hs2.form)))
  go_wp2_with fail
  have x0 := (hs1.below hb2)
  have r0 := x0
  have s0 := hs2
  (with_reducible refine (over_any _ _ _ _ _ r0 s0 (dig_canon _) (dig_canon _) hlx hyn).mono ?_)
  rintro e w3 ⟨s3,t3,rfl,hs3,ht3,hb3⟩
  obtain ⟨p3,c3,rfl,hlp3,hmp3⟩ := hs3.form
  obtain ⟨o3,d3,rfl,hlo3,hmo3⟩ := ht3.form
  go_wp2_with fail
  have t0 := ht3
  (with_reducible refine (clone_any _ _ _ t0 (by have := hrl.out;omega)).mono ?_)
  rintro e w4 ⟨s4,rfl,ho4,hb4⟩
  have hs4 := Rd.of_owns ho4
  obtain ⟨p4,c4,rfl,hlp4,hmp4⟩ := hs4.form
  go_wp2_with fail
  have q0_4 := ((((i0.drew.to hb1).to hb2).to hb3).to hb4)
  have q1_4 := ((((j0.drew.to hb1).to hb2).to hb3).to hb4)
  have q3_4 := ((((o0.drew.to hb1).to hb2).to hb3).to hb4)
  have S0_8 := (AndS.mk (q0_4.drew).bs2 (AndS.mk (q1_4.drew).bs2 (BN.of (q3_4.drew))))
  have k0 : HeldC (w.heap.size + 1 + 1) (AndS (BS2 w.heap.size (.bool b) (.slice p n c)) (AndS (BS2 (w.heap.size + 1) (.bool d) (.slice o m e)) (BN (w.heap.size + 1 + 1 + 1)))) := (AndS.hc (BS2.hc (by omega)) (AndS.hc (BS2.hc (by omega)) BN.hc))
  have l0 : HeldC (w.heap.size + 1 + 1 + 1) (AndS (BS2 w.heap.size (.bool b) (.slice p n c)) (AndS (BS2 (w.heap.size + 1) (.bool d) (.slice o m e)) (BN (w.heap.size + 1 + 1 + 1)))) := (AndS.hc (BS2.hc (by omega)) (AndS.hc (BS2.hc (by omega)) BN.hc))
  have tk3 : True := trivial
  have tk4 : True := trivial
  go_region_held3 (AndS (BS2 w.heap.size (.bool b) (.slice p n c)) (AndS (BS2 (w.heap.size + 1) (.bool d) (.slice o m e)) (BN (w.heap.size + 1 + 1 + 1)))) (first | with_reducible exact S0_8 | with_reducible exact HeldK.go (AndS.hk BS2.hk (AndS.hk BS2.hk BN.hk)) (by assumption) (by assumption) | with_reducible exact HeldC.go2 k0 (by assumption) | with_reducible exact HeldC.go2 l0 (by assumption) | (simp;done))
    (first
      | (((have := tk3);clear tk3;have y0 := (hs3.below hb4);have u0 := y0.drew;go_at_call 114;(with_reducible refine (made_any _ _ _ _ u0 (dig_low _)).mono ?_);rintro e w5 ⟨v5,rfl,hi5,hb5⟩;obtain ⟨g5,p5,n5,c5,rfl⟩ := hi5.form))
      | (((have := tk4);clear tk4;have z0 := (hs4.drew.below hb5);have v0 := z0;go_at_call 114;(with_reducible refine (made_any _ _ _ _ v0 (dig_low _)).mono ?_);rintro e w6 ⟨v6,rfl,hi6,hb6⟩;obtain ⟨g6,p6,n6,c6,rfl⟩ := hi6.form;have q2_6 := ((((((n0.drew.to hb1).to hb2).to hb3).to hb4).drew.to hb5).to hb6);obtain ⟨a0,c0,b0,d0⟩ := q2_6.cf2;have q3_6 := ((q3_4.drew.to hb5).to hb6);obtain ⟨e0,g0,f0,h0⟩ := q3_6.cf2)))
  have w0 := (hi5.below hb6)
  have m0 := (Below.tr (Below.tr (Below.tr (Below.tr (Below.tr (Below.tr (Below.tr hB_0 hA1).drew hb1) hb2) hb3) hb4).drew hb5) hb6)
  go_wp2_with fail
  exact bodyPost_ret (v := .tuple #[.agg #[.bool g5,.slice p5 n5 c5],.agg #[.bool g6,.slice p6 n6 c6],.int .i64 0]) (by simp [results,Tryz.results110,go_sem,a0,c0,b0,d0,e0,g0,f0,h0]) rfl ⟨_,_,rfl,divide_out ((w0.sets2 q2_6 rfl rfl (.bool g5) (.slice p5 n5 c5)).sets2 (q3_6.other2 (b := w.heap.size + 1 + 1) (by omega) (.bool g5) (.slice p5 n5 c5)) rfl rfl (.bool g6) (.slice p6 n6 c6)) HX.out.1,divide_out ((hi6.sets2 q2_6 rfl rfl (.bool g5) (.slice p5 n5 c5)).sets2 (q3_6.other2 (b := w.heap.size + 1 + 1) (by omega) (.bool g5) (.slice p5 n5 c5)) rfl rfl (.bool g6) (.slice p6 n6 c6)) HX.out.2,(Below.sets2 (Below.sets2 m0 (b := w.heap.size + 1 + 1) (by omega) (.bool g5) (.slice p5 n5 c5)) (b := w.heap.size + 1 + 1 + 1) (by omega) (.bool g6) (.slice p6 n6 c6))⟩
theorem divide_any (v u : Value) (x y : Int) (w : World) (hv : Raw w v x) (hu : Raw w u y) (hl : isz x ≤ 1000000000) (hl2 : isz y ≤ 1000000000) (hy : y ≠ 0) :
    Calls Tryz.prog 110 #[v,u] w (GDiv (x.fdiv y) (x.fmod y) w) := by
  obtain ⟨b,p,n,c,ev⟩ := hv.form
  obtain ⟨d,o,m,e,eu⟩ := hu.form
  by_cases hr : x.natAbs % y.natAbs = 0
  · cases hbd : (b != d)
    · exact divide_p0 v u x y w hv hu hl hl2 hy hr ev eu hbd
    · exact divide_n0 v u x y w hv hu hl hl2 hy hr ev eu hbd
  · cases hbd : (b != d)
    · exact divide_pp v u x y w hv hu hl hl2 hy hr ev eu hbd
    · exact divide_np v u x y w hv hu hl hl2 hy hr ev eu hbd
end Go.Proofs.YtidfgdchcpmnfaaGreat
