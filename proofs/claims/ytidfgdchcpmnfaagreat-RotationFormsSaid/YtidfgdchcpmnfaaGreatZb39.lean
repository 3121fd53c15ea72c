/-
  Lemmas for the statements about rotations, part 39 of 51.
-/
import Derived.Test.YtidfgdchcpmnfaaGreatZb11
import Derived.Test.YtidfgdchcpmnfaaGreatZb37
import Derived.Test.YtidfgdchcpmnfaaGreatZb38
namespace Go.Proofs.YtidfgdchcpmnfaaGreat
open Go.RowKit
set_option maxRecDepth 100000
set_option maxHeartbeats 8000000
set_option linter.unusedSimpArgs false
set_option linter.unusedVariables false
theorem fdiv_id (x y : Int) {q : Int} (h : q = x.fdiv y) : q = x.fdiv y ∧ x - q * y = x.fmod y := by
  refine ⟨h,?_⟩
  have := Int.fmod_add_mul_fdiv x y
  rw [← h,Int.mul_comm] at this
  omega
theorem isz_fdiv {x : Int} {b : Bool} {k : Nat} (h : isz x ≤ k) (m n : Nat) (hm : m = x.natAbs) : isz (sg b (m / n)) ≤ k := by
  refine Nat.le_trans (isz_mono ?_) h
  rw [sg_abs,hm];exact Nat.div_le_self _ _
theorem bd_flags {g1 g2 : Bool} {x y : Int} {r : Bool} (h1 : g1 = decide (x < 0)) (h2 : g2 = decide (y < 0)) (h : (decide (x < 0) != decide (y < 0)) = r) : (g1 != g2) = r ∧ (!g1 == g2) = r := by
  subst h1;subst h2
  refine ⟨h,?_⟩
  rw [← h];cases decide (x < 0) <;> cases decide (y < 0) <;> rfl
theorem rdivide_same (v u : Value) (x y : Int) (w : World) (hv : Raw w v x) (hu : Raw w u y) (hl : isz x ≤ 400000000) (hl2 : isz y ≤ 400000000) (hy : y ≠ 0) (hfl : (decide (x < 0) != decide (y < 0)) = false) :
    Calls Tryz.prog 113 #[v,u] w (GDiv (x.fdiv y) (x.fmod y) w) := by
  obtain ⟨b,p,n,c,rfl⟩ := hv.form
  obtain ⟨d,o,m,e,rfl⟩ := hu.form
  have hfi := field_Int_1
  have hx1 := sg_flag x
  have hy1 := sg_flag y
  have hyp : 0 < y.natAbs := by omega
  obtain ⟨Q,hQ⟩ : ∃ Q,sg false (val (dig (val (dig x.natAbs) / val (dig y.natAbs)))) = Q := ⟨_,rfl⟩
  have HQ := Lib.hid hQ
  simp only [val_dig] at hQ
  have hqf : Q = x.fdiv y := by
    have hfe : decide (x < 0) = decide (y < 0) := by simpa using hfl
    have e1 := fdiv_same (decide (x < 0)) x.natAbs y.natAbs hyp
    rw [hfe] at e1 hx1
    rw [hx1,hy1] at e1
    rw [e1.1,← hQ]
    simp [sg]
  have HX := Lib.hid (fdiv_id x y hqf)
  have hq0 : isz Q ≤ 400000000 := by rw [← hQ];exact isz_fdiv hl _ _ rfl
  have hone : isz 1 ≤ 1000000000 := Nat.le_trans (isz_le (k := 1) (by rw [BB_eq];decide)) (by omega)
  have hq1 : isz Q ≤ 1000000000 := by omega
  have hq4 : isz Q ≤ 400000002 := by omega
  have hq2 : isz Q ≤ 1000000000 := by omega
  have hq3 : isz (Q * y) ≤ 1000000000 := by have := isz_mul Q y;omega
  have hl0 : isz x ≤ 1000000000 := by omega
  have hl20 : isz y ≤ 1000000000 := by omega
  have hlx : (dig x.natAbs).length ≤ 1000000000 := hl0
  have hyn := groups_ne hy
  have hy0 : 0 < (dig y.natAbs).length := List.length_pos_iff.2 hyn
  have hyz : (((dig y.natAbs).length : Int) == 0) = false := by simp;omega
  have hlq : Hid ((dig (val (dig x.natAbs) / val (dig y.natAbs))).length ≤ 2000000001) := by unfold Hid;simp only [val_dig];exact Nat.le_trans (dig_length_mono (Nat.div_le_self _ _)) (by omega)
  skip
  skip
  skip
  skip
  skip
  have HFL := Lib.hid hfl
  clear hQ hqf hx1 hy1 hyp hy hfl
  have hB_0 : Below w.heap.size w w := Below.refl _ _
  go_enter Tryz.func113,Tryz.ntmps113
  go_wp2_with fail
  obtain ⟨hA1,u0,v0,a1,b1⟩ := bx4 w rfl [.bool b,.slice p n c] 28 [.bool d,.slice o m e] 28 [.bool false,.slice none 0 0] 28 [.bool false,.slice none 0 0] 28
  obtain ⟨u1,i2,b2,k2⟩ := u0.drew.cf2
  obtain ⟨m2,a3,t2,e3⟩ := v0.drew.cf2
  have tk1 : True := trivial
  have tk2 : True := trivial
  go_region_with
    (first
      | (((have := tk1);clear tk1;have f1 := (hv.below hA1).drew;go_at_call 120;(with_reducible refine (rvalue_r _ (x) _ f1 hl0).mono ?_);rintro e w1 ⟨v1,rfl,hi1,hb1⟩;obtain ⟨g1,p1,n1,c1,rfl⟩ := hi1.form;obtain rfl : n1 = (dig x.natAbs).length := hi1.len;have hf1 := Lib.hid (RInt.flag hi1);have q1_1 := (v0.drew.to hb1);obtain ⟨o2,b3,u2,f3⟩ := q1_1.cf2;have q0_1 := (u0.drew.to hb1);obtain ⟨x1,j2,d2,l2⟩ := q0_1.cf2))
      | (((have := tk2);clear tk2;have hu_1 := ((hu.below hA1).drew.below hb1);have h1 := hu_1;go_at_call 120;(with_reducible refine (rvalue_r _ (y) _ h1 hl20).mono ?_);rintro e w2 ⟨v2,rfl,hi2,hb2⟩;obtain ⟨g2,p2,n2,c2,rfl⟩ := hi2.form;obtain rfl : n2 = (dig y.natAbs).length := hi2.len;have hf2 := Lib.hid (RInt.flag hi2);obtain ⟨hbd,hbd2⟩ := bd_flags hf1.out hf2.out HFL.out;have q0_2 := (q0_1.to hb2);obtain ⟨a0,c0,b0,d0⟩ := q0_2.cf2;have q1_2 := (q1_1.to hb2);obtain ⟨e0,g0,f0,h0⟩ := q1_2.cf2)))
  all_goals
    obtain ⟨q2,x2⟩ := ((q1_2.other2 (b := w.heap.size) (by omega) (.bool g1) (.slice p1 (dig x.natAbs).length c1)).store2 (.bool g2) (.slice p2 (dig y.natAbs).length c2)).cs2
    obtain ⟨y1,e2⟩ := ((q0_2.store2 (.bool g1) (.slice p1 (dig x.natAbs).length c1)).other2 (b := w.heap.size + 1) (by omega) (.bool g2) (.slice p2 (dig y.natAbs).length c2)).cs2
    go_wp2_with fail
    have w0 := (hi1.below hb2)
    have i1 := ((w0.sets2 q0_2 rfl rfl (.bool g1) (.slice p1 (dig x.natAbs).length c1)).sets2 (q1_2.other2 (b := w.heap.size) (by omega) (.bool g1) (.slice p1 (dig x.natAbs).length c1)) rfl rfl (.bool g2) (.slice p2 (dig y.natAbs).length c2)).rd
    have j1 := ((hi2.sets2 q0_2 rfl rfl (.bool g1) (.slice p1 (dig x.natAbs).length c1)).sets2 (q1_2.other2 (b := w.heap.size) (by omega) (.bool g1) (.slice p1 (dig x.natAbs).length c1)) rfl rfl (.bool g2) (.slice p2 (dig y.natAbs).length c2)).rd
    (with_reducible refine (rparts_any _ _ _ _ _ i1 j1 (dig_canon _) (dig_canon _) hlx hyn).mono ?_)
    rintro e w3 ⟨s3,t3,rfl,hs3,ht3,hb3⟩
    obtain ⟨p3,c3,rfl,hlp3,hmp3⟩ := hs3.form
    obtain ⟨o3,d3,rfl,hlo3,hmo3⟩ := ht3.form
    have q0_3 := (((q0_2.store2 (.bool g1) (.slice p1 (dig x.natAbs).length c1)).other2 (b := w.heap.size + 1) (by omega) (.bool g2) (.slice p2 (dig y.natAbs).length c2)).to hb3)
    obtain ⟨z1,f2⟩ := q0_3.cs2
    have q1_3 := (((q1_2.other2 (b := w.heap.size) (by omega) (.bool g1) (.slice p1 (dig x.natAbs).length c1)).store2 (.bool g2) (.slice p2 (dig y.natAbs).length c2)).to hb3)
    obtain ⟨r2,y2⟩ := q1_3.cs2
    go_wp2_with fail
    have k1 := hs3
    (with_reducible refine (rmade_any _ _ _ _ k1 (dig_low _) hlq.out).mono ?_)
    rw [HQ.out]
    rintro e w4 ⟨v4,rfl,hi4,hb4⟩
    obtain ⟨g4,p4,n4,c4,rfl⟩ := hi4.form
    have q0_4 := (q0_3.to hb4)
    obtain ⟨a2,h2⟩ := q0_4.cs2
    have q1_4 := (q1_3.to hb4)
    obtain ⟨s2,z2⟩ := q1_4.cs2
    have q0 := (q0_4).1
    have r0 := (q1_4).1
    have q2_4 := ((((((a1.drew.to hb1).to hb2).other2 (b := w.heap.size) (by omega) (.bool g1) (.slice p1 (dig x.natAbs).length c1)).other2 (b := w.heap.size + 1) (by omega) (.bool g2) (.slice p2 (dig y.natAbs).length c2)).to hb3).to hb4)
    have s0 := (q2_4).1
    have q3_4 := ((((((b1.drew.to hb1).to hb2).other2 (b := w.heap.size) (by omega) (.bool g1) (.slice p1 (dig x.natAbs).length c1)).other2 (b := w.heap.size + 1) (by omega) (.bool g2) (.slice p2 (dig y.natAbs).length c2)).to hb3).to hb4)
    have t0 := (q3_4).1
    go_wp2_with fail
    obtain ⟨hA2,d1⟩ := bx1 w4 rfl [.bool g4,.slice p4 n4 c4] 28
    have S0_8 := (AndS.mk (d1.drew).bs2 (AndS.mk ((q0_4.to hA2).drew).bs2 ((q1_4.to hA2).drew).bs2))
    have x0 : HeldC (w.heap.size + 1 + 1) (AndS (BS2 w4.heap.size (.bool g4) (.slice p4 n4 c4)) (AndS (BS2 w.heap.size (.bool g1) (.slice p1 (dig x.natAbs).length c1)) (BS2 (w.heap.size + 1) (.bool g2) (.slice p2 (dig y.natAbs).length c2)))) := (AndS.hc (BS2.hc (by omega)) (AndS.hc (BS2.hc (by omega)) (BS2.hc (by omega))))
    have y0 : HeldC (w.heap.size + 1 + 1 + 1) (AndS (BS2 w4.heap.size (.bool g4) (.slice p4 n4 c4)) (AndS (BS2 w.heap.size (.bool g1) (.slice p1 (dig x.natAbs).length c1)) (BS2 (w.heap.size + 1) (.bool g2) (.slice p2 (dig y.natAbs).length c2)))) := (AndS.hc (BS2.hc (by omega)) (AndS.hc (BS2.hc (by omega)) (BS2.hc (by omega))))
    have tk3 : True := trivial
    have tk4 : True := trivial
    go_region_held3 (AndS (BS2 w4.heap.size (.bool g4) (.slice p4 n4 c4)) (AndS (BS2 w.heap.size (.bool g1) (.slice p1 (dig x.natAbs).length c1)) (BS2 (w.heap.size + 1) (.bool g2) (.slice p2 (dig y.natAbs).length c2)))) (first | with_reducible exact S0_8 | with_reducible exact HeldK.go (AndS.hk BS2.hk (AndS.hk BS2.hk BS2.hk)) (by assumption) (by assumption) | with_reducible exact HeldC.go2 x0 (by assumption) | with_reducible exact HeldC.go2 y0 (by assumption) | (simp;done))
      (first
        | (((have := tk3);clear tk3;have l1 := (hi4.below hA2).drew.raw;have s1 := ((((hi2.sets2 q0_2 rfl rfl (.bool g1) (.slice p1 (dig x.natAbs).length c1)).sets2 (q1_2.other2 (b := w.heap.size) (by omega) (.bool g1) (.slice p1 (dig x.natAbs).length c1)) rfl rfl (.bool g2) (.slice p2 (dig y.natAbs).length c2)).below hb3).below hb4);have m1 := (s1.below hA2).drew.raw;go_at_call 88;(with_reducible refine (rmul_any _ _ (Q) (y) _ l1 m1 hq2 hl20).mono ?_);rintro e w5 ⟨v5,rfl,hi5,hb5⟩;obtain ⟨g5,p5,n5,c5,rfl⟩ := hi5.form))
        | (((have := tk4);clear tk4;have r1 := ((((((w0.sets2 q0_2 rfl rfl (.bool g1) (.slice p1 (dig x.natAbs).length c1)).sets2 (q1_2.other2 (b := w.heap.size) (by omega) (.bool g1) (.slice p1 (dig x.natAbs).length c1)) rfl rfl (.bool g2) (.slice p2 (dig y.natAbs).length c2)).below hb3).below hb4).below hA2).drew.below hb5);have o1 := r1.raw;have q1 := hi5.raw;go_at_call 156;(with_reducible refine (rsub_any _ _ (x) ((Q) * (y)) _ o1 q1 hl0 hq3).mono ?_);rintro e w6 ⟨v6,rfl,hi6,hb6⟩;obtain ⟨g6,p6,n6,c6,rfl⟩ := hi6.form;have q2_6 := (((q2_4.to hA2).drew.to hb5).to hb6);obtain ⟨i0,k0,j0,l0⟩ := q2_6.cf2;have q3_6 := (((q3_4.to hA2).drew.to hb5).to hb6);obtain ⟨m0,o0,n0,p0⟩ := q3_6.cf2)))
    have t1 := (((hi4.below hA2).drew.below hb5).below hb6)
    have z0 := (Below.tr (Below.tr (Below.tr (Below.tr (Below.tr (Below.sets2 (Below.sets2 (Below.tr (Below.tr (Below.tr hB_0 hA1).drew hb1) hb2) (b := w.heap.size) (by omega) (.bool g1) (.slice p1 (dig x.natAbs).length c1)) (b := w.heap.size + 1) (by omega) (.bool g2) (.slice p2 (dig y.natAbs).length c2)) hb3) hb4) hA2).drew hb5) hb6)
    go_wp2_with fail
    exact bodyPost_ret (v := .tuple #[.agg #[.bool g4,.slice p4 n4 c4],.agg #[.bool g6,.slice p6 n6 c6],.int .i64 0]) (by simp [results,Tryz.results113,go_sem,a0,c0,b0,d0,e0,g0,f0,h0,q0,r0,s0,t0,i0,k0,j0,l0,m0,o0,n0,p0]) rfl ⟨_,_,rfl,divide_out ((t1.sets2 q2_6 rfl rfl (.bool g4) (.slice p4 n4 c4)).sets2 (q3_6.other2 (b := w.heap.size + 1 + 1) (by omega) (.bool g4) (.slice p4 n4 c4)) rfl rfl (.bool g6) (.slice p6 n6 c6)) HX.out.1,divide_out ((hi6.sets2 q2_6 rfl rfl (.bool g4) (.slice p4 n4 c4)).sets2 (q3_6.other2 (b := w.heap.size + 1 + 1) (by omega) (.bool g4) (.slice p4 n4 c4)) rfl rfl (.bool g6) (.slice p6 n6 c6)) HX.out.2,(Below.sets2 (Below.sets2 z0 (b := w.heap.size + 1 + 1) (by omega) (.bool g4) (.slice p4 n4 c4)) (b := w.heap.size + 1 + 1 + 1) (by omega) (.bool g6) (.slice p6 n6 c6))⟩
theorem rdivide_exact (v u : Value) (x y : Int) (w : World) (hv : Raw w v x) (hu : Raw w u y) (hl : isz x ≤ 400000000) (hl2 : isz y ≤ 400000000) (hy : y ≠ 0) (hr : x.natAbs % y.natAbs = 0) (hfl : (decide (x < 0) != decide (y < 0)) = true) :
    Calls Tryz.prog 113 #[v,u] w (GDiv (x.fdiv y) (x.fmod y) w) := by
  obtain ⟨b,p,n,c,rfl⟩ := hv.form
  obtain ⟨d,o,m,e,rfl⟩ := hu.form
  have hfi := field_Int_1
  have hx1 := sg_flag x
  have hy1 := sg_flag y
  have hyp : 0 < y.natAbs := by omega
  obtain ⟨Q,hQ⟩ : ∃ Q,sg true (val (dig (val (dig x.natAbs) / val (dig y.natAbs)))) = Q := ⟨_,rfl⟩
  have HQ := Lib.hid hQ
  simp only [val_dig] at hQ
  have hqf : Q = x.fdiv y := by
    have e1 := fdiv_exact (decide (x < 0)) (decide (y < 0)) _ _ hyp hfl hr
    skip
    skip
    rw [hx1,hy1] at e1
    rw [e1.1,← hQ]
    skip
  have HX := Lib.hid (fdiv_id x y hqf)
  have hq0 : isz Q ≤ 400000000 := by rw [← hQ];exact isz_fdiv hl _ _ rfl
  have hone : isz 1 ≤ 1000000000 := Nat.le_trans (isz_le (k := 1) (by rw [BB_eq];decide)) (by omega)
  have hq1 : isz Q ≤ 1000000000 := by omega
  have hq4 : isz Q ≤ 400000002 := by omega
  have hq2 : isz Q ≤ 1000000000 := by omega
  have hq3 : isz (Q * y) ≤ 1000000000 := by have := isz_mul Q y;omega
  have hl0 : isz x ≤ 1000000000 := by omega
  have hl20 : isz y ≤ 1000000000 := by omega
  have hlx : (dig x.natAbs).length ≤ 1000000000 := hl0
  have hyn := groups_ne hy
  have hy0 : 0 < (dig y.natAbs).length := List.length_pos_iff.2 hyn
  have hyz : (((dig y.natAbs).length : Int) == 0) = false := by simp;omega
  have hlq : Hid ((dig (val (dig x.natAbs) / val (dig y.natAbs))).length ≤ 2000000001) := by unfold Hid;simp only [val_dig];exact Nat.le_trans (dig_length_mono (Nat.div_le_self _ _)) (by omega)
  skip
  have hr00 : (dig (val (dig x.natAbs) % val (dig y.natAbs))).length = 0 := by simp only [val_dig];rw [hr,dig_zero];rfl
  have hr1 : decide (0 < (dig (val (dig x.natAbs) % val (dig y.natAbs))).length) = false := by simp only [hr00];rfl
  have hr2 : decide ((0 : Int) < ((dig (val (dig x.natAbs) % val (dig y.natAbs))).length : Int)) = false := by simp only [hr00];rfl
  clear hr00
  have HFL := Lib.hid hfl
  clear hQ hqf hx1 hy1 hyp hy hfl hr
  have hB_0 : Below w.heap.size w w := Below.refl _ _
  go_enter Tryz.func113,Tryz.ntmps113
  go_wp2_with fail
  obtain ⟨hA1,u0,v0,a1,b1⟩ := bx4 w rfl [.bool b,.slice p n c] 28 [.bool d,.slice o m e] 28 [.bool false,.slice none 0 0] 28 [.bool false,.slice none 0 0] 28
  obtain ⟨u1,i2,b2,k2⟩ := u0.drew.cf2
  obtain ⟨m2,a3,t2,e3⟩ := v0.drew.cf2
  have tk1 : True := trivial
  have tk2 : True := trivial
  go_region_with
    (first
      | (((have := tk1);clear tk1;have f1 := (hv.below hA1).drew;go_at_call 120;(with_reducible refine (rvalue_r _ (x) _ f1 hl0).mono ?_);rintro e w1 ⟨v1,rfl,hi1,hb1⟩;obtain ⟨g1,p1,n1,c1,rfl⟩ := hi1.form;obtain rfl : n1 = (dig x.natAbs).length := hi1.len;have hf1 := Lib.hid (RInt.flag hi1);have q1_1 := (v0.drew.to hb1);obtain ⟨o2,b3,u2,f3⟩ := q1_1.cf2;have q0_1 := (u0.drew.to hb1);obtain ⟨x1,j2,d2,l2⟩ := q0_1.cf2))
      | (((have := tk2);clear tk2;have hu_1 := ((hu.below hA1).drew.below hb1);have h1 := hu_1;go_at_call 120;(with_reducible refine (rvalue_r _ (y) _ h1 hl20).mono ?_);rintro e w2 ⟨v2,rfl,hi2,hb2⟩;obtain ⟨g2,p2,n2,c2,rfl⟩ := hi2.form;obtain rfl : n2 = (dig y.natAbs).length := hi2.len;have hf2 := Lib.hid (RInt.flag hi2);obtain ⟨hbd,hbd2⟩ := bd_flags hf1.out hf2.out HFL.out;have q0_2 := (q0_1.to hb2);obtain ⟨a0,c0,b0,d0⟩ := q0_2.cf2;have q1_2 := (q1_1.to hb2);obtain ⟨e0,g0,f0,h0⟩ := q1_2.cf2)))
  all_goals
    obtain ⟨q2,x2⟩ := ((q1_2.other2 (b := w.heap.size) (by omega) (.bool g1) (.slice p1 (dig x.natAbs).length c1)).store2 (.bool g2) (.slice p2 (dig y.natAbs).length c2)).cs2
    obtain ⟨y1,e2⟩ := ((q0_2.store2 (.bool g1) (.slice p1 (dig x.natAbs).length c1)).other2 (b := w.heap.size + 1) (by omega) (.bool g2) (.slice p2 (dig y.natAbs).length c2)).cs2
    go_wp2_with fail
    have w0 := (hi1.below hb2)
    have i1 := ((w0.sets2 q0_2 rfl rfl (.bool g1) (.slice p1 (dig x.natAbs).length c1)).sets2 (q1_2.other2 (b := w.heap.size) (by omega) (.bool g1) (.slice p1 (dig x.natAbs).length c1)) rfl rfl (.bool g2) (.slice p2 (dig y.natAbs).length c2)).rd
    have j1 := ((hi2.sets2 q0_2 rfl rfl (.bool g1) (.slice p1 (dig x.natAbs).length c1)).sets2 (q1_2.other2 (b := w.heap.size) (by omega) (.bool g1) (.slice p1 (dig x.natAbs).length c1)) rfl rfl (.bool g2) (.slice p2 (dig y.natAbs).length c2)).rd
    (with_reducible refine (rparts_any _ _ _ _ _ i1 j1 (dig_canon _) (dig_canon _) hlx hyn).mono ?_)
    rintro e w3 ⟨s3,t3,rfl,hs3,ht3,hb3⟩
    obtain ⟨p3,c3,rfl,hlp3,hmp3⟩ := hs3.form
    obtain ⟨o3,d3,rfl,hlo3,hmo3⟩ := ht3.form
    have q0_3 := (((q0_2.store2 (.bool g1) (.slice p1 (dig x.natAbs).length c1)).other2 (b := w.heap.size + 1) (by omega) (.bool g2) (.slice p2 (dig y.natAbs).length c2)).to hb3)
    obtain ⟨z1,f2⟩ := q0_3.cs2
    have q1_3 := (((q1_2.other2 (b := w.heap.size) (by omega) (.bool g1) (.slice p1 (dig x.natAbs).length c1)).store2 (.bool g2) (.slice p2 (dig y.natAbs).length c2)).to hb3)
    obtain ⟨r2,y2⟩ := q1_3.cs2
    go_wp2_with fail
    have k1 := hs3
    (with_reducible refine (rmade_any _ _ _ _ k1 (dig_low _) hlq.out).mono ?_)
    rw [HQ.out]
    rintro e w4 ⟨v4,rfl,hi4,hb4⟩
    obtain ⟨g4,p4,n4,c4,rfl⟩ := hi4.form
    have q0_4 := (q0_3.to hb4)
    obtain ⟨a2,h2⟩ := q0_4.cs2
    have q1_4 := (q1_3.to hb4)
    obtain ⟨s2,z2⟩ := q1_4.cs2
    have q0 := (q0_4).1
    have r0 := (q1_4).1
    have q2_4 := ((((((a1.drew.to hb1).to hb2).other2 (b := w.heap.size) (by omega) (.bool g1) (.slice p1 (dig x.natAbs).length c1)).other2 (b := w.heap.size + 1) (by omega) (.bool g2) (.slice p2 (dig y.natAbs).length c2)).to hb3).to hb4)
    have s0 := (q2_4).1
    have q3_4 := ((((((b1.drew.to hb1).to hb2).other2 (b := w.heap.size) (by omega) (.bool g1) (.slice p1 (dig x.natAbs).length c1)).other2 (b := w.heap.size + 1) (by omega) (.bool g2) (.slice p2 (dig y.natAbs).length c2)).to hb3).to hb4)
    have t0 := (q3_4).1
    go_wp2_with fail
    obtain ⟨hA2,d1⟩ := bx1 w4 rfl [.bool g4,.slice p4 n4 c4] 28
    have S0_8 := (AndS.mk (d1.drew).bs2 (AndS.mk ((q0_4.to hA2).drew).bs2 ((q1_4.to hA2).drew).bs2))
    have x0 : HeldC (w.heap.size + 1 + 1) (AndS (BS2 w4.heap.size (.bool g4) (.slice p4 n4 c4)) (AndS (BS2 w.heap.size (.bool g1) (.slice p1 (dig x.natAbs).length c1)) (BS2 (w.heap.size + 1) (.bool g2) (.slice p2 (dig y.natAbs).length c2)))) := (AndS.hc (BS2.hc (by omega)) (AndS.hc (BS2.hc (by omega)) (BS2.hc (by omega))))
    have y0 : HeldC (w.heap.size + 1 + 1 + 1) (AndS (BS2 w4.heap.size (.bool g4) (.slice p4 n4 c4)) (AndS (BS2 w.heap.size (.bool g1) (.slice p1 (dig x.natAbs).length c1)) (BS2 (w.heap.size + 1) (.bool g2) (.slice p2 (dig y.natAbs).length c2)))) := (AndS.hc (BS2.hc (by omega)) (AndS.hc (BS2.hc (by omega)) (BS2.hc (by omega))))
    have tk3 : True := trivial
    have tk4 : True := trivial
    go_region_held3 (AndS (BS2 w4.heap.size (.bool g4) (.slice p4 n4 c4)) (AndS (BS2 w.heap.size (.bool g1) (.slice p1 (dig x.natAbs).length c1)) (BS2 (w.heap.size + 1) (.bool g2) (.slice p2 (dig y.natAbs).length c2)))) (first | with_reducible exact S0_8 | with_reducible exact HeldK.go (AndS.hk BS2.hk (AndS.hk BS2.hk BS2.hk)) (by assumption) (by assumption) | with_reducible exact HeldC.go2 x0 (by assumption) | with_reducible exact HeldC.go2 y0 (by assumption) | (simp;done))
      (first
        | (((have := tk3);clear tk3;have l1 := (hi4.below hA2).drew.raw;have s1 := ((((hi2.sets2 q0_2 rfl rfl (.bool g1) (.slice p1 (dig x.natAbs).length c1)).sets2 (q1_2.other2 (b := w.heap.size) (by omega) (.bool g1) (.slice p1 (dig x.natAbs).length c1)) rfl rfl (.bool g2) (.slice p2 (dig y.natAbs).length c2)).below hb3).below hb4);have m1 := (s1.below hA2).drew.raw;go_at_call 88;(with_reducible refine (rmul_any _ _ (Q) (y) _ l1 m1 hq2 hl20).mono ?_);rintro e w5 ⟨v5,rfl,hi5,hb5⟩;obtain ⟨g5,p5,n5,c5,rfl⟩ := hi5.form))
        | (((have := tk4);clear tk4;have r1 := ((((((w0.sets2 q0_2 rfl rfl (.bool g1) (.slice p1 (dig x.natAbs).length c1)).sets2 (q1_2.other2 (b := w.heap.size) (by omega) (.bool g1) (.slice p1 (dig x.natAbs).length c1)) rfl rfl (.bool g2) (.slice p2 (dig y.natAbs).length c2)).below hb3).below hb4).below hA2).drew.below hb5);have o1 := r1.raw;have q1 := hi5.raw;go_at_call 156;(with_reducible refine (rsub_any _ _ (x) ((Q) * (y)) _ o1 q1 hl0 hq3).mono ?_);rintro e w6 ⟨v6,rfl,hi6,hb6⟩;obtain ⟨g6,p6,n6,c6,rfl⟩ := hi6.form;have q2_6 := (((q2_4.to hA2).drew.to hb5).to hb6);obtain ⟨i0,k0,j0,l0⟩ := q2_6.cf2;have q3_6 := (((q3_4.to hA2).drew.to hb5).to hb6);obtain ⟨m0,o0,n0,p0⟩ := q3_6.cf2)))
    have t1 := (((hi4.below hA2).drew.below hb5).below hb6)
    have z0 := (Below.tr (Below.tr (Below.tr (Below.tr (Below.tr (Below.sets2 (Below.sets2 (Below.tr (Below.tr (Below.tr hB_0 hA1).drew hb1) hb2) (b := w.heap.size) (by omega) (.bool g1) (.slice p1 (dig x.natAbs).length c1)) (b := w.heap.size + 1) (by omega) (.bool g2) (.slice p2 (dig y.natAbs).length c2)) hb3) hb4) hA2).drew hb5) hb6)
    go_wp2_with fail
    exact bodyPost_ret (v := .tuple #[.agg #[.bool g4,.slice p4 n4 c4],.agg #[.bool g6,.slice p6 n6 c6],.int .i64 0]) (by simp [results,Tryz.results113,go_sem,a0,c0,b0,d0,e0,g0,f0,h0,q0,r0,s0,t0,i0,k0,j0,l0,m0,o0,n0,p0]) rfl ⟨_,_,rfl,divide_out ((t1.sets2 q2_6 rfl rfl (.bool g4) (.slice p4 n4 c4)).sets2 (q3_6.other2 (b := w.heap.size + 1 + 1) (by omega) (.bool g4) (.slice p4 n4 c4)) rfl rfl (.bool g6) (.slice p6 n6 c6)) HX.out.1,divide_out ((hi6.sets2 q2_6 rfl rfl (.bool g4) (.slice p4 n4 c4)).sets2 (q3_6.other2 (b := w.heap.size + 1 + 1) (by omega) (.bool g4) (.slice p4 n4 c4)) rfl rfl (.bool g6) (.slice p6 n6 c6)) HX.out.2,(Below.sets2 (Below.sets2 z0 (b := w.heap.size + 1 + 1) (by omega) (.bool g4) (.slice p4 n4 c4)) (b := w.heap.size + 1 + 1 + 1) (by omega) (.bool g6) (.slice p6 n6 c6))⟩
end Go.Proofs.YtidfgdchcpmnfaaGreat
namespace Go.Proofs.YtidfgdchcpmnfaaGreat
open Go.RowKit
set_option maxRecDepth 100000
set_option maxHeartbeats 8000000
set_option linter.unusedSimpArgs false
set_option linter.unusedVariables false
theorem rdivide_rest (v u : Value) (x y : Int) (w : World) (hv : Raw w v x) (hu : Raw w u y) (hl : isz x ≤ 400000000) (hl2 : isz y ≤ 400000000) (hy : y ≠ 0) (hr : x.natAbs % y.natAbs ≠ 0) (hfl : (decide (x < 0) != decide (y < 0)) = true) :
    Calls Tryz.prog 113 #[v,u] w (GDiv (x.fdiv y) (x.fmod y) w) := by
  obtain ⟨b,p,n,c,rfl⟩ := hv.form
  obtain ⟨d,o,m,e,rfl⟩ := hu.form
  have hfi := field_Int_1
  have hx1 := sg_flag x
  have hy1 := sg_flag y
  have hyp : 0 < y.natAbs := by omega
  obtain ⟨Q,hQ⟩ : ∃ Q,sg true (val (dig (val (dig x.natAbs) / val (dig y.natAbs)))) = Q := ⟨_,rfl⟩
  have HQ := Lib.hid hQ
  simp only [val_dig] at hQ
  have hqf : (Q - 1) = x.fdiv y := by
    have e1 := fdiv_rest (decide (x < 0)) (decide (y < 0)) _ _ hyp hfl hr
    skip
    skip
    rw [hx1,hy1] at e1
    rw [e1.1,← hQ]
    simp [sg];omega
  have HX := Lib.hid (fdiv_id x y hqf)
  have hq0 : isz Q ≤ 400000000 := by rw [← hQ];exact isz_fdiv hl _ _ rfl
  have hone : isz 1 ≤ 1000000000 := Nat.le_trans (isz_le (k := 1) (by rw [BB_eq];decide)) (by omega)
  have hq1 : isz Q ≤ 1000000000 := by omega
  have hq4 : isz (Q - 1) ≤ 400000002 := by have h1 := isz_sub Q 1;have h2 : isz 1 ≤ 1 := isz_le (k := 1) (by rw [BB_eq];decide);omega
  have hq2 : isz (Q - 1) ≤ 1000000000 := by omega
  have hq3 : isz ((Q - 1) * y) ≤ 1000000000 := by have := isz_mul (Q - 1) y;omega
  have hl0 : isz x ≤ 1000000000 := by omega
  have hl20 : isz y ≤ 1000000000 := by omega
  have hlx : (dig x.natAbs).length ≤ 1000000000 := hl0
  have hyn := groups_ne hy
  have hy0 : 0 < (dig y.natAbs).length := List.length_pos_iff.2 hyn
  have hyz : (((dig y.natAbs).length : Int) == 0) = false := by simp;omega
  have hlq : Hid ((dig (val (dig x.natAbs) / val (dig y.natAbs))).length ≤ 2000000001) := by unfold Hid;simp only [val_dig];exact Nat.le_trans (dig_length_mono (Nat.div_le_self _ _)) (by omega)
  have hr0 : 0 < (dig (val (dig x.natAbs) % val (dig y.natAbs))).length := by simp only [val_dig];exact List.length_pos_iff.2 (fun e => hr (dig_eq_nil.1 e))
  skip
  skip
  skip
  skip
  have HFL := Lib.hid hfl
  clear hQ hqf hx1 hy1 hyp hy hfl hr
  have hB_0 : Below w.heap.size w w := Below.refl _ _
  go_enter Tryz.func113,Tryz.ntmps113
  go_wp2_with fail
  obtain ⟨hA1,z0,a1,x1,y1⟩ := bx4 w rfl [.bool b,.slice p n c] 28 [.bool d,.slice o m e] 28 [.bool false,.slice none 0 0] 28 [.bool false,.slice none 0 0] 28
  obtain ⟨t2,h3,a3,j3⟩ := z0.drew.cf2
  obtain ⟨l3,a4,u3,d4⟩ := a1.drew.cf2
  have tk1 : True := trivial
  have tk2 : True := trivial
  go_region_with
    (first
      | (((have := tk1);clear tk1;have z1 := (hv.below hA1).drew;go_at_call 120;(with_reducible refine (rvalue_r _ (x) _ z1 hl0).mono ?_);rintro e w1 ⟨v1,rfl,hi1,hb1⟩;obtain ⟨g1,p1,n1,c1,rfl⟩ := hi1.form;obtain rfl : n1 = (dig x.natAbs).length := hi1.len;have hf1 := Lib.hid (RInt.flag hi1);have q1_1 := (a1.drew.to hb1);obtain ⟨m3,b4,v3,e4⟩ := q1_1.cf2;have q0_1 := (z0.drew.to hb1);obtain ⟨u2,i3,b3,k3⟩ := q0_1.cf2))
      | (((have := tk2);clear tk2;have hu_1 := ((hu.below hA1).drew.below hb1);have a2 := hu_1;go_at_call 120;(with_reducible refine (rvalue_r _ (y) _ a2 hl20).mono ?_);rintro e w2 ⟨v2,rfl,hi2,hb2⟩;obtain ⟨g2,p2,n2,c2,rfl⟩ := hi2.form;obtain rfl : n2 = (dig y.natAbs).length := hi2.len;have hf2 := Lib.hid (RInt.flag hi2);obtain ⟨hbd,hbd2⟩ := bd_flags hf1.out hf2.out HFL.out;have q0_2 := (q0_1.to hb2);obtain ⟨f0,h0,g0,i0⟩ := q0_2.cf2;have q1_2 := (q1_1.to hb2);obtain ⟨j0,l0,k0,m0⟩ := q1_2.cf2)))
  all_goals
    obtain ⟨n3,x3⟩ := ((q1_2.other2 (b := w.heap.size) (by omega) (.bool g1) (.slice p1 (dig x.natAbs).length c1)).store2 (.bool g2) (.slice p2 (dig y.natAbs).length c2)).cs2
    obtain ⟨x2,e3⟩ := ((q0_2.store2 (.bool g1) (.slice p1 (dig x.natAbs).length c1)).other2 (b := w.heap.size + 1) (by omega) (.bool g2) (.slice p2 (dig y.natAbs).length c2)).cs2
    go_wp2_with fail
    have d1 := (hi1.below hb2)
    have b2 := ((d1.sets2 q0_2 rfl rfl (.bool g1) (.slice p1 (dig x.natAbs).length c1)).sets2 (q1_2.other2 (b := w.heap.size) (by omega) (.bool g1) (.slice p1 (dig x.natAbs).length c1)) rfl rfl (.bool g2) (.slice p2 (dig y.natAbs).length c2)).rd
    have d2 := ((hi2.sets2 q0_2 rfl rfl (.bool g1) (.slice p1 (dig x.natAbs).length c1)).sets2 (q1_2.other2 (b := w.heap.size) (by omega) (.bool g1) (.slice p1 (dig x.natAbs).length c1)) rfl rfl (.bool g2) (.slice p2 (dig y.natAbs).length c2)).rd
    (with_reducible refine (rparts_any _ _ _ _ _ b2 d2 (dig_canon _) (dig_canon _) hlx hyn).mono ?_)
    rintro e w3 ⟨s3,t3,rfl,hs3,ht3,hb3⟩
    obtain ⟨p3,c3,rfl,hlp3,hmp3⟩ := hs3.form
    obtain ⟨o3,d3,rfl,hlo3,hmo3⟩ := ht3.form
    have q0_3 := (((q0_2.store2 (.bool g1) (.slice p1 (dig x.natAbs).length c1)).other2 (b := w.heap.size + 1) (by omega) (.bool g2) (.slice p2 (dig y.natAbs).length c2)).to hb3)
    obtain ⟨y2,f3⟩ := q0_3.cs2
    have q1_3 := (((q1_2.other2 (b := w.heap.size) (by omega) (.bool g1) (.slice p1 (dig x.natAbs).length c1)).store2 (.bool g2) (.slice p2 (dig y.natAbs).length c2)).to hb3)
    obtain ⟨q3,y3⟩ := q1_3.cs2
    go_wp2_with fail
    have e2 := hs3
    (with_reducible refine (rmade_any _ _ _ _ e2 (dig_low _) hlq.out).mono ?_)
    rw [HQ.out]
    rintro e w4 ⟨v4,rfl,hi4,hb4⟩
    obtain ⟨g4,p4,n4,c4,rfl⟩ := hi4.form
    have q0_4 := (q0_3.to hb4)
    obtain ⟨z2,g3⟩ := q0_4.cs2
    have q1_4 := (q1_3.to hb4)
    obtain ⟨r3,z3⟩ := q1_4.cs2
    have v0 := (q0_4).1
    have w0 := (q1_4).1
    have q2_4 := ((((((x1.drew.to hb1).to hb2).other2 (b := w.heap.size) (by omega) (.bool g1) (.slice p1 (dig x.natAbs).length c1)).other2 (b := w.heap.size + 1) (by omega) (.bool g2) (.slice p2 (dig y.natAbs).length c2)).to hb3).to hb4)
    have x0 := (q2_4).1
    have q3_4 := ((((((y1.drew.to hb1).to hb2).other2 (b := w.heap.size) (by omega) (.bool g1) (.slice p1 (dig x.natAbs).length c1)).other2 (b := w.heap.size + 1) (by omega) (.bool g2) (.slice p2 (dig y.natAbs).length c2)).to hb3).to hb4)
    have y0 := (q3_4).1
    go_wp2_with fail
    obtain ⟨hA2,b1⟩ := bx1 w4 rfl [.bool g4,.slice p4 n4 c4] 28
    obtain ⟨l1,r1,o1,t1⟩ := b1.drew.cf2
    have tk3 : True := trivial
    have tk4 : True := trivial
    go_region_with
      (first
        | (((have := tk3);clear tk3;go_at_call 112;(with_reducible refine (rof_any _ _ (by omega) (by omega)).mono ?_);rintro e w5 ⟨v5,rfl,hi5,hb5⟩;obtain ⟨g5,p5,n5,c5,rfl⟩ := hi5.form;have f1 := (b1.drew.to hb5);obtain ⟨m1,s1,q1,u1⟩ := f1.cf2))
        | (((have := tk4);clear tk4;have r2 := ((hi4.below hA2).drew.below hb5);have f2 := r2.raw;have i2 := hi5.raw;go_at_call 156;(with_reducible refine (rsub_any _ _ (Q) (1) _ f2 i2 hq1 hone).mono ?_);rintro e w6 ⟨v6,rfl,hi6,hb6⟩;obtain ⟨g6,p6,n6,c6,rfl⟩ := hi6.form;have a0 := (f1.to hb6);obtain ⟨b0,d0,c0,e0⟩ := a0.cf2)))
    all_goals
      go_wp2_with fail
      have q0_6 := (((q0_4.to hA2).drew.to hb5).to hb6)
      have q1_6 := (((q1_4.to hA2).drew.to hb5).to hb6)
      have S0_8 := (AndS.mk ((a0.store2 (.bool g6) (.slice p6 n6 c6)).drew).bs2 (AndS.mk ((q0_6.other2 (b := w4.heap.size) (by omega) (.bool g6) (.slice p6 n6 c6)).drew).bs2 ((q1_6.other2 (b := w4.heap.size) (by omega) (.bool g6) (.slice p6 n6 c6)).drew).bs2))
      have i1 : HeldC (w.heap.size + 1 + 1) (AndS (BS2 w4.heap.size (.bool g6) (.slice p6 n6 c6)) (AndS (BS2 w.heap.size (.bool g1) (.slice p1 (dig x.natAbs).length c1)) (BS2 (w.heap.size + 1) (.bool g2) (.slice p2 (dig y.natAbs).length c2)))) := (AndS.hc (BS2.hc (by omega)) (AndS.hc (BS2.hc (by omega)) (BS2.hc (by omega))))
      have j1 : HeldC (w.heap.size + 1 + 1 + 1) (AndS (BS2 w4.heap.size (.bool g6) (.slice p6 n6 c6)) (AndS (BS2 w.heap.size (.bool g1) (.slice p1 (dig x.natAbs).length c1)) (BS2 (w.heap.size + 1) (.bool g2) (.slice p2 (dig y.natAbs).length c2)))) := (AndS.hc (BS2.hc (by omega)) (AndS.hc (BS2.hc (by omega)) (BS2.hc (by omega))))
      have tk5 : True := trivial
      have tk6 : True := trivial
      go_region_held3 (AndS (BS2 w4.heap.size (.bool g6) (.slice p6 n6 c6)) (AndS (BS2 w.heap.size (.bool g1) (.slice p1 (dig x.natAbs).length c1)) (BS2 (w.heap.size + 1) (.bool g2) (.slice p2 (dig y.natAbs).length c2)))) (first | with_reducible exact S0_8 | with_reducible exact HeldK.go (AndS.hk BS2.hk (AndS.hk BS2.hk BS2.hk)) (by assumption) (by assumption) | with_reducible exact HeldC.go2 i1 (by assumption) | with_reducible exact HeldC.go2 j1 (by assumption) | (simp;done))
        (first
          | (((have := tk5);clear tk5;have j2 := (hi6.sets2 a0 rfl rfl (.bool g6) (.slice p6 n6 c6)).drew.raw;have q2 := (((((((hi2.sets2 q0_2 rfl rfl (.bool g1) (.slice p1 (dig x.natAbs).length c1)).sets2 (q1_2.other2 (b := w.heap.size) (by omega) (.bool g1) (.slice p1 (dig x.natAbs).length c1)) rfl rfl (.bool g2) (.slice p2 (dig y.natAbs).length c2)).below hb3).below hb4).below hA2).drew.below hb5).below hb6);have k2 := (q2.sets2 a0 rfl rfl (.bool g6) (.slice p6 n6 c6)).drew.raw;go_at_call 88;(with_reducible refine (rmul_any _ _ ((Q) - (1)) (y) _ j2 k2 hq2 hl20).mono ?_);rintro e w7 ⟨v7,rfl,hi7,hb7⟩;obtain ⟨g7,p7,n7,c7,rfl⟩ := hi7.form))
          | (((have := tk6);clear tk6;have o2 := (((((((((d1.sets2 q0_2 rfl rfl (.bool g1) (.slice p1 (dig x.natAbs).length c1)).sets2 (q1_2.other2 (b := w.heap.size) (by omega) (.bool g1) (.slice p1 (dig x.natAbs).length c1)) rfl rfl (.bool g2) (.slice p2 (dig y.natAbs).length c2)).below hb3).below hb4).below hA2).drew.below hb5).below hb6).sets2 a0 rfl rfl (.bool g6) (.slice p6 n6 c6)).drew.below hb7);have l2 := o2.raw;have m2 := hi7.raw;go_at_call 156;(with_reducible refine (rsub_any _ _ (x) (((Q) - (1)) * (y)) _ l2 m2 hl0 hq3).mono ?_);rintro e w8 ⟨v8,rfl,hi8,hb8⟩;obtain ⟨g8,p8,n8,c8,rfl⟩ := hi8.form;have q2_8 := ((((((q2_4.to hA2).drew.to hb5).to hb6).other2 (b := w4.heap.size) (by omega) (.bool g6) (.slice p6 n6 c6)).drew.to hb7).to hb8);obtain ⟨n0,p0,o0,q0⟩ := q2_8.cf2;have q3_8 := ((((((q3_4.to hA2).drew.to hb5).to hb6).other2 (b := w4.heap.size) (by omega) (.bool g6) (.slice p6 n6 c6)).drew.to hb7).to hb8);obtain ⟨r0,t0,s0,u0⟩ := q3_8.cf2)))
      have s2 := (((hi6.sets2 a0 rfl rfl (.bool g6) (.slice p6 n6 c6)).drew.below hb7).below hb8)
      have k1 := (Below.tr (Below.tr (Below.sets2 (Below.tr (Below.tr (Below.tr (Below.tr (Below.tr (Below.sets2 (Below.sets2 (Below.tr (Below.tr (Below.tr hB_0 hA1).drew hb1) hb2) (b := w.heap.size) (by omega) (.bool g1) (.slice p1 (dig x.natAbs).length c1)) (b := w.heap.size + 1) (by omega) (.bool g2) (.slice p2 (dig y.natAbs).length c2)) hb3) hb4) hA2).drew hb5) hb6) (b := w4.heap.size) (by omega) (.bool g6) (.slice p6 n6 c6)).drew hb7) hb8)
      go_wp2_with fail
      exact bodyPost_ret (v := .tuple #[.agg #[.bool g6,.slice p6 n6 c6],.agg #[.bool g8,.slice p8 n8 c8],.int .i64 0]) (by simp [results,Tryz.results113,go_sem,f0,h0,g0,i0,j0,l0,k0,m0,v0,w0,x0,y0,b0,d0,c0,e0,n0,p0,o0,q0,r0,t0,s0,u0]) rfl ⟨_,_,rfl,divide_out ((s2.sets2 q2_8 rfl rfl (.bool g6) (.slice p6 n6 c6)).sets2 (q3_8.other2 (b := w.heap.size + 1 + 1) (by omega) (.bool g6) (.slice p6 n6 c6)) rfl rfl (.bool g8) (.slice p8 n8 c8)) HX.out.1,divide_out ((hi8.sets2 q2_8 rfl rfl (.bool g6) (.slice p6 n6 c6)).sets2 (q3_8.other2 (b := w.heap.size + 1 + 1) (by omega) (.bool g6) (.slice p6 n6 c6)) rfl rfl (.bool g8) (.slice p8 n8 c8)) HX.out.2,(Below.sets2 (Below.sets2 k1 (b := w.heap.size + 1 + 1) (by omega) (.bool g6) (.slice p6 n6 c6)) (b := w.heap.size + 1 + 1 + 1) (by omega) (.bool g8) (.slice p8 n8 c8))⟩
theorem rdivide_any (v u : Value) (x y : Int) (w : World) (hv : Raw w v x) (hu : Raw w u y) (hl : isz x ≤ 400000000) (hl2 : isz y ≤ 400000000) (hy : y ≠ 0) :
    Calls Tryz.prog 113 #[v,u] w (GDiv (x.fdiv y) (x.fmod y) w) := by
  cases hfl : (decide (x < 0) != decide (y < 0))
  · exact rdivide_same v u x y w hv hu hl hl2 hy hfl
  · by_cases hr : x.natAbs % y.natAbs = 0
    · exact rdivide_exact v u x y w hv hu hl hl2 hy hr hfl
    · exact rdivide_rest v u x y w hv hu hl hl2 hy hr hfl
end Go.Proofs.YtidfgdchcpmnfaaGreat
