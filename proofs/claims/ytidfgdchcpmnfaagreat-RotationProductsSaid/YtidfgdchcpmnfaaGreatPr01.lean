/-
  RotationProducts holds: Mul and Conj return the specified quaternions or codes, and a rotation times its inverse is the identity, for all quaternions. Conditions: none beyond those of the given row.
-/
import Derived.Test.YtidfgdchcpmnfaaGreatZb11
import Derived.Test.YtidfgdchcpmnfaaGreatZb43
import Derived.Test.YtidfgdchcpmnfaaGreatZb48
import Derived.Test.YtidfgdchcpmnfaaGreatZb49
namespace Go.Proofs.YtidfgdchcpmnfaaGreat
open Go.RowKit
set_option maxRecDepth 100000
set_option maxHeartbeats 8000000
set_option linter.unusedSimpArgs false
set_option linter.unusedVariables false
theorem okc_neg {x : Int} (h : okc x) : okc (-x) := by unfold okc at *;omega
theorem prim_one : primV (xs4 1 0 0 0) = .tuple #[.agg #[.int .i64 1,.int .i64 0,.int .i64 0,.int .i64 0],.int .i64 0] := by
  rw [primV_ok (by decide +kernel),show primN (xs4 1 0 0 0) 0 = 1 by decide +kernel,show primN (xs4 1 0 0 0) 1 = 0 by decide +kernel,show primN (xs4 1 0 0 0) 2 = 0 by decide +kernel,show primN (xs4 1 0 0 0) 3 = 0 by decide +kernel];rfl
theorem conj_times {a b c d : Int} (hq : qcode a b c d = 0) : ∃ e f g h : Int,conjV a b c d = .tuple #[.agg #[.int .i64 e,.int .i64 f,.int .i64 g,.int .i64 h],.int .i64 0] ∧ mulV e f g h a b c d = .tuple #[.agg #[.int .i64 1,.int .i64 0,.int .i64 0,.int .i64 0],.int .i64 0] := by
  obtain ⟨hne,oa,ob,oc,od⟩ := qcode_ok hq
  have hq' : qcode a (-b) (-c) (-d) = 0 := by
    unfold qcode
    rw [if_neg (fun h => hne ⟨h.1,by omega,by omega,by omega⟩),if_pos ⟨oa,okc_neg ob,okc_neg oc,okc_neg od⟩]
  have hp := prim_rot hq'
  have hd : ∀ j,j < 4 → xs4 a (-b) (-c) (-d) j = primG (xs4 a (-b) (-c) (-d)) * primN (xs4 a (-b) (-c) (-d)) j := fun j hj => by
    obtain ⟨y,hy⟩ := primG_dvd (xs := xs4 a (-b) (-c) (-d)) hj
    unfold primN
    by_cases hG : primG (xs4 a (-b) (-c) (-d)) = 0
    · rw [hG] at hy ⊢;rw [hy];simp
    · conv => lhs;rw [hy]
      conv => rhs;rw [hy]
      rw [Int.mul_fdiv_cancel_left _ hG]
  refine ⟨primN (xs4 a (-b) (-c) (-d)) 0,primN (xs4 a (-b) (-c) (-d)) 1,primN (xs4 a (-b) (-c) (-d)) 2,primN (xs4 a (-b) (-c) (-d)) 3,?_,?_⟩
  · unfold conjV;rw [if_pos hq,primV_ok hp];rfl
  · have o0 := hp 0 (by omega)
    have o1 := hp 1 (by omega)
    have o2 := hp 2 (by omega)
    have o3 := hp 3 (by omega)
    have d0 := hd 0 (by omega)
    have d1 := hd 1 (by omega)
    have d2 := hd 2 (by omega)
    have d3 := hd 3 (by omega)
    have hG : primG (xs4 a (-b) (-c) (-d)) ≠ 0 := fun e => by
      rw [e] at d0 d1 d2 d3
      simp only [xs4,Int.zero_mul] at d0 d1 d2 d3
      exact hne ⟨d0,by omega,by omega,by omega⟩
    generalize primN (xs4 a (-b) (-c) (-d)) 0 = e at *
    generalize primN (xs4 a (-b) (-c) (-d)) 1 = f at *
    generalize primN (xs4 a (-b) (-c) (-d)) 2 = g at *
    generalize primN (xs4 a (-b) (-c) (-d)) 3 = h at *
    generalize primG (xs4 a (-b) (-c) (-d)) = G at *
    simp only [xs4] at d0 d1 d2 d3
    have hz : ¬ (e = 0 ∧ f = 0 ∧ g = 0 ∧ h = 0) := fun ⟨e0,e1,e2,e3⟩ => by
      rw [e0] at d0;rw [e1] at d1;rw [e2] at d2;rw [e3] at d3
      simp only [Int.mul_zero] at d0 d1 d2 d3
      exact hne ⟨d0,by omega,by omega,by omega⟩
    have hqe : qcode e f g h = 0 := by unfold qcode;rw [if_neg hz,if_pos ⟨o0,o1,o2,o3⟩]
    have hq2 : qcode2 e f g h a b c d = 0 := by unfold qcode2;rw [if_pos hqe];exact hq
    have hN : normI a b c d ≠ 0 := by have := normI_pos hne;omega
    unfold mulV
    rw [if_pos hq2]
    have h1 : primV (qmulX e f g h a b c d) = primV (xs4 (normI a b c d) 0 0 0) := primV_scale (s := G) (t := 1) hG (by omega) (fun j hj => by
      obtain rfl | rfl | rfl | rfl : j = 0 ∨ j = 1 ∨ j = 2 ∨ j = 3 := by omega
      all_goals
        simp only [qmulX,xs4,normI]
        grind)
    have h2 : primV (xs4 1 0 0 0) = primV (xs4 (normI a b c d) 0 0 0) := primV_scale (s := normI a b c d) (t := 1) hN (by omega) (fun j hj => by
      obtain rfl | rfl | rfl | rfl : j = 0 ∨ j = 1 ∨ j = 2 ∨ j = 3 := by omega
      all_goals simp [xs4])
    rw [h1,← h2,prim_one]
theorem mulV_form (a b c d e f g h : Int) : ∃ x y z u v : Int,mulV a b c d e f g h = .tuple #[.agg #[.int .i64 x,.int .i64 y,.int .i64 z,.int .i64 u],.int .i64 v] := by
  unfold mulV
  by_cases hq : qcode2 a b c d e f g h = 0
  · rw [if_pos hq];exact primV_form _
  · rw [if_neg hq];exact ⟨0,0,0,0,_,rfl⟩
theorem prods_ok (a b c d e f g h : Int) (w : World) (hb0 : -9223372036854775808 ≤ b) (hb1 : b ≤ 9223372036854775807) (hc0 : -9223372036854775808 ≤ c) (hc1 : c ≤ 9223372036854775807) (hd0 : -9223372036854775808 ≤ d) (hd1 : d ≤ 9223372036854775807) (hq : qcode a b c d = 0) :
    Calls Tryz.prog 7 #[.agg #[.int .i64 a,.int .i64 b,.int .i64 c,.int .i64 d],.agg #[.int .i64 e,.int .i64 f,.int .i64 g,.int .i64 h]] w (GB true w) := by
  obtain ⟨za,zb,zc,zd,ze,hz⟩ := mulV_form a b c d e f g h
  obtain ⟨ya,yb,yc,yd,hy,hy3⟩ := conj_times hq
  have HM1 : Hid (∀ w : World,Calls Tryz.prog 26 #[.agg #[.int .i64 a,.int .i64 b,.int .i64 c,.int .i64 d],.agg #[.int .i64 e,.int .i64 f,.int .i64 g,.int .i64 h]] w (GV (.tuple #[.agg #[.int .i64 za,.int .i64 zb,.int .i64 zc,.int .i64 zd],.int .i64 ze]) w)) := Lib.hid (fun w => by rw [← hz];exact qmul_any a b c d e f g h w)
  have HM2 : Hid (∀ w : World,Calls Tryz.prog 32 #[.agg #[.int .i64 a,.int .i64 b,.int .i64 c,.int .i64 d],.agg #[.int .i64 e,.int .i64 f,.int .i64 g,.int .i64 h]] w (GV (.tuple #[.agg #[.int .i64 za,.int .i64 zb,.int .i64 zc,.int .i64 zd],.int .i64 ze]) w)) := Lib.hid (fun w => by rw [← hz];exact rqmul_any a b c d e f g h w)
  have HC1 : Hid (∀ w : World,Calls Tryz.prog 33 #[.agg #[.int .i64 a,.int .i64 b,.int .i64 c,.int .i64 d]] w (GV (.tuple #[.agg #[.int .i64 ya,.int .i64 yb,.int .i64 yc,.int .i64 yd],.int .i64 0]) w)) := Lib.hid (fun w => by rw [← hy];exact conj_any a b c d w)
  have HC2 : Hid (∀ w : World,Calls Tryz.prog 34 #[.agg #[.int .i64 a,.int .i64 b,.int .i64 c,.int .i64 d]] w (GV (.tuple #[.agg #[.int .i64 ya,.int .i64 yb,.int .i64 yc,.int .i64 yd],.int .i64 0]) w)) := Lib.hid (fun w => by rw [← hy];exact rconj_any a b c d w hb0 hb1 hc0 hc1 hd0 hd1)
  have HM3 : Hid (∀ w : World,Calls Tryz.prog 26 #[.agg #[.int .i64 ya,.int .i64 yb,.int .i64 yc,.int .i64 yd],.agg #[.int .i64 a,.int .i64 b,.int .i64 c,.int .i64 d]] w (GV (.tuple #[.agg #[.int .i64 1,.int .i64 0,.int .i64 0,.int .i64 0],.int .i64 0]) w)) := Lib.hid (fun w => by rw [← hy3];exact qmul_any ya yb yc yd a b c d w)
  have hqn0 : ∀ w,Sem.run Tryz.prog (binOp .neq 33 (.agg #[.int .i64 za,.int .i64 zb,.int .i64 zc,.int .i64 zd]) (.agg #[.int .i64 za,.int .i64 zb,.int .i64 zc,.int .i64 zd])) w = .ok (.bool false) w := fun w => by simp [go_sem]
  have hqn1 : ∀ w,Sem.run Tryz.prog (binOp .neq 33 (.agg #[.int .i64 ya,.int .i64 yb,.int .i64 yc,.int .i64 yd]) (.agg #[.int .i64 ya,.int .i64 yb,.int .i64 yc,.int .i64 yd])) w = .ok (.bool false) w := fun w => by simp [go_sem]
  have hqe : ∀ w,Sem.run Tryz.prog (binOp .eql 33 (.agg #[.int .i64 1,.int .i64 0,.int .i64 0,.int .i64 0]) (.agg #[.int .i64 1,.int .i64 0,.int .i64 0,.int .i64 0])) w = .ok (.bool true) w := fun w => by simp [go_sem]
  clear hz hy hq hy3
  have hB_0 : Below w.heap.size w w := Below.refl _ _
  go_enter Tryz.func7,Tryz.ntmps7
  go_wp2_with fail
  (with_reducible refine (known_true _).mono ?_)
  rintro e w1 ⟨rfl,hb1⟩
  obtain ⟨hA1,f1,g1⟩ := bx2 w rfl [.int .i64 a,.int .i64 b,.int .i64 c,.int .i64 d] 33 [.int .i64 e,.int .i64 f,.int .i64 g,.int .i64 h] 33
  have q0_1 := (f1.to hb1)
  obtain ⟨l1,u1,e2,n2⟩ := q0_1.cs4
  have q1_1 := (g1.to hb1)
  obtain ⟨x2,a3,d3,g3⟩ := q1_1.cs4
  go_wp2_with fail
  (with_reducible refine (HM1.out _).mono ?_)
  rintro e w2 ⟨rfl,hb2⟩
  have q0_2 := (q0_1.to hb2)
  obtain ⟨m1,v1,f2,o2⟩ := q0_2.cs4
  have q1_2 := (q1_1.to hb2)
  obtain ⟨y2,b3,e3,h3⟩ := q1_2.cs4
  have y3 := (q0_2).1
  have d4 := (q1_2).1
  obtain ⟨hA2,h1⟩ := bx1 w2 rfl [.int .i64 za,.int .i64 zb,.int .i64 zc,.int .i64 zd] 33
  obtain ⟨n1,x1,g2,p2⟩ := (q0_2.to hA2).cs4
  obtain ⟨z2,c3,f3,i3⟩ := (q1_2.to hA2).cs4
  go_wp2_with fail
  (with_reducible refine (HM2.out _).mono ?_)
  rintro e w3 ⟨rfl,hb3⟩
  have q0_3 := ((q0_2.to hA2).to hb3)
  obtain ⟨o1,y1,h2,q2⟩ := q0_3.cs4
  have z3 := (q0_3).1
  have q1_3 := ((q1_2.to hA2).to hb3)
  have e4 := (q1_3).1
  have d0 := (h1.to hb3)
  have n3 := (d0).1
  obtain ⟨hA3,i1⟩ := bx1 w3 rfl [.int .i64 za,.int .i64 zb,.int .i64 zc,.int .i64 zd] 33
  obtain ⟨p1,z1,i2,r2⟩ := (q0_3.to hA3).cs4
  go_wp2_with fail
  (with_reducible refine (HC1.out _).mono ?_)
  rintro e w4 ⟨rfl,hb4⟩
  have q0_4 := ((q0_3.to hA3).to hb4)
  obtain ⟨q1,a2,j2,s2⟩ := q0_4.cs4
  have a4 := (q0_4).1
  have q1_4 := ((q1_3.to hA3).to hb4)
  have f4 := (q1_4).1
  have e0 := ((d0.to hA3).to hb4)
  have o3 := (e0).1
  have f0 := (i1.to hb4)
  have r3 := (f0).1
  obtain ⟨hA4,j1⟩ := bx1 w4 rfl [.int .i64 ya,.int .i64 yb,.int .i64 yc,.int .i64 yd] 33
  obtain ⟨r1,b2,k2,t2⟩ := (q0_4.to hA4).cs4
  go_wp2_with fail
  (with_reducible refine (HC2.out _).mono ?_)
  rintro e w5 ⟨rfl,hb5⟩
  have a0 := ((e0.to hA4).to hb5)
  obtain ⟨h0,j0,l0,n0⟩ := a0.cs4
  have b0 := ((f0.to hA4).to hb5)
  obtain ⟨p0,r0,t0,v0⟩ := b0.cs4
  have c0 := (j1.to hb5)
  obtain ⟨x0,z0,b1,d1⟩ := c0.cs4
  have q0_5 := ((q0_4.to hA4).to hb5)
  obtain ⟨s1,c2,l2,u2⟩ := q0_5.cs4
  have b4 := (q0_5).1
  have q1_5 := ((q1_4.to hA4).to hb5)
  have g4 := (q1_5).1
  have p3 := (a0).1
  have s3 := (b0).1
  have u3 := (c0).1
  obtain ⟨hA5,k1⟩ := bx1 w5 rfl [.int .i64 ya,.int .i64 yb,.int .i64 yc,.int .i64 yd] 33
  obtain ⟨i0,k0,m0,o0⟩ := (a0.to hA5).cs4
  obtain ⟨q0,s0,u0,w0⟩ := (b0.to hA5).cs4
  obtain ⟨y0,a1,c1,e1⟩ := (c0.to hA5).cs4
  obtain ⟨t1,d2,m2,v2⟩ := (q0_5.to hA5).cs4
  go_wp2_with fail
  (with_reducible refine (HM3.out _).mono ?_)
  rintro e w6 ⟨rfl,hb6⟩
  have q0_6 := ((q0_5.to hA5).to hb6)
  have c4 := (q0_6).1
  have q1_6 := ((q1_5.to hA5).to hb6)
  have h4 := (q1_6).1
  have j3 := ((a0.to hA5).to hb6)
  have q3 := (j3).1
  have k3 := ((b0.to hA5).to hb6)
  have t3 := (k3).1
  have l3 := ((c0.to hA5).to hb6)
  have v3 := (l3).1
  have m3 := (k1.to hb6)
  have x3 := (m3).1
  have g0 := (Below.tr (Below.tr (Below.tr (Below.tr (Below.tr (Below.tr (Below.tr (Below.tr (Below.tr (Below.tr (Below.tr hB_0 hA1) hb1) hb2) hA2) hb3) hA3) hb4) hA4) hb5) hA5) hb6)
  obtain ⟨hA6,i4⟩ := bx1 w6 rfl [.int .i64 1,.int .i64 0,.int .i64 0,.int .i64 0] 33
  go_wp2_with fail
  go_ret
  exact ⟨rfl,(Below.tr g0 hA6)⟩
theorem prods_no (a b c d e f g h : Int) (w : World) (hb0 : -9223372036854775808 ≤ b) (hb1 : b ≤ 9223372036854775807) (hc0 : -9223372036854775808 ≤ c) (hc1 : c ≤ 9223372036854775807) (hd0 : -9223372036854775808 ≤ d) (hd1 : d ≤ 9223372036854775807) (hq : ¬ qcode a b c d = 0) :
    Calls Tryz.prog 7 #[.agg #[.int .i64 a,.int .i64 b,.int .i64 c,.int .i64 d],.agg #[.int .i64 e,.int .i64 f,.int .i64 g,.int .i64 h]] w (GB true w) := by
  obtain ⟨za,zb,zc,zd,ze,hz⟩ := mulV_form a b c d e f g h
  have hye : ∃ ya yb yc yd ye : Int,conjV a b c d = .tuple #[.agg #[.int .i64 ya,.int .i64 yb,.int .i64 yc,.int .i64 yd],.int .i64 ye] ∧ ye ≠ 0 := by
    unfold conjV;rw [if_neg hq];exact ⟨0,0,0,0,_,rfl,hq⟩
  obtain ⟨ya,yb,yc,yd,ye,hy,hy0⟩ := hye
  have hy1 : (ye == 0) = false := by simpa using hy0
  have hy2 : (ye != 0) = true := by simpa using hy0
  have HM1 : Hid (∀ w : World,Calls Tryz.prog 26 #[.agg #[.int .i64 a,.int .i64 b,.int .i64 c,.int .i64 d],.agg #[.int .i64 e,.int .i64 f,.int .i64 g,.int .i64 h]] w (GV (.tuple #[.agg #[.int .i64 za,.int .i64 zb,.int .i64 zc,.int .i64 zd],.int .i64 ze]) w)) := Lib.hid (fun w => by rw [← hz];exact qmul_any a b c d e f g h w)
  have HM2 : Hid (∀ w : World,Calls Tryz.prog 32 #[.agg #[.int .i64 a,.int .i64 b,.int .i64 c,.int .i64 d],.agg #[.int .i64 e,.int .i64 f,.int .i64 g,.int .i64 h]] w (GV (.tuple #[.agg #[.int .i64 za,.int .i64 zb,.int .i64 zc,.int .i64 zd],.int .i64 ze]) w)) := Lib.hid (fun w => by rw [← hz];exact rqmul_any a b c d e f g h w)
  have HC1 : Hid (∀ w : World,Calls Tryz.prog 33 #[.agg #[.int .i64 a,.int .i64 b,.int .i64 c,.int .i64 d]] w (GV (.tuple #[.agg #[.int .i64 ya,.int .i64 yb,.int .i64 yc,.int .i64 yd],.int .i64 ye]) w)) := Lib.hid (fun w => by rw [← hy];exact conj_any a b c d w)
  have HC2 : Hid (∀ w : World,Calls Tryz.prog 34 #[.agg #[.int .i64 a,.int .i64 b,.int .i64 c,.int .i64 d]] w (GV (.tuple #[.agg #[.int .i64 ya,.int .i64 yb,.int .i64 yc,.int .i64 yd],.int .i64 ye]) w)) := Lib.hid (fun w => by rw [← hy];exact rconj_any a b c d w hb0 hb1 hc0 hc1 hd0 hd1)
  have hqn0 : ∀ w,Sem.run Tryz.prog (binOp .neq 33 (.agg #[.int .i64 za,.int .i64 zb,.int .i64 zc,.int .i64 zd]) (.agg #[.int .i64 za,.int .i64 zb,.int .i64 zc,.int .i64 zd])) w = .ok (.bool false) w := fun w => by simp [go_sem]
  have hqn1 : ∀ w,Sem.run Tryz.prog (binOp .neq 33 (.agg #[.int .i64 ya,.int .i64 yb,.int .i64 yc,.int .i64 yd]) (.agg #[.int .i64 ya,.int .i64 yb,.int .i64 yc,.int .i64 yd])) w = .ok (.bool false) w := fun w => by simp [go_sem]
  have hqe : ∀ w,Sem.run Tryz.prog (binOp .eql 33 (.agg #[.int .i64 1,.int .i64 0,.int .i64 0,.int .i64 0]) (.agg #[.int .i64 1,.int .i64 0,.int .i64 0,.int .i64 0])) w = .ok (.bool true) w := fun w => by simp [go_sem]
  clear hz hy hq hy0
  have hB_0 : Below w.heap.size w w := Below.refl _ _
  go_enter Tryz.func7,Tryz.ntmps7
  go_wp2_with fail
  (with_reducible refine (known_true _).mono ?_)
  rintro e w1 ⟨rfl,hb1⟩
  obtain ⟨hA1,f1,g1⟩ := bx2 w rfl [.int .i64 a,.int .i64 b,.int .i64 c,.int .i64 d] 33 [.int .i64 e,.int .i64 f,.int .i64 g,.int .i64 h] 33
  have q0_1 := (f1.to hb1)
  obtain ⟨k1,r1,z1,g2⟩ := q0_1.cs4
  have q1_1 := (g1.to hb1)
  obtain ⟨n2,q2,t2,x2⟩ := q1_1.cs4
  go_wp2_with fail
  (with_reducible refine (HM1.out _).mono ?_)
  rintro e w2 ⟨rfl,hb2⟩
  have q0_2 := (q0_1.to hb2)
  obtain ⟨l1,s1,a2,h2⟩ := q0_2.cs4
  have q1_2 := (q1_1.to hb2)
  obtain ⟨o2,r2,u2,y2⟩ := q1_2.cs4
  have g3 := (q0_2).1
  have k3 := (q1_2).1
  obtain ⟨hA2,h1⟩ := bx1 w2 rfl [.int .i64 za,.int .i64 zb,.int .i64 zc,.int .i64 zd] 33
  obtain ⟨m1,t1,b2,i2⟩ := (q0_2.to hA2).cs4
  obtain ⟨p2,s2,v2,z2⟩ := (q1_2.to hA2).cs4
  go_wp2_with fail
  (with_reducible refine (HM2.out _).mono ?_)
  rintro e w3 ⟨rfl,hb3⟩
  have q0_3 := ((q0_2.to hA2).to hb3)
  obtain ⟨n1,u1,c2,j2⟩ := q0_3.cs4
  have h3 := (q0_3).1
  have q1_3 := ((q1_2.to hA2).to hb3)
  have l3 := (q1_3).1
  have d0 := (h1.to hb3)
  have a3 := (d0).1
  obtain ⟨hA3,i1⟩ := bx1 w3 rfl [.int .i64 za,.int .i64 zb,.int .i64 zc,.int .i64 zd] 33
  obtain ⟨o1,v1,d2,k2⟩ := (q0_3.to hA3).cs4
  go_wp2_with fail
  (with_reducible refine (HC1.out _).mono ?_)
  rintro e w4 ⟨rfl,hb4⟩
  have q0_4 := ((q0_3.to hA3).to hb4)
  obtain ⟨p1,x1,e2,l2⟩ := q0_4.cs4
  have i3 := (q0_4).1
  have q1_4 := ((q1_3.to hA3).to hb4)
  have m3 := (q1_4).1
  have e0 := ((d0.to hA3).to hb4)
  have b3 := (e0).1
  have f0 := (i1.to hb4)
  have d3 := (f0).1
  obtain ⟨hA4,j1⟩ := bx1 w4 rfl [.int .i64 ya,.int .i64 yb,.int .i64 yc,.int .i64 yd] 33
  obtain ⟨q1,y1,f2,m2⟩ := (q0_4.to hA4).cs4
  go_wp2_with fail
  (with_reducible refine (HC2.out _).mono ?_)
  rintro e w5 ⟨rfl,hb5⟩
  have a0 := ((e0.to hA4).to hb5)
  obtain ⟨h0,j0,l0,n0⟩ := a0.cs4
  have b0 := ((f0.to hA4).to hb5)
  obtain ⟨p0,r0,t0,v0⟩ := b0.cs4
  have c0 := (j1.to hb5)
  obtain ⟨x0,z0,b1,d1⟩ := c0.cs4
  have q0_5 := ((q0_4.to hA4).to hb5)
  have j3 := (q0_5).1
  have q1_5 := ((q1_4.to hA4).to hb5)
  have n3 := (q1_5).1
  have c3 := (a0).1
  have e3 := (b0).1
  have f3 := (c0).1
  obtain ⟨hA5,o3⟩ := bx1 w5 rfl [.int .i64 ya,.int .i64 yb,.int .i64 yc,.int .i64 yd] 33
  obtain ⟨i0,k0,m0,o0⟩ := (a0.to hA5).cs4
  obtain ⟨q0,s0,u0,w0⟩ := (b0.to hA5).cs4
  obtain ⟨y0,a1,c1,e1⟩ := (c0.to hA5).cs4
  have g0 := (Below.tr (Below.tr (Below.tr (Below.tr (Below.tr (Below.tr (Below.tr (Below.tr (Below.tr hB_0 hA1) hb1) hb2) hA2) hb3) hA3) hb4) hA4) hb5)
  go_wp2_with fail
  go_ret
  exact ⟨rfl,(Below.tr g0 hA5)⟩
theorem prods_holds : Rows.RotationProductsSaid := rotationProducts_frame (fun a b c d e f g h _ wb wc wd _ _ _ _ w => by
  have hb := word_of_wf wb
  have hc := word_of_wf wc
  have hd := word_of_wf wd
  by_cases hq : qcode a b c d = 0
  · exact prods_ok a b c d e f g h w hb.1 hb.2 hc.1 hc.2 hd.1 hd.2 hq
  · exact prods_no a b c d e f g h w hb.1 hb.2 hc.1 hc.2 hd.1 hd.2 hq)
end Go.Proofs.YtidfgdchcpmnfaaGreat
