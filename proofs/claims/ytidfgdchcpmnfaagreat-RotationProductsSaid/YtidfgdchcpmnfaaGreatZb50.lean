/-
  Lemmas for the statements about rotations, part 50 of 51.
-/
import Derived.Test.YtidfgdchcpmnfaaGreatZb11
import Derived.Test.YtidfgdchcpmnfaaGreatZb20
namespace Go.Proofs.YtidfgdchcpmnfaaGreat
open Go.RowKit
set_option maxRecDepth 100000
set_option maxHeartbeats 4000000
set_option linter.unusedSimpArgs false
set_option linter.unusedVariables false
def cmpQ (x y : Rat) : Int := if x < y then -1 else if y < x then 1 else 0
theorem cmpQ_eq (x y : Rat) : cmpI (x.num * y.den) (y.num * x.den) = cmpQ x y := by
  unfold cmpI cmpQ
  simp only [rat_cmp_lt]
theorem divQ_okraw (v u : Value) (o1 o2 : Bool) (x y : Rat) (w : World) (h1 : QRaw w v o1 x) (h2 : QRaw w u o2 y) (n1 : Qn v 400000000) (n2 : Qn u 400000000) (hy : y ≠ 0) :
    Calls Tryz.prog 91 #[v,u] w (GQC (x / y) 0 w) := by
  obtain ⟨b,p,n,c,d,o,m,e,rfl⟩ := h1.form
  obtain ⟨f,i,j,k,g,r,t,a,rfl⟩ := h2.form
  have hl := h1.rsz_le n1 (by omega)
  have hl2 := h2.rsz_le n2 (by omega)
  have m1 := n1.up (show 400000000 ≤ 1000000000 by omega)
  have m2 := n2.up (show 400000000 ≤ 1000000000 by omega)
  have b1 := rsz_num x
  have b2 := rsz_den x
  have b3 := rsz_num y
  have b4 := rsz_den y
  have c1 := isz_mul x.num y.den
  have c4 := isz_mul x.den y.num
  have HX := Lib.hid (rat_div x y)
  have hn0 : y.num ≠ 0 := fun h => hy ((rat_num_zero y).1 h)
  have hd0 : (x.den : Int) * y.num ≠ 0 := fun h => by
    have := x.den_nz
    rcases Int.mul_eq_zero.1 h with h | h <;> omega
  have hsg2 : (sgn y.num == 0) = false := by have := sgn_ne hn0;simpa using this
  clear hy hn0
  have hB_0 : Below w.heap.size w w := Below.refl _ _
  go_enter Tryz.func91,Tryz.ntmps91
  go_wp2_with fail
  obtain ⟨hA1,y0,z0,j1⟩ := bx3 w rfl [.bool b,.slice p n c,.bool d,.slice o m e] 30 [.bool f,.slice i j k,.bool g,.slice r t a] 30 [.bool false,.slice none 0 0,.bool false,.slice none 0 0] 30
  obtain ⟨f2,t2,j2,x2,l2,z2,r2,c3⟩ := y0.drew.cf4
  obtain ⟨e3,q3,h3,s3,k3,u3,n3,x3⟩ := z0.drew.cf4
  have tk1 : True := trivial
  have tk2 : True := trivial
  go_region_with
    (first
      | (((have := tk1);clear tk1;have k1 := (h1.below hA1).drew;go_at_call 105;(with_reducible refine (valueQ_raw _ _ (x) _ k1 m1).mono ?_);rintro e w1 ⟨v1,rfl,hi1,hb1⟩;obtain ⟨g1,p1,n1,c1,h1,o1,m1,e1,rfl⟩ := hi1.form;have q1_1 := (z0.drew.to hb1);obtain ⟨f3,r3,i3,t3,l3,v3,o3,y3⟩ := q1_1.cf4;have q0_1 := (y0.drew.to hb1);obtain ⟨i2,u2,k2,y2,q2,a3,s2,d3⟩ := q0_1.cf4))
      | (((have := tk2);clear tk2;have h2_1 := ((h2.below hA1).drew.below hb1);have l1 := h2_1;go_at_call 105;(with_reducible refine (valueQ_raw _ _ (y) _ l1 m2).mono ?_);rintro e w2 ⟨v2,rfl,hi2,hb2⟩;obtain ⟨g2,p2,n2,c2,h2,o2,m2,e2,rfl⟩ := hi2.form;have q0_2 := (q0_1.to hb2);obtain ⟨a0,e0,b0,f0,c0,g0,d0,h0⟩ := q0_2.cf4;have q1_2 := (q1_1.to hb2);obtain ⟨i0,m0,j0,n0,k0,o0,l0,p0⟩ := q1_2.cf4)))
  all_goals
    obtain ⟨g3,j3,m3,p3⟩ := ((q1_2.other4 (b := w.heap.size) (by omega) (.bool g1) (.slice p1 n1 c1) (.bool h1) (.slice o1 m1 e1)).store4 (.bool g2) (.slice p2 n2 c2) (.bool h2) (.slice o2 m2 e2)).cs4
    go_wp2_with fail
    have q1 := ((hi2.sets4 q0_2 rfl rfl rfl rfl (.bool g1) (.slice p1 n1 c1) (.bool h1) (.slice o1 m1 e1)).sets4 (q1_2.other4 (b := w.heap.size) (by omega) (.bool g1) (.slice p1 n1 c1) (.bool h1) (.slice o1 m1 e1)) rfl rfl rfl rfl (.bool g2) (.slice p2 n2 c2) (.bool h2) (.slice o2 m2 e2)).num.raw
    (with_reducible refine (signI_any _ (((y)).num) _ q1).mono ?_)
    rintro e w3 ⟨rfl,hb3⟩
    go_wp2_with fail
    have q0_3 := (((q0_2.store4 (.bool g1) (.slice p1 n1 c1) (.bool h1) (.slice o1 m1 e1)).other4 (b := w.heap.size + 1) (by omega) (.bool g2) (.slice p2 n2 c2) (.bool h2) (.slice o2 m2 e2)).to hb3)
    have q1_3 := (((q1_2.other4 (b := w.heap.size) (by omega) (.bool g1) (.slice p1 n1 c1) (.bool h1) (.slice o1 m1 e1)).store4 (.bool g2) (.slice p2 n2 c2) (.bool h2) (.slice o2 m2 e2)).to hb3)
    have q2_3 := (((((j1.drew.to hb1).to hb2).other4 (b := w.heap.size) (by omega) (.bool g1) (.slice p1 n1 c1) (.bool h1) (.slice o1 m1 e1)).other4 (b := w.heap.size + 1) (by omega) (.bool g2) (.slice p2 n2 c2) (.bool h2) (.slice o2 m2 e2)).to hb3)
    have S0_4 := (AndS.mk (q0_3.drew).bs4 (AndS.mk (q1_3.drew).bs4 (BN.of (q2_3.drew))))
    have f1 : HeldC (w.heap.size + 1 + 1) (AndS (BS4 w.heap.size (.bool g1) (.slice p1 n1 c1) (.bool h1) (.slice o1 m1 e1)) (AndS (BS4 (w.heap.size + 1) (.bool g2) (.slice p2 n2 c2) (.bool h2) (.slice o2 m2 e2)) (BN (w.heap.size + 1 + 1)))) := (AndS.hc (BS4.hc (by omega)) (AndS.hc (BS4.hc (by omega)) BN.hc))
    have tk3 : True := trivial
    have tk4 : True := trivial
    have tk5 : True := trivial
    go_region_held3 (AndS (BS4 w.heap.size (.bool g1) (.slice p1 n1 c1) (.bool h1) (.slice o1 m1 e1)) (AndS (BS4 (w.heap.size + 1) (.bool g2) (.slice p2 n2 c2) (.bool h2) (.slice o2 m2 e2)) (BN (w.heap.size + 1 + 1)))) (first | with_reducible exact S0_4 | with_reducible exact HeldK.go (AndS.hk BS4.hk (AndS.hk BS4.hk BN.hk)) (by assumption) (by assumption) | with_reducible exact HeldC.go4 f1 (by assumption) | (simp;done))
      (first
        | (((have := tk3);clear tk3;have a1 := ((((hi1.below hb2).sets4 q0_2 rfl rfl rfl rfl (.bool g1) (.slice p1 n1 c1) (.bool h1) (.slice o1 m1 e1)).sets4 (q1_2.other4 (b := w.heap.size) (by omega) (.bool g1) (.slice p1 n1 c1) (.bool h1) (.slice o1 m1 e1)) rfl rfl rfl rfl (.bool g2) (.slice p2 n2 c2) (.bool h2) (.slice o2 m2 e2)).below hb3);have r1 := a1.drew.num.raw;have d1 := (((hi2.sets4 q0_2 rfl rfl rfl rfl (.bool g1) (.slice p1 n1 c1) (.bool h1) (.slice o1 m1 e1)).sets4 (q1_2.other4 (b := w.heap.size) (by omega) (.bool g1) (.slice p1 n1 c1) (.bool h1) (.slice o1 m1 e1)) rfl rfl rfl rfl (.bool g2) (.slice p2 n2 c2) (.bool h2) (.slice o2 m2 e2)).below hb3);have s1 := d1.drew.den.raw;go_at_call 71;(with_reducible refine (mul_any _ _ (((x)).num) ((((y)).den : Int)) _ r1 s1 (by omega) (by omega)).mono ?_);rintro e w4 ⟨v4,rfl,hi4,hb4⟩;obtain ⟨g4,p4,n4,c4,rfl⟩ := hi4.form))
        | (((have := tk4);clear tk4;have z1 := (a1.drew.below hb4);have t1 := z1.den.raw;have a2 := (d1.drew.below hb4);have u1 := a2.num.raw;go_at_call 71;(with_reducible refine (mul_any _ _ ((((x)).den : Int)) (((y)).num) _ t1 u1 (by omega) (by omega)).mono ?_);rintro e w5 ⟨v5,rfl,hi5,hb5⟩;obtain ⟨g5,p5,n5,c5,rfl⟩ := hi5.form))
        | (((have := tk5);clear tk5;have d2 := (hi4.below hb5);have x1 := d2;have y1 := hi5;go_at_call 106;(with_reducible refine (reducedQ_any _ _ ((((x)).num) * ((((y)).den : Int))) (((((x)).den : Int)) * (((y)).num)) _ x1 y1 (by omega) (by omega) hd0).mono ?_);rintro e w6 ⟨v6,rfl,hi6,hb6⟩;obtain ⟨g6,p6,n6,c6,h6,o6,m6,e6,rfl⟩ := hi6.form;have q2_6 := (((q2_3.drew.to hb4).to hb5).to hb6);obtain ⟨q0,u0,r0,v0,s0,w0,t0,x0⟩ := q2_6.cf4)))
    have i1 := (Below.tr (Below.tr (Below.tr (Below.tr (Below.sets4 (Below.sets4 (Below.tr (Below.tr (Below.tr hB_0 hA1).drew hb1) hb2) (b := w.heap.size) (by omega) (.bool g1) (.slice p1 n1 c1) (.bool h1) (.slice o1 m1 e1)) (b := w.heap.size + 1) (by omega) (.bool g2) (.slice p2 n2 c2) (.bool h2) (.slice o2 m2 e2)) hb3).drew hb4) hb5) hb6)
    go_wp2_with fail
    exact bodyPost_ret (v := .tuple #[.agg #[.bool g6,.slice p6 n6 c6,.bool h6,.slice o6 m6 e6],.int .i64 0]) (by simp [results,Tryz.results91,go_sem,a0,e0,b0,f0,c0,g0,d0,h0,i0,m0,j0,n0,k0,o0,l0,p0,q0,u0,r0,v0,s0,w0,t0,x0]) rfl ⟨_,rfl,by rw [← HX.out];exact (hi6.sets4 q2_6 rfl rfl rfl rfl (.bool g6) (.slice p6 n6 c6) (.bool h6) (.slice o6 m6 e6)),(Below.sets4 i1 (b := w.heap.size + 1 + 1) (by omega) (.bool g6) (.slice p6 n6 c6) (.bool h6) (.slice o6 m6 e6))⟩
theorem divQ_noraw (v u : Value) (o1 o2 : Bool) (x y : Rat) (w : World) (h1 : QRaw w v o1 x) (h2 : QRaw w u o2 y) (n1 : Qn v 400000000) (n2 : Qn u 400000000) (hy : y = 0) :
    Calls Tryz.prog 91 #[v,u] w (GNoQ 14 w) := by
  obtain ⟨b,p,n,c,d,o,m,e,rfl⟩ := h1.form
  obtain ⟨f,i,j,k,g,r,t,a,rfl⟩ := h2.form
  have hl := h1.rsz_le n1 (by omega)
  have hl2 := h2.rsz_le n2 (by omega)
  have m1 := n1.up (show 400000000 ≤ 1000000000 by omega)
  have m2 := n2.up (show 400000000 ≤ 1000000000 by omega)
  have b1 := rsz_num x
  have b2 := rsz_den x
  have b3 := rsz_num y
  have b4 := rsz_den y
  have hsg2 : (sgn y.num == 0) = true := by rw [hy];rfl
  clear hy
  have hB_0 : Below w.heap.size w w := Below.refl _ _
  go_enter Tryz.func91,Tryz.ntmps91
  go_wp2_with fail
  obtain ⟨hA1,y0,z0,d1⟩ := bx3 w rfl [.bool b,.slice p n c,.bool d,.slice o m e] 30 [.bool f,.slice i j k,.bool g,.slice r t a] 30 [.bool false,.slice none 0 0,.bool false,.slice none 0 0] 30
  obtain ⟨k1,y1,q1,a2,s1,f2,u1,j2⟩ := y0.drew.cf4
  obtain ⟨l2,e3,s2,g3,x2,i3,a3,k3⟩ := z0.drew.cf4
  have tk1 : True := trivial
  have tk2 : True := trivial
  go_region_with
    (first
      | (((have := tk1);clear tk1;have f1 := (h1.below hA1).drew;go_at_call 105;(with_reducible refine (valueQ_raw _ _ (x) _ f1 m1).mono ?_);rintro e w1 ⟨v1,rfl,hi1,hb1⟩;obtain ⟨g1,p1,n1,c1,h1,o1,m1,e1,rfl⟩ := hi1.form;have q1_1 := (z0.drew.to hb1);obtain ⟨q2,f3,t2,h3,y2,j3,c3,l3⟩ := q1_1.cf4;have q0_1 := (y0.drew.to hb1);obtain ⟨l1,z1,r1,d2,t1,i2,x1,k2⟩ := q0_1.cf4))
      | (((have := tk2);clear tk2;have h2_1 := ((h2.below hA1).drew.below hb1);have i1 := h2_1;go_at_call 105;(with_reducible refine (valueQ_raw _ _ (y) _ i1 m2).mono ?_);rintro e w2 ⟨v2,rfl,hi2,hb2⟩;obtain ⟨g2,p2,n2,c2,h2,o2,m2,e2,rfl⟩ := hi2.form;have q0_2 := (q0_1.to hb2);obtain ⟨a0,e0,b0,f0,c0,g0,d0,h0⟩ := q0_2.cf4;have q1_2 := (q1_1.to hb2);obtain ⟨i0,m0,j0,n0,k0,o0,l0,p0⟩ := q1_2.cf4)))
  all_goals
    obtain ⟨r2,u2,z2,d3⟩ := ((q1_2.other4 (b := w.heap.size) (by omega) (.bool g1) (.slice p1 n1 c1) (.bool h1) (.slice o1 m1 e1)).store4 (.bool g2) (.slice p2 n2 c2) (.bool h2) (.slice o2 m2 e2)).cs4
    go_wp2_with fail
    have j1 := ((hi2.sets4 q0_2 rfl rfl rfl rfl (.bool g1) (.slice p1 n1 c1) (.bool h1) (.slice o1 m1 e1)).sets4 (q1_2.other4 (b := w.heap.size) (by omega) (.bool g1) (.slice p1 n1 c1) (.bool h1) (.slice o1 m1 e1)) rfl rfl rfl rfl (.bool g2) (.slice p2 n2 c2) (.bool h2) (.slice o2 m2 e2)).num.raw
    (with_reducible refine (signI_any _ (((y)).num) _ j1).mono ?_)
    rintro e w3 ⟨rfl,hb3⟩
    have q2_3 := (((((d1.drew.to hb1).to hb2).other4 (b := w.heap.size) (by omega) (.bool g1) (.slice p1 n1 c1) (.bool h1) (.slice o1 m1 e1)).other4 (b := w.heap.size + 1) (by omega) (.bool g2) (.slice p2 n2 c2) (.bool h2) (.slice o2 m2 e2)).to hb3)
    obtain ⟨q0,u0,r0,v0,s0,w0,t0,x0⟩ := q2_3.cf4
    have a1 := (Below.tr (Below.sets4 (Below.sets4 (Below.tr (Below.tr (Below.tr hB_0 hA1).drew hb1) hb2) (b := w.heap.size) (by omega) (.bool g1) (.slice p1 n1 c1) (.bool h1) (.slice o1 m1 e1)) (b := w.heap.size + 1) (by omega) (.bool g2) (.slice p2 n2 c2) (.bool h2) (.slice o2 m2 e2)) hb3)
    go_wp2_with fail
    exact bodyPost_ret (v := .tuple #[.agg #[.bool false,.slice none 0 0,.bool false,.slice none 0 0],.int .i64 14]) (by simp [results,Tryz.results91,go_sem,a0,e0,b0,f0,c0,g0,d0,h0,i0,m0,j0,n0,k0,o0,l0,p0,q0,u0,r0,v0,s0,w0,t0,x0]) rfl ⟨rfl,(Below.sets4 a1 (b := w.heap.size + 1 + 1) (by omega) (.bool false) (.slice none 0 0) (.bool false) (.slice none 0 0))⟩
theorem compareQ_raw (v u : Value) (o1 o2 : Bool) (x y : Rat) (w : World) (h1 : QRaw w v o1 x) (h2 : QRaw w u o2 y) (n1 : Qn v 400000000) (n2 : Qn u 400000000) :
    Calls Tryz.prog 90 #[v,u] w (fun e w' => e = .returned (.int .i64 (cmpQ x y)) ∧ Below w.heap.size w w') := by
  obtain ⟨b,p,n,c,d,o,m,e,rfl⟩ := h1.form
  obtain ⟨f,i,j,k,g,r,t,a,rfl⟩ := h2.form
  have hl := h1.rsz_le n1 (by omega)
  have hl2 := h2.rsz_le n2 (by omega)
  have m1 := n1.up (show 400000000 ≤ 1000000000 by omega)
  have m2 := n2.up (show 400000000 ≤ 1000000000 by omega)
  have b1 := rsz_num x
  have b2 := rsz_den x
  have b3 := rsz_num y
  have b4 := rsz_den y
  have c1 := isz_mul x.num y.den
  have c2 := isz_mul y.num x.den
  have hB_0 : Below w.heap.size w w := Below.refl _ _
  go_enter Tryz.func90,Tryz.ntmps90
  go_wp2_with fail
  obtain ⟨hA1,a0,b0⟩ := bx2 w rfl [.bool b,.slice p n c,.bool d,.slice o m e] 30 [.bool f,.slice i j k,.bool g,.slice r t a] 30
  obtain ⟨p0,d1,s0,j1,v0,q1,y0,t1⟩ := a0.drew.cf4
  obtain ⟨y1,t2,d2,y2,j2,d3,q2,h3⟩ := b0.drew.cf4
  have tk1 : True := trivial
  have tk2 : True := trivial
  go_region_with
    (first
      | (((have := tk1);clear tk1;have e0 := (h1.below hA1).drew;go_at_call 105;(with_reducible refine (valueQ_raw _ _ (x) _ e0 m1).mono ?_);rintro e w1 ⟨v1,rfl,hi1,hb1⟩;obtain ⟨g1,p1,n1,c1,h1,o1,m1,e1,rfl⟩ := hi1.form;have q1_1 := (b0.drew.to hb1);obtain ⟨z1,u2,f2,z2,k2,e3,r2,i3⟩ := q1_1.cf4;have q0_1 := (a0.drew.to hb1);obtain ⟨q0,f1,t0,k1,w0,r1,z0,u1⟩ := q0_1.cf4))
      | (((have := tk2);clear tk2;have h2_1 := ((h2.below hA1).drew.below hb1);have f0 := h2_1;go_at_call 105;(with_reducible refine (valueQ_raw _ _ (y) _ f0 m2).mono ?_);rintro e w2 ⟨v2,rfl,hi2,hb2⟩;obtain ⟨g2,p2,n2,c2,h2,o2,m2,e2,rfl⟩ := hi2.form;have q0_2 := (q0_1.to hb2);obtain ⟨r0,i1,u0,l1,x0,s1,a1,x1⟩ := q0_2.cf4;have q1_2 := (q1_1.to hb2);obtain ⟨a2,x2,i2,a3,l2,f3,s2,j3⟩ := q1_2.cf4)))
  all_goals
    go_wp2_with fail
    have S0_2 := (AndS.mk (((q0_2.store4 (.bool g1) (.slice p1 n1 c1) (.bool h1) (.slice o1 m1 e1)).other4 (b := w.heap.size + 1) (by omega) (.bool g2) (.slice p2 n2 c2) (.bool h2) (.slice o2 m2 e2)).drew).bs4 (((q1_2.other4 (b := w.heap.size) (by omega) (.bool g1) (.slice p1 n1 c1) (.bool h1) (.slice o1 m1 e1)).store4 (.bool g2) (.slice p2 n2 c2) (.bool h2) (.slice o2 m2 e2)).drew).bs4)
    have tk3 : True := trivial
    have tk4 : True := trivial
    have tk5 : True := trivial
    go_region_held3 (AndS (BS4 w.heap.size (.bool g1) (.slice p1 n1 c1) (.bool h1) (.slice o1 m1 e1)) (BS4 (w.heap.size + 1) (.bool g2) (.slice p2 n2 c2) (.bool h2) (.slice o2 m2 e2))) (first | with_reducible exact S0_2 | with_reducible exact HeldK.go (AndS.hk BS4.hk BS4.hk) (by assumption) (by assumption) | (simp;done))
      (first
        | (((have := tk3);clear tk3;have c0 := (hi1.below hb2);have g0 := ((c0.sets4 q0_2 rfl rfl rfl rfl (.bool g1) (.slice p1 n1 c1) (.bool h1) (.slice o1 m1 e1)).sets4 (q1_2.other4 (b := w.heap.size) (by omega) (.bool g1) (.slice p1 n1 c1) (.bool h1) (.slice o1 m1 e1)) rfl rfl rfl rfl (.bool g2) (.slice p2 n2 c2) (.bool h2) (.slice o2 m2 e2)).drew.num.raw;have h0 := ((hi2.sets4 q0_2 rfl rfl rfl rfl (.bool g1) (.slice p1 n1 c1) (.bool h1) (.slice o1 m1 e1)).sets4 (q1_2.other4 (b := w.heap.size) (by omega) (.bool g1) (.slice p1 n1 c1) (.bool h1) (.slice o1 m1 e1)) rfl rfl rfl rfl (.bool g2) (.slice p2 n2 c2) (.bool h2) (.slice o2 m2 e2)).drew.den.raw;go_at_call 71;(with_reducible refine (mul_any _ _ (((x)).num) ((((y)).den : Int)) _ g0 h0 (by omega) (by omega)).mono ?_);rintro e w3 ⟨v3,rfl,hi3,hb3⟩;obtain ⟨g3,p3,n3,c3,rfl⟩ := hi3.form))
        | (((have := tk4);clear tk4;have n0 := (((hi2.sets4 q0_2 rfl rfl rfl rfl (.bool g1) (.slice p1 n1 c1) (.bool h1) (.slice o1 m1 e1)).sets4 (q1_2.other4 (b := w.heap.size) (by omega) (.bool g1) (.slice p1 n1 c1) (.bool h1) (.slice o1 m1 e1)) rfl rfl rfl rfl (.bool g2) (.slice p2 n2 c2) (.bool h2) (.slice o2 m2 e2)).drew.below hb3);have i0 := n0.num.raw;have m0 := (((c0.sets4 q0_2 rfl rfl rfl rfl (.bool g1) (.slice p1 n1 c1) (.bool h1) (.slice o1 m1 e1)).sets4 (q1_2.other4 (b := w.heap.size) (by omega) (.bool g1) (.slice p1 n1 c1) (.bool h1) (.slice o1 m1 e1)) rfl rfl rfl rfl (.bool g2) (.slice p2 n2 c2) (.bool h2) (.slice o2 m2 e2)).drew.below hb3);have j0 := m0.den.raw;go_at_call 71;(with_reducible refine (mul_any _ _ (((y)).num) ((((x)).den : Int)) _ i0 j0 (by omega) (by omega)).mono ?_);rintro e w4 ⟨v4,rfl,hi4,hb4⟩;obtain ⟨g4,p4,n4,c4,rfl⟩ := hi4.form))
        | (((have := tk5);clear tk5;have o0 := (hi3.below hb4);have k0 := o0.raw;have l0 := hi4.raw;go_at_call 132;(with_reducible refine (compareI_any _ _ ((((x)).num) * ((((y)).den : Int))) ((((y)).num) * ((((x)).den : Int))) _ k0 l0).mono ?_);rintro e w5 ⟨rfl,hb5⟩)))
    have d0 := (Below.tr (Below.tr (Below.tr (Below.sets4 (Below.sets4 (Below.tr (Below.tr (Below.tr hB_0 hA1).drew hb1) hb2) (b := w.heap.size) (by omega) (.bool g1) (.slice p1 n1 c1) (.bool h1) (.slice o1 m1 e1)) (b := w.heap.size + 1) (by omega) (.bool g2) (.slice p2 n2 c2) (.bool h2) (.slice o2 m2 e2)).drew hb3) hb4) hb5)
    go_wp2_with fail
    go_ret
    exact ⟨ret_int (cmpQ_eq x y),d0⟩
theorem compareQ_any (v u : Value) (x y : Rat) (w : World) (h1 : RQ w v x) (h2 : RQ w u y) (l1 : rsz x ≤ 400000000) (l2 : rsz y ≤ 400000000) :
    Calls Tryz.prog 90 #[v,u] w (fun e w' => e = .returned (.int .i64 (cmpQ x y)) ∧ Below w.heap.size w w') := compareQ_raw v u true true x y w h1.raw h2.raw (h1.qn l1) (h2.qn l2)
theorem divQ_ok (v u : Value) (x y : Rat) (w : World) (h1 : RQ w v x) (h2 : RQ w u y) (l1 : rsz x ≤ 400000000) (l2 : rsz y ≤ 400000000) (hy : y ≠ 0) :
    Calls Tryz.prog 91 #[v,u] w (GQC (x / y) 0 w) := divQ_okraw v u true true x y w h1.raw h2.raw (h1.qn l1) (h2.qn l2) hy
end Go.Proofs.YtidfgdchcpmnfaaGreat
