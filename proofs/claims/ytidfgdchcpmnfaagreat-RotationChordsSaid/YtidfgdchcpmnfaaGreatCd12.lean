/-
  Lemmas for the theorem vchords_holds, part 12 of 33.
-/
import Derived.Test.YtidfgdchcpmnfaaGreatCd06
import Derived.Test.YtidfgdchcpmnfaaGreatCd10
import Derived.Test.YtidfgdchcpmnfaaGreatCd11
namespace Go.Proofs.YtidfgdchcpmnfaaGreat
open Go.RowKit
set_option maxRecDepth 100000
set_option maxHeartbeats 4000000
set_option linter.unusedSimpArgs false
set_option linter.unusedVariables false
def cmpQ (x y : Rat) : Int := if x < y then -1 else if y < x then 1 else 0
theorem cmpQ_eq (x y : Rat) : cmpI (x.num * y.den) (y.num * x.den) = cmpQ x y := by
  unfold cmpI cmpQ
  simp only [rat_cmp_lt]
theorem divQ_okraw (v u : Value) (o1 o2 : Bool) (x y : Rat) (w : World) (h1 : QRaw w v o1 x) (h2 : QRaw w u o2 y) (n1 : Qn v 400000000) (n2 : Qn u 400000000) (hy : y ≠ 0) :
    Calls Tryz.prog 91 #[v,u] w (GQC (x / y) 0 w) := by
  obtain ⟨b,p,n,c,d,o,m,e,rfl⟩ := h1.form
  obtain ⟨f,i,j,k,g,r,t,a,rfl⟩ := h2.form
  have hl := h1.rsz_le n1 (by omega)
  have hl2 := h2.rsz_le n2 (by omega)
  have m1 := n1.up (show 400000000 ≤ 1000000000 by omega)
  have m2 := n2.up (show 400000000 ≤ 1000000000 by omega)
  have b1 := rsz_num x
  have b2 := rsz_den x
  have b3 := rsz_num y
  have b4 := rsz_den y
  have c1 := isz_mul x.num y.den
  have c4 := isz_mul x.den y.num
  have HX := Lib.hid (rat_div x y)
  have hn0 : y.num ≠ 0 := fun h => hy ((rat_num_zero y).1 h)
  have hd0 : (x.den : Int) * y.num ≠ 0 := fun h => by
    have := x.den_nz
    rcases Int.mul_eq_zero.1 h with h | h <;> omega
  have hsg2 : (sgn y.num == 0) = false := by have := sgn_ne hn0;simpa using this
  clear hy hn0
  have hB_0 : Below w.heap.size w w := Below.refl _ _
  go_enter Tryz.func91,Tryz.ntmps91
  go_wp2_with fail
  obtain ⟨hA1,y0,z0,j1⟩ := bx3 w rfl [.bool b,.slice p n c,.bool d,.slice o m e] 30 [.bool f,.slice i j k,.bool g,.slice r t a] 30 [.bool false,.slice none 0 0,.bool false,.slice none 0 0] 30
  obtain ⟨f2,t2,j2,x2,l2,z2,r2,c3⟩ := y0.drew.cf4
  obtain ⟨e3,q3,h3,s3,k3,u3,n3,x3⟩ := z0.drew.cf4
  have tk1 : True := trivial
  have tk2 : True := trivial
  go_region_with
    (first
      | (((have := tk1);clear tk1;have k1 := (h1.below hA1).drew;go_at_call 105;(with_reducible refine (valueQ_raw _ _ (x) _ k1 m1).mono ?_);rintro e w1 ⟨v1,rfl,hi1,hb1⟩;obtain ⟨g1,p1,n1,c1,h1,o1,m1,e1,rfl⟩ := hi1.form;have q1_1 := (z0.drew.to hb1);obtain ⟨f3,r3,i3,t3,l3,v3,o3,y3⟩ := q1_1.cf4;have q0_1 := (y0.drew.to hb1);obtain ⟨i2,u2,k2,y2,q2,a3,s2,d3⟩ := q0_1.cf4))
      | (((have := tk2);clear tk2;have h2_1 := ((h2.below hA1).drew.below hb1);have l1 := h2_1;go_at_call 105;(with_reducible refine (valueQ_raw _ _ (y) _ l1 m2).mono ?_);rintro e w2 ⟨v2,rfl,hi2,hb2⟩;obtain ⟨g2,p2,n2,c2,h2,o2,m2,e2,rfl⟩ := hi2.form;have q0_2 := (q0_1.to hb2);obtain ⟨a0,e0,b0,f0,c0,g0,d0,h0⟩ := q0_2.cf4;have q1_2 := (q1_1.to hb2);obtain ⟨i0,m0,j0,n0,k0,o0,l0,p0⟩ := q1_2.cf4)))
  all_goals
    obtain ⟨g3,j3,m3,p3⟩ := ((q1_2.other4 (b := w.heap.size) (by omega) (.bool g1) (.slice p1 n1 c1) (.bool h1) (.slice o1 m1 e1)).store4 (.bool g2) (.slice p2 n2 c2) (.bool h2) (.slice o2 m2 e2)).cs4
    go_wp2_with fail
    have q1 := ((hi2.sets4 q0_2 rfl rfl rfl rfl (.bool g1) (.slice p1 n1 c1) (.bool h1) (.slice o1 m1 e1)).sets4 (q1_2.other4 (b := w.heap.size) (by omega) (.bool g1) (.slice p1 n1 c1) (.bool h1) (.slice o1 m1 e1)) rfl rfl rfl rfl (.bool g2) (.slice p2 n2 c2) (.bool h2) (.slice o2 m2 e2)).num.raw
    (with_reducible refine (signI_any _ (((y)).num) _ q1).mono ?_)
    rintro e w3 ⟨rfl,hb3⟩
    go_wp2_with fail
    have q0_3 := (((q0_2.store4 (.bool g1) (.slice p1 n1 c1) (.bool h1) (.slice o1 m1 e1)).other4 (b := w.heap.size + 1) (by omega) (.bool g2) (.slice p2 n2 c2) (.bool h2) (.slice o2 m2 e2)).to hb3)
    have q1_3 := (((q1_2.other4 (b := w.heap.size) (by omega) (.bool g1) (.slice p1 n1 c1) (.bool h1) (.slice o1 m1 e1)).store4 (.bool g2) (.slice p2 n2 c2) (.bool h2) (.slice o2 m2 e2)).to hb3)
    have q2_3 := (((((j1.drew.to hb1).to hb2).other4 (b := w.heap.size) (by omega) (.bool g1) (.slice p1 n1 c1) (.bool h1) (.slice o1 m1 e1)).other4 (b := w.heap.size + 1) (by omega) (.bool g2) (.slice p2 n2 c2) (.bool h2) (.slice o2 m2 e2)).to hb3)
    have S0_4 := (AndS.mk (q0_3.drew).bs4 (AndS.mk (q1_3.drew).bs4 (BN.of (q2_3.drew))))
    have f1 : HeldC (w.heap.size + 1 + 1) (AndS (BS4 w.heap.size (.bool g1) (.slice p1 n1 c1) (.bool h1) (.slice o1 m1 e1)) (AndS (BS4 (w.heap.size + 1) (.bool g2) (.slice p2 n2 c2) (.bool h2) (.slice o2 m2 e2)) (BN (w.heap.size + 1 + 1)))) := (AndS.hc (BS4.hc (by omega)) (AndS.hc (BS4.hc (by omega)) BN.hc))
    have tk3 : True := trivial
    have tk4 : True := trivial
    have tk5 : True := trivial
    go_region_held3 (AndS (BS4 w.heap.size (.bool g1) (.slice p1 n1 c1) (.bool h1) (.slice o1 m1 e1)) (AndS (BS4 (w.heap.size + 1) (.bool g2) (.slice p2 n2 c2) (.bool h2) (.slice o2 m2 e2)) (BN (w.heap.size + 1 + 1)))) (first | with_reducible exact S0_4 | with_reducible exact HeldK.go (AndS.hk BS4.hk (AndS.hk BS4.hk BN.hk)) (by assumption) (by assumption) | with_reducible exact HeldC.go4 f1 (by assumption) | (simp;done))
      (first
        | (((have := tk3);clear tk3;have a1 := ((((hi1.below hb2).sets4 q0_2 rfl rfl rfl rfl (.bool g1) (.slice p1 n1 c1) (.bool h1) (.slice o1 m1 e1)).sets4 (q1_2.other4 (b := w.heap.size) (by omega) (.bool g1) (.slice p1 n1 c1) (.bool h1) (.slice o1 m1 e1)) rfl rfl rfl rfl (.bool g2) (.slice p2 n2 c2) (.bool h2) (.slice o2 m2 e2)).below hb3);have r1 := a1.drew.num.raw;have d1 := (((hi2.sets4 q0_2 rfl rfl rfl rfl (.bool g1) (.slice p1 n1 c1) (.bool h1) (.slice o1 m1 e1)).sets4 (q1_2.other4 (b := w.heap.size) (by omega) (.bool g1) (.slice p1 n1 c1) (.bool h1) (.slice o1 m1 e1)) rfl rfl rfl rfl (.bool g2) (.slice p2 n2 c2) (.bool h2) (.slice o2 m2 e2)).below hb3);have s1 := d1.drew.den.raw;go_at_call 71;(with_reducible refine (mul_any _ _ (((x)).num) ((((y)).den : Int)) _ r1 s1 (by omega) (by omega)).mono ?_);rintro e w4 ⟨v4,rfl,hi4,hb4⟩;obtain ⟨g4,p4,n4,c4,rfl⟩ := hi4.form))
        | (((have := tk4);clear tk4;have z1 := (a1.drew.below hb4);have t1 := z1.den.raw;have a2 := (d1.drew.below hb4);have u1 := a2.num.raw;go_at_call 71;(with_reducible refine (mul_any _ _ ((((x)).den : Int)) (((y)).num) _ t1 u1 (by omega) (by omega)).mono ?_);rintro e w5 ⟨v5,rfl,hi5,hb5⟩;obtain ⟨g5,p5,n5,c5,rfl⟩ := hi5.form))
        | (((have := tk5);clear tk5;have d2 := (hi4.below hb5);have x1 := d2;have y1 := hi5;go_at_call 106;(with_reducible refine (reducedQ_any _ _ ((((x)).num) * ((((y)).den : Int))) (((((x)).den : Int)) * (((y)).num)) _ x1 y1 (by omega) (by omega) hd0).mono ?_);rintro e w6 ⟨v6,rfl,hi6,hb6⟩;obtain ⟨g6,p6,n6,c6,h6,o6,m6,e6,rfl⟩ := hi6.form;have q2_6 := (((q2_3.drew.to hb4).to hb5).to hb6);obtain ⟨q0,u0,r0,v0,s0,w0,t0,x0⟩ := q2_6.cf4)))
    have i1 := (Below.tr (Below.tr (Below.tr (Below.tr (Below.sets4 (Below.sets4 (Below.tr (Below.tr (Below.tr hB_0 hA1).drew hb1) hb2) (b := w.heap.size) (by omega) (.bool g1) (.slice p1 n1 c1) (.bool h1) (.slice o1 m1 e1)) (b := w.heap.size + 1) (by omega) (.bool g2) (.slice p2 n2 c2) (.bool h2) (.slice o2 m2 e2)) hb3).drew hb4) hb5) hb6)
    go_wp2_with fail
    exact bodyPost_ret (v := .tuple #[.agg #[.bool g6,.slice p6 n6 c6,.bool h6,.slice o6 m6 e6],.int .i64 0]) (by simp [results,Tryz.results91,go_sem,a0,e0,b0,f0,c0,g0,d0,h0,i0,m0,j0,n0,k0,o0,l0,p0,q0,u0,r0,v0,s0,w0,t0,x0]) rfl ⟨_,rfl,by rw [← HX.out];exact (hi6.sets4 q2_6 rfl rfl rfl rfl (.bool g6) (.slice p6 n6 c6) (.bool h6) (.slice o6 m6 e6)),(Below.sets4 i1 (b := w.heap.size + 1 + 1) (by omega) (.bool g6) (.slice p6 n6 c6) (.bool h6) (.slice o6 m6 e6))⟩
theorem divQ_noraw (v u : Value) (o1 o2 : Bool) (x y : Rat) (w : World) (h1 : QRaw w v o1 x) (h2 : QRaw w u o2 y) (n1 : Qn v 400000000) (n2 : Qn u 400000000) (hy : y = 0) :
    Calls Tryz.prog 91 #[v,u] w (GNoQ 14 w) := by
  obtain ⟨b,p,n,c,d,o,m,e,rfl⟩ := h1.form
  obtain ⟨f,i,j,k,g,r,t,a,rfl⟩ := h2.form
  have hl := h1.rsz_le n1 (by omega)
  have hl2 := h2.rsz_le n2 (by omega)
  have m1 := n1.up (show 400000000 ≤ 1000000000 by omega)
  have m2 := n2.up (show 400000000 ≤ 1000000000 by omega)
  have b1 := rsz_num x
  have b2 := rsz_den x
  have b3 := rsz_num y
  have b4 := rsz_den y
  have hsg2 : (sgn y.num == 0) = true := by rw [hy];rfl
  clear hy
  have hB_0 : Below w.heap.size w w := Below.refl _ _
  go_enter Tryz.func91,Tryz.ntmps91
  go_wp2_with fail
  obtain ⟨hA1,y0,z0,d1⟩ := bx3 w rfl [.bool b,.slice p n c,.bool d,.slice o m e] 30 [.bool f,.slice i j k,.bool g,.slice r t a] 30 [.bool false,.slice none 0 0,.bool false,.slice none 0 0] 30
  obtain ⟨k1,y1,q1,a2,s1,f2,u1,j2⟩ := y0.drew.cf4
  obtain ⟨l2,e3,s2,g3,x2,i3,a3,k3⟩ := z0.drew.cf4
  have tk1 : True := trivial
  have tk2 : True := trivial
  go_region_with
    (first
      | (((have := tk1);clear tk1;have f1 := (h1.below hA1).drew;go_at_call 105;(with_reducible refine (valueQ_raw _ _ (x) _ f1 m1).mono ?_);rintro e w1 ⟨v1,rfl,hi1,hb1⟩;obtain ⟨g1,p1,n1,c1,h1,o1,m1,e1,rfl⟩ := hi1.form;have q1_1 := (z0.drew.to hb1);obtain ⟨q2,f3,t2,h3,y2,j3,c3,l3⟩ := q1_1.cf4;have q0_1 := (y0.drew.to hb1);obtain ⟨l1,z1,r1,d2,t1,i2,x1,k2⟩ := q0_1.cf4))
      | (((have := tk2);clear tk2;have h2_1 := ((h2.below hA1).drew.below hb1);have i1 := h2_1;go_at_call 105;(with_reducible refine (valueQ_raw _ _ (y) _ i1 m2).mono ?_);rintro e w2 ⟨v2,rfl,hi2,hb2⟩;obtain ⟨g2,p2,n2,c2,h2,o2,m2,e2,rfl⟩ := hi2.form;have q0_2 := (q0_1.to hb2);obtain ⟨a0,e0,b0,f0,c0,g0,d0,h0⟩ := q0_2.cf4;have q1_2 := (q1_1.to hb2);obtain ⟨i0,m0,j0,n0,k0,o0,l0,p0⟩ := q1_2.cf4)))
  all_goals
    obtain ⟨r2,u2,z2,d3⟩ := ((q1_2.other4 (b := w.heap.size) (by omega) (.bool g1) (.slice p1 n1 c1) (.bool h1) (.slice o1 m1 e1)).store4 (.bool g2) (.slice p2 n2 c2) (.bool h2) (.slice o2 m2 e2)).cs4
    go_wp2_with fail
    have j1 := ((hi2.sets4 q0_2 rfl rfl rfl rfl (.bool g1) (.slice p1 n1 c1) (.bool h1) (.slice o1 m1 e1)).sets4 (q1_2.other4 (b := w.heap.size) (by omega) (.bool g1) (.slice p1 n1 c1) (.bool h1) (.slice o1 m1 e1)) rfl rfl rfl rfl (.bool g2) (.slice p2 n2 c2) (.bool h2) (.slice o2 m2 e2)).num.raw
    (with_reducible refine (signI_any _ (((y)).num) _ j1).mono ?_)
    rintro e w3 ⟨rfl,hb3⟩
    have q2_3 := (((((d1.drew.to hb1).to hb2).other4 (b := w.heap.size) (by omega) (.bool g1) (.slice p1 n1 c1) (.bool h1) (.slice o1 m1 e1)).other4 (b := w.heap.size + 1) (by omega) (.bool g2) (.slice p2 n2 c2) (.bool h2) (.slice o2 m2 e2)).to hb3)
    obtain ⟨q0,u0,r0,v0,s0,w0,t0,x0⟩ := q2_3.cf4
    have a1 := (Below.tr (Below.sets4 (Below.sets4 (Below.tr (Below.tr (Below.tr hB_0 hA1).drew hb1) hb2) (b := w.heap.size) (by omega) (.bool g1) (.slice p1 n1 c1) (.bool h1) (.slice o1 m1 e1)) (b := w.heap.size + 1) (by omega) (.bool g2) (.slice p2 n2 c2) (.bool h2) (.slice o2 m2 e2)) hb3)
    go_wp2_with fail
    exact bodyPost_ret (v := .tuple #[.agg #[.bool false,.slice none 0 0,.bool false,.slice none 0 0],.int .i64 14]) (by simp [results,Tryz.results91,go_sem,a0,e0,b0,f0,c0,g0,d0,h0,i0,m0,j0,n0,k0,o0,l0,p0,q0,u0,r0,v0,s0,w0,t0,x0]) rfl ⟨rfl,(Below.sets4 a1 (b := w.heap.size + 1 + 1) (by omega) (.bool false) (.slice none 0 0) (.bool false) (.slice none 0 0))⟩
theorem compareQ_raw (v u : Value) (o1 o2 : Bool) (x y : Rat) (w : World) (h1 : QRaw w v o1 x) (h2 : QRaw w u o2 y) (n1 : Qn v 400000000) (n2 : Qn u 400000000) :
    Calls Tryz.prog 90 #[v,u] w (fun e w' => e = .returned (.int .i64 (cmpQ x y)) ∧ Below w.heap.size w w') := by
  obtain ⟨b,p,n,c,d,o,m,e,rfl⟩ := h1.form
  obtain ⟨f,i,j,k,g,r,t,a,rfl⟩ := h2.form
  have hl := h1.rsz_le n1 (by omega)
  have hl2 := h2.rsz_le n2 (by omega)
  have m1 := n1.up (show 400000000 ≤ 1000000000 by omega)
  have m2 := n2.up (show 400000000 ≤ 1000000000 by omega)
  have b1 := rsz_num x
  have b2 := rsz_den x
  have b3 := rsz_num y
  have b4 := rsz_den y
  have c1 := isz_mul x.num y.den
  have c2 := isz_mul y.num x.den
  have hB_0 : Below w.heap.size w w := Below.refl _ _
  go_enter Tryz.func90,Tryz.ntmps90
  go_wp2_with fail
  obtain ⟨hA1,a0,b0⟩ := bx2 w rfl [.bool b,.slice p n c,.bool d,.slice o m e] 30 [.bool f,.slice i j k,.bool g,.slice r t a] 30
  obtain ⟨p0,d1,s0,j1,v0,q1,y0,t1⟩ := a0.drew.cf4
  obtain ⟨y1,t2,d2,y2,j2,d3,q2,h3⟩ := b0.drew.cf4
  have tk1 : True := trivial
  have tk2 : True := trivial
  go_region_with
    (first
      | (((have := tk1);clear tk1;have e0 := (h1.below hA1).drew;go_at_call 105;(with_reducible refine (valueQ_raw _ _ (x) _ e0 m1).mono ?_);rintro e w1 ⟨v1,rfl,hi1,hb1⟩;obtain ⟨g1,p1,n1,c1,h1,o1,m1,e1,rfl⟩ := hi1.form;have q1_1 := (b0.drew.to hb1);obtain ⟨z1,u2,f2,z2,k2,e3,r2,i3⟩ := q1_1.cf4;have q0_1 := (a0.drew.to hb1);obtain ⟨q0,f1,t0,k1,w0,r1,z0,u1⟩ := q0_1.cf4))
      | (((have := tk2);clear tk2;have h2_1 := ((h2.below hA1).drew.below hb1);have f0 := h2_1;go_at_call 105;(with_reducible refine (valueQ_raw _ _ (y) _ f0 m2).mono ?_);rintro e w2 ⟨v2,rfl,hi2,hb2⟩;obtain ⟨g2,p2,n2,c2,h2,o2,m2,e2,rfl⟩ := hi2.form;have q0_2 := (q0_1.to hb2);obtain ⟨r0,i1,u0,l1,x0,s1,a1,x1⟩ := q0_2.cf4;have q1_2 := (q1_1.to hb2);obtain ⟨a2,x2,i2,a3,l2,f3,s2,j3⟩ := q1_2.cf4)))
  all_goals
    go_wp2_with fail
    have S0_2 := (AndS.mk (((q0_2.store4 (.bool g1) (.slice p1 n1 c1) (.bool h1) (.slice o1 m1 e1)).other4 (b := w.heap.size + 1) (by omega) (.bool g2) (.slice p2 n2 c2) (.bool h2) (.slice o2 m2 e2)).drew).bs4 (((q1_2.other4 (b := w.heap.size) (by omega) (.bool g1) (.slice p1 n1 c1) (.bool h1) (.slice o1 m1 e1)).store4 (.bool g2) (.slice p2 n2 c2) (.bool h2) (.slice o2 m2 e2)).drew).bs4)
    have tk3 : True := trivial
    have tk4 : True := trivial
    have tk5 : True := trivial
    go_region_held3 (AndS (BS4 w.heap.size (.bool g1) (.slice p1 n1 c1) (.bool h1) (.slice o1 m1 e1)) (BS4 (w.heap.size + 1) (.bool g2) (.slice p2 n2 c2) (.bool h2) (.slice o2 m2 e2))) (first | with_reducible exact S0_2 | with_reducible exact HeldK.go (AndS.hk BS4.hk BS4.hk) (by assumption) (by assumption) | (simp;done))
      (first
        | (((have := tk3);clear tk3;have c0 := (hi1.below hb2);have g0 := ((c0.sets4 q0_2 rfl rfl rfl rfl (.bool g1) (.slice p1 n1 c1) (.bool h1) (.slice o1 m1 e1)).sets4 (q1_2.other4 (b := w.heap.size) (by omega) (.bool g1) (.slice p1 n1 c1) (.bool h1) (.slice o1 m1 e1)) rfl rfl rfl rfl (.bool g2) (.slice p2 n2 c2) (.bool h2) (.slice o2 m2 e2)).drew.num.raw;have h0 := ((hi2.sets4 q0_2 rfl rfl rfl rfl (.bool g1) (.slice p1 n1 c1) (.bool h1) (.slice o1 m1 e1)).sets4 (q1_2.other4 (b := w.heap.size) (by omega) (.bool g1) (.slice p1 n1 c1) (.bool h1) (.slice o1 m1 e1)) rfl rfl rfl rfl (.bool g2) (.slice p2 n2 c2) (.bool h2) (.slice o2 m2 e2)).drew.den.raw;go_at_call 71;(with_reducible refine (mul_any _ _ (((x)).num) ((((y)).den : Int)) _ g0 h0 (by omega) (by omega)).mono ?_);rintro e w3 ⟨v3,rfl,hi3,hb3⟩;obtain ⟨g3,p3,n3,c3,rfl⟩ := hi3.form))
        | (((have := tk4);clear tk4;have n0 := (((hi2.sets4 q0_2 rfl rfl rfl rfl (.bool g1) (.slice p1 n1 c1) (.bool h1) (.slice o1 m1 e1)).sets4 (q1_2.other4 (b := w.heap.size) (by omega) (.bool g1) (.slice p1 n1 c1) (.bool h1) (.slice o1 m1 e1)) rfl rfl rfl rfl (.bool g2) (.slice p2 n2 c2) (.bool h2) (.slice o2 m2 e2)).drew.below hb3);have i0 := n0.num.raw;have m0 := (((c0.sets4 q0_2 rfl rfl rfl rfl (.bool g1) (.slice p1 n1 c1) (.bool h1) (.slice o1 m1 e1)).sets4 (q1_2.other4 (b := w.heap.size) (by omega) (.bool g1) (.slice p1 n1 c1) (.bool h1) (.slice o1 m1 e1)) rfl rfl rfl rfl (.bool g2) (.slice p2 n2 c2) (.bool h2) (.slice o2 m2 e2)).drew.below hb3);have j0 := m0.den.raw;go_at_call 71;(with_reducible refine (mul_any _ _ (((y)).num) ((((x)).den : Int)) _ i0 j0 (by omega) (by omega)).mono ?_);rintro e w4 ⟨v4,rfl,hi4,hb4⟩;obtain ⟨g4,p4,n4,c4,rfl⟩ := hi4.form))
        | (((have := tk5);clear tk5;have o0 := (hi3.below hb4);have k0 := o0.raw;have l0 := hi4.raw;go_at_call 132;(with_reducible refine (compareI_any _ _ ((((x)).num) * ((((y)).den : Int))) ((((y)).num) * ((((x)).den : Int))) _ k0 l0).mono ?_);rintro e w5 ⟨rfl,hb5⟩)))
    have d0 := (Below.tr (Below.tr (Below.tr (Below.sets4 (Below.sets4 (Below.tr (Below.tr (Below.tr hB_0 hA1).drew hb1) hb2) (b := w.heap.size) (by omega) (.bool g1) (.slice p1 n1 c1) (.bool h1) (.slice o1 m1 e1)) (b := w.heap.size + 1) (by omega) (.bool g2) (.slice p2 n2 c2) (.bool h2) (.slice o2 m2 e2)).drew hb3) hb4) hb5)
    go_wp2_with fail
    go_ret
    exact ⟨ret_int (cmpQ_eq x y),d0⟩
theorem compareQ_any (v u : Value) (x y : Rat) (w : World) (h1 : RQ w v x) (h2 : RQ w u y) (l1 : rsz x ≤ 400000000) (l2 : rsz y ≤ 400000000) :
    Calls Tryz.prog 90 #[v,u] w (fun e w' => e = .returned (.int .i64 (cmpQ x y)) ∧ Below w.heap.size w w') := compareQ_raw v u true true x y w h1.raw h2.raw (h1.qn l1) (h2.qn l2)
theorem divQ_ok (v u : Value) (x y : Rat) (w : World) (h1 : RQ w v x) (h2 : RQ w u y) (l1 : rsz x ≤ 400000000) (l2 : rsz y ≤ 400000000) (hy : y ≠ 0) :
    Calls Tryz.prog 91 #[v,u] w (GQC (x / y) 0 w) := divQ_okraw v u true true x y w h1.raw h2.raw (h1.qn l1) (h2.qn l2) hy
end Go.Proofs.YtidfgdchcpmnfaaGreat
namespace Go.Proofs.YtidfgdchcpmnfaaGreat
open Go.RowKit
set_option maxRecDepth 100000
set_option maxHeartbeats 4000000
set_option linter.unusedSimpArgs false
set_option linter.unusedVariables false
theorem subQ_raw (v u : Value) (o1 o2 : Bool) (x y : Rat) (w : World) (fa : QRaw w v o1 x) (fb : QRaw w u o2 y) (qa : Qn v 400000000) (qb : Qn u 400000000) :
    Calls Tryz.prog 56 #[v,u] w (GQ (x - y) w) := by
  obtain ⟨b,p,n,c,d,o,m,e,rfl⟩ := fa.form
  obtain ⟨f,i,j,k,g,r,t,a,rfl⟩ := fb.form
  have hl := fa.rsz_le qa (by omega)
  have hl2 := fb.rsz_le qb (by omega)
  have ma := qa.up (show 400000000 ≤ 1000000000 by omega)
  have mb := qb.up (show 400000000 ≤ 1000000000 by omega)
  have b1 := rsz_num x
  have b2 := rsz_den x
  have b3 := rsz_num y
  have b4 := rsz_den y
  have hc5 : rsz (-y) ≤ 400000000 := by rw [rsz_neg];exact hl2
  have hB_0 : Below w.heap.size w w := Below.refl _ _
  go_enter Tryz.func56,Tryz.ntmps56
  go_wp2_with fail
  obtain ⟨hA1,l0,m0,i0⟩ := bx3 w rfl [.bool b,.slice p n c,.bool d,.slice o m e] 30 [.bool f,.slice i j k,.bool g,.slice r t a] 30 [.bool false,.slice none 0 0,.bool false,.slice none 0 0] 30
  have S0_1 := (AndS.mk (l0.drew).bs4 (AndS.mk (m0.drew).bs4 (BN.of (i0.drew))))
  have j0 : HeldC (w.heap.size + 1 + 1) (AndS (BS4 w.heap.size (.bool b) (.slice p n c) (.bool d) (.slice o m e)) (AndS (BS4 (w.heap.size + 1) (.bool f) (.slice i j k) (.bool g) (.slice r t a)) (BN (w.heap.size + 1 + 1)))) := (AndS.hc (BS4.hc (by omega)) (AndS.hc (BS4.hc (by omega)) BN.hc))
  have tk1 : True := trivial
  have tk2 : True := trivial
  go_region_held3 (AndS (BS4 w.heap.size (.bool b) (.slice p n c) (.bool d) (.slice o m e)) (AndS (BS4 (w.heap.size + 1) (.bool f) (.slice i j k) (.bool g) (.slice r t a)) (BN (w.heap.size + 1 + 1)))) (first | with_reducible exact S0_1 | with_reducible exact HeldK.go (AndS.hk BS4.hk (AndS.hk BS4.hk BN.hk)) (by assumption) (by assumption) | with_reducible exact HeldC.go4 j0 (by assumption) | (simp;done))
    (first
      | (((have := tk1);clear tk1;have n0 := (fb.below hA1).drew;go_at_call 108;(with_reducible refine (negQ_raw _ _ (y) _ n0 mb).mono ?_);rintro e w1 ⟨v1,rfl,hi1,hb1⟩;obtain ⟨g1,p1,n1,c1,h1,o1,m1,e1,rfl⟩ := hi1.form))
      | (((have := tk2);clear tk2;have fa_1 := ((fa.below hA1).drew.below hb1);have o0 := fa_1;have p0 := hi1.raw;go_at_call 52;(with_reducible refine (addQ_raw _ _ _ _ (x) (-(y)) _ o0 p0 qa (RQ.qn hi1 hc5)).mono ?_);rintro e w2 ⟨v2,rfl,hi2,hb2⟩;obtain ⟨g2,p2,n2,c2,h2,o2,m2,e2,rfl⟩ := hi2.form;have q2_2 := ((i0.drew.to hb1).to hb2);obtain ⟨a0,e0,b0,f0,c0,g0,d0,h0⟩ := q2_2.cf4)))
  have k0 := (Below.tr (Below.tr (Below.tr hB_0 hA1).drew hb1) hb2)
  go_wp2_with fail
  exact bodyPost_ret (v := .agg #[.bool g2,.slice p2 n2 c2,.bool h2,.slice o2 m2 e2]) (by simp [results,Tryz.results56,go_sem,a0,e0,b0,f0,c0,g0,d0,h0]) rfl ⟨_,rfl,by rw [Rat.sub_eq_add_neg];exact (hi2.sets4 q2_2 rfl rfl rfl rfl (.bool g2) (.slice p2 n2 c2) (.bool h2) (.slice o2 m2 e2)),(Below.sets4 k0 (b := w.heap.size + 1 + 1) (by omega) (.bool g2) (.slice p2 n2 c2) (.bool h2) (.slice o2 m2 e2))⟩
theorem subQ_any (v u : Value) (x y : Rat) (w : World) (h1 : RQ w v x) (h2 : RQ w u y) (l1 : rsz x ≤ 400000000) (l2 : rsz y ≤ 400000000) :
    Calls Tryz.prog 56 #[v,u] w (GQ (x - y) w) := subQ_raw v u true true x y w h1.raw h2.raw (h1.qn l1) (h2.qn l2)
end Go.Proofs.YtidfgdchcpmnfaaGreat
namespace Go.Proofs.YtidfgdchcpmnfaaGreat
open Go.RowKit
set_option maxRecDepth 100000
set_option maxHeartbeats 8000000
set_option linter.unusedSimpArgs false
set_option linter.unusedVariables false
def dotQ (e f : Nat → Rat) : Nat → Rat
  | 0 => 0
  | k + 1 => dotQ e f k + e k * f k
theorem dotQ_rsz {e f : Nat → Rat} {K : Nat} : ∀ k,(∀ i,i < k → rsz (e i) ≤ K ∧ rsz (f i) ≤ K) → rsz (dotQ e f k) ≤ k * (2 * K + 1) + 1
  | 0,_ => by show rsz 0 ≤ _;rw [rsz_zero];omega
  | k + 1,h => by
    have ih := dotQ_rsz k (fun i hi => h i (by omega))
    have h1 := rsz_mul (e k) (f k)
    have h2 := rsz_add (dotQ e f k) (e k * f k)
    have h3 := h k (by omega)
    show rsz (dotQ e f k + e k * f k) ≤ _
    rw [Nat.succ_mul]
    omega
theorem num_ne {q : Rat} (h : q ≠ 0) : (sgn q.num == 0) = false := by
  have := sgn_ne (fun e => h (Rat.num_eq_zero.1 e));simpa using this
theorem num_ne' {q : Rat} (h : q ≠ 0) : (sgn q.num != 0) = true := by
  have := sgn_ne (fun e => h (Rat.num_eq_zero.1 e));simpa using this
theorem cellB {m : Nat} {w w' : World} {b o : Nat} {v : Value} (h : Below m w w') (hb : b < m) (hc : w.cell? ⟨b,o,none⟩ = some v) : w'.cell? ⟨b,o,none⟩ = some v := by
  rw [(bcell h).1 _ _ hb];exact hc
theorem dot_any (pa pb : Option Addr) (n ca cb K : Nat) (e f : Nat → Rat) (w : World) (ha : RowQ w (.slice pa n ca) n K e) (hb : RowQ w (.slice pb n cb) n K f) (hK : n * (2 * K + 1) + K ≤ 99999999) :
    Calls Tryz.prog 144 #[.slice pa n ca,.slice pb n cb] w (GQ (dotQ e f n) w) := by
  obtain ⟨_,_,he,h1,h2⟩ := ha.form
  cases he
  obtain ⟨_,_,he,h3,h4⟩ := hb.form
  cases he
  have HS : Hid (∀ k,k ≤ n → rsz (dotQ e f k) ≤ 100000000) := Lib.hid (fun k hk => by
    have hle : k * (2 * K + 1) ≤ n * (2 * K + 1) := Nat.mul_le_mul_right _ hk
    exact Nat.le_trans (dotQ_rsz k (fun i hi => ⟨(ha.rsz (by omega)),(hb.rsz (by omega))⟩)) (by omega))
  have hK2 : K ≤ 99999999 := by omega
  clear hK
  have hB_0 : Below w.heap.size w w := Below.refl _ _
  go_enter Tryz.func144,Tryz.ntmps144
  go_wp2_with fail
  (with_reducible refine (wholeQ_any _ _ (by omega) (by omega)).mono ?_)
  rintro e w1 ⟨v1,rfl,hi1,hb1⟩
  obtain ⟨g1,p1,n1,c1,h1,o1,m1,e1,rfl⟩ := hi1.form
  obtain ⟨hA1,b0⟩ := bx1 w rfl [.bool false,.slice none 0 0,.bool false,.slice none 0 0] 30
  have q0_1 := (b0.to hb1)
  have w2 := (q0_1).1
  obtain ⟨hA2,l1⟩ := bx1 w1 rfl [.bool g1,.slice p1 n1 c1,.bool h1,.slice o1 m1 e1] 30
  have l0 := (Below.tr (Below.tr hB_0 hA1) hb1)
  go_wp2_with fail
  have hQS : w.heap.size < w1.heap.size := by have a1 := hb1.size;simp only [World.size_alloc] at a1;omega
  go_loopw [11,6,7,12,13,14,15,16,17,18,19,20,21,22,23,24,25,26,27,28,29,30,31,32,33,34,35] (fun i _ _ _ _ _ _ _ _ _ _ _ _ _ _ _ _ _ _ _ _ _ _ _ _ _ _ wr => ∃ (k : Nat) (sg sh : Bool) (sp so : Option Addr) (sn sc sm se : Nat),k ≤ n ∧ i = .int .i64 (k : Nat) ∧ Bx wr w.heap.size [.bool false,.slice none 0 0,.bool false,.slice none 0 0] ∧ Bx wr (w1.heap.size) [.bool sg,.slice sp sn sc,.bool sh,.slice so sm se] ∧ RQ wr (.agg #[.bool sg,.slice sp sn sc,.bool sh,.slice so sm se]) (dotQ e f k) ∧ Below w.heap.size w wr) (fun i _ _ _ _ _ _ _ _ _ _ _ _ _ _ _ _ _ _ _ _ _ _ _ _ _ _ _ => n - (intOf i).toNat)
  case atStart => exact ⟨0,_,_,_,_,_,_,_,_,by omega,rfl,(q0_1.to hA2),l1,(hi1.below hA2),(Below.tr l0 hA2)⟩
  case round =>
    obtain ⟨k,sg,sh,sp,so,sn,sc,sm,se,hk,rfl,hqr,hqs,hs,hB⟩ := hrel
    have hzB := hB.size
    have hlqr := hqr.1
    have hlqs := hqs.1
    by_cases hlt : k < n
    · obtain ⟨ba,oa,xg,xp,xn,xc,xh,xo,xm,xe,rfl,hla,xc0,xc1,xc2,xc3,hxq,hxn⟩ := (ha.below hB).at_ hlt
      obtain ⟨bb,ob,yg,yp,yn,yc,yh,yo,ym,ye,rfl,hlb,yc0,yc1,yc2,yc3,hyq,hyn⟩ := (hb.below hB).at_ hlt
      have hW : Below wr.heap.size wr wr := Below.refl _ _
      have hx := hxq.rq
      have hy := hyq.rq
      have lx := hx.rsz_le hxn
      have ly := hy.rsz_le hyn
      have ls : rsz (dotQ e f k) ≤ 100000000 := HS.out k (by omega)
      have lxy := rsz_mul (e k) (f k)
      have hkd : decide (k < n) = true := by simpa using hlt
      by_cases hx0 : e k = 0
      · have HD : Hid (dotQ e f (k + 1) = dotQ e f k) := Lib.hid (by show dotQ e f k + e k * f k = _;rw [hx0];grind)
        have hsg : (sgn (e k).num == 0) = true := by rw [hx0];rfl
        have hsg2 : (sgn (e k).num != 0) = false := by rw [hx0];rfl
        have HX0 := Lib.hid hx0
        clear hx0
        go_wp2_with fail
        obtain ⟨hA1,b0⟩ := bx1 wr rfl [.bool xg,.slice xp xn xc,.bool xh,.slice xo xm xe] 30
        have a0 := (hx.below hA1)
        (with_reducible refine (signQ_any _ (e k) _ a0 (by omega)).mono ?_)
        rintro e w11 ⟨rfl,hb11⟩
        have qr_1 := ((hqr.to hA1).to hb11)
        have qs_1 := ((hqs.to hA1).to hb11)
        have hs_1 := ((hs.below hA1).below hb11)
        have hB_1 := (Below.tr (Below.tr hB hA1) hb11)
        go_wp2_with fail
        go_roundw
        case rel => exact ⟨k + 1,_,_,_,_,_,_,_,_,by omega,by go_num,qr_1,qs_1,by rw [HD.out];exact hs_1,hB_1⟩
        case measure => simp [intOf];omega
      · have hsg := num_ne hx0
        have hsg2 := num_ne' hx0
        have HX0 := Lib.hid hx0
        clear hx0
        by_cases hy0 : f k = 0
        · have HD : Hid (dotQ e f (k + 1) = dotQ e f k) := Lib.hid (by show dotQ e f k + e k * f k = _;rw [hy0];grind)
          have hsh : (sgn (f k).num == 0) = true := by rw [hy0];rfl
          have hsh2 : (sgn (f k).num != 0) = false := by rw [hy0];rfl
          have HY0 := Lib.hid hy0
          clear hy0
          go_wp2_with fail
          obtain ⟨hA1,b0⟩ := bx1 wr rfl [.bool xg,.slice xp xn xc,.bool xh,.slice xo xm xe] 30
          have a0 := (hx.below hA1)
          (with_reducible refine (signQ_any _ (e k) _ a0 (by omega)).mono ?_)
          rintro e w11 ⟨rfl,hb11⟩
          have hW_1 := (Below.tr (Below.tr hW hA1) hb11)
          have hKB1 := hW_1
          have q0 := cellB hKB1 hlb yc0
          have s0 := cellB hKB1 hlb yc1
          have u0 := cellB hKB1 hlb yc2
          have w0 := cellB hKB1 hlb yc3
          go_wp2_with fail
          have hy_1 := ((hy.below hA1).below hb11)
          have c0 := hy_1
          (with_reducible refine (signQ_any _ (f k) _ c0 (by omega)).mono ?_)
          rintro e w12 ⟨rfl,hb12⟩
          have hW_2 := (Below.tr hW_1 hb12)
          have hKB2 := hW_2
          have r0 := cellB hKB2 hlb yc0
          have t0 := cellB hKB2 hlb yc1
          have v0 := cellB hKB2 hlb yc2
          have x0 := cellB hKB2 hlb yc3
          have qr_2 := (((hqr.to hA1).to hb11).to hb12)
          have qs_2 := (((hqs.to hA1).to hb11).to hb12)
          have hs_2 := (((hs.below hA1).below hb11).below hb12)
          have hB_2 := (Below.tr (Below.tr (Below.tr hB hA1) hb11) hb12)
          go_wp2_with fail
          go_roundw
          case rel => exact ⟨k + 1,_,_,_,_,_,_,_,_,by omega,by go_num,qr_2,qs_2,by rw [HD.out];exact hs_2,hB_2⟩
          case measure => simp [intOf];omega
        · have hsh := num_ne hy0
          have hsh2 := num_ne' hy0
          have HY0 := Lib.hid hy0
          clear hy0
          go_wp2_with fail
          obtain ⟨hA1,b0⟩ := bx1 wr rfl [.bool xg,.slice xp xn xc,.bool xh,.slice xo xm xe] 30
          have a0 := (hx.below hA1)
          (with_reducible refine (signQ_any _ (e k) _ a0 (by omega)).mono ?_)
          rintro e w11 ⟨rfl,hb11⟩
          have hW_1 := (Below.tr (Below.tr hW hA1) hb11)
          have hKB1 := hW_1
          have q0 := cellB hKB1 hlb yc0
          have s0 := cellB hKB1 hlb yc1
          have u0 := cellB hKB1 hlb yc2
          have w0 := cellB hKB1 hlb yc3
          go_wp2_with fail
          have hy_1 := ((hy.below hA1).below hb11)
          have c0 := hy_1
          (with_reducible refine (signQ_any _ (f k) _ c0 (by omega)).mono ?_)
          rintro e w12 ⟨rfl,hb12⟩
          have hW_2 := (Below.tr hW_1 hb12)
          have hKB2 := hW_2
          have r0 := cellB hKB2 hlb yc0
          have t0 := cellB hKB2 hlb yc1
          have v0 := cellB hKB2 hlb yc2
          have x0 := cellB hKB2 hlb yc3
          go_wp2_with fail
          have qs_2 := (((hqs.to hA1).to hb11).to hb12)
          obtain ⟨s1,k2,y1,n2,c2,q2,g2,t2⟩ := qs_2.drew.cf4
          have q1 := ((b0.to hb11).to hb12)
          obtain ⟨y0,f1,z0,i1,b1,j1,d1,k1⟩ := q1.drew.cf4
          have tk1 : True := trivial
          have tk2 : True := trivial
          go_region_with
            (first
              | (((have := tk1);clear tk1;have hx_2 := (((hx.below hA1).below hb11).below hb12);have m0 := hx_2.drew;have hy_2 := (hy_1.below hb12);have n0 := hy_2.drew;go_at_call 53;(with_reducible refine (mulQ_any _ _ (e k) (f k) _ m0 n0 (by omega) (by omega)).mono ?_);rintro e w13 ⟨v13,rfl,hi13,hb13⟩;obtain ⟨g13,p13,n13,c13,h13,o13,m13,e13,rfl⟩ := hi13.form;have qs_3 := (qs_2.drew.to hb13);obtain ⟨t1,l2,z1,o2,d2,r2,i2,u2⟩ := qs_3.cf4))
              | (((have := tk2);clear tk2;have hs_3 := ((((hs.below hA1).below hb11).below hb12).drew.below hb13);have o0 := hs_3;have p0 := hi13;go_at_call 52;(with_reducible refine (addQ_any _ _ (dotQ e f k) ((e k) * (f k)) _ o0 p0 (by omega) (by omega)).mono ?_);rintro e w14 ⟨v14,rfl,hi14,hb14⟩;obtain ⟨g14,p14,n14,c14,h14,o14,m14,e14,rfl⟩ := hi14.form;have qs_4 := (qs_3.to hb14);obtain ⟨u1,m2,a2,p2,e2,s2,j2,v2⟩ := qs_4.cf4)))
          all_goals
            skip
            have qr_4 := (((((hqr.to hA1).to hb11).to hb12).drew.to hb13).to hb14)
            have hB_4 := (Below.tr (Below.tr (Below.tr (Below.tr (Below.tr hB hA1) hb11) hb12).drew hb13) hb14)
            go_wp2_with fail
            go_roundw
            case rel => exact ⟨k + 1,_,_,_,_,_,_,_,_,by omega,by go_num,(qr_4.other4 (b := w1.heap.size) (by omega) (.bool g14) (.slice p14 n14 c14) (.bool h14) (.slice o14 m14 e14)),(qs_4.store4 (.bool g14) (.slice p14 n14 c14) (.bool h14) (.slice o14 m14 e14)),(hi14.sets4 qs_4 rfl rfl rfl rfl (.bool g14) (.slice p14 n14 c14) (.bool h14) (.slice o14 m14 e14)),(Below.sets4 hB_4 (b := w1.heap.size) (by omega) (.bool g14) (.slice p14 n14 c14) (.bool h14) (.slice o14 m14 e14))⟩
            case measure => simp [intOf];omega
    · have he : k = n := by omega
      subst he
      have hkd : decide (k < k) = false := by simp
      obtain ⟨r1,x1,b2,f2⟩ := hqs.cs4
      obtain ⟨d0,h0,e0,i0,f0,j0,g0,k0⟩ := hqr.cf4
      go_wp2_with fail
      exact bodyPost_ret (v := .agg #[.bool sg,.slice sp sn sc,.bool sh,.slice so sm se]) (by simp [results,Tryz.results144,go_sem,d0,h0,e0,i0,f0,j0,g0,k0]) rfl ⟨_,rfl,(hs.sets4 hqr rfl rfl rfl rfl (.bool sg) (.slice sp sn sc) (.bool sh) (.slice so sm se)),(Below.sets4 hB (b := w.heap.size) (by omega) (.bool sg) (.slice sp sn sc) (.bool sh) (.slice so sm se))⟩
end Go.Proofs.YtidfgdchcpmnfaaGreat
namespace Go.Proofs.YtidfgdchcpmnfaaGreat
open Go.RowKit
set_option maxRecDepth 100000
set_option maxHeartbeats 8000000
set_option linter.unusedSimpArgs false
set_option linter.unusedVariables false
theorem MatQ.rsz {w : World} {v : Value} {R C K : Nat} {e : Nat → Nat → Rat} (h : MatQ w v R C K e) {i j : Nat} (hi : i < R) (hj : j < C) : Go.Proofs.YtidfgdchcpmnfaaGreat.rsz (e i j) ≤ K := by
  obtain ⟨p,c,rfl,_,_⟩ := h.form
  obtain ⟨b,o,q,d,_,_,_,hr⟩ := h.at_ hi
  exact hr.rsz hj
theorem MatO.base {w : World} {base base' b R C K m : Nat} {rb : Nat → Nat} {e : Nat → Nat → Rat} (h : MatO w base b R C K m rb e) (hb : base' ≤ base) : MatO w base' b R C K m rb e :=
  ⟨h.outer,Nat.le_trans hb h.hb,h.rows,fun i hi => ⟨Nat.le_trans hb (h.hrb i hi).1,(h.hrb i hi).2⟩,h.inj⟩
theorem copiedC_any (B b o R C c K i j : Nat) (e : Nat → Nat → Rat) (w : World) (hB : w.cell? ⟨B,0,none⟩ = some (.slice (some ⟨b,o,none⟩) R c)) (hBl : B < w.heap.size) (h : MatQ w (.slice (some ⟨b,o,none⟩) R c) R C K e) (hi : i < R) (hj : j < C) :
    Calls Tryz.prog 167 #[.int .i64 (i : Nat),.int .i64 (j : Nat),.pointer (some ⟨B,0,none⟩)] w (GQ (e i j) w) := by
  obtain ⟨_,_,he,h1,h2⟩ := h.form
  cases he
  obtain ⟨_,_,q,d,he,hbl,c0,hr⟩ := h.at_ hi
  cases he
  obtain ⟨_,_,he,h3,h4⟩ := hr.form
  cases he
  obtain ⟨rb,ro,g,p,n,cc,g',p',n',c',he,hrl,d0,d1,d2,d3,hq,hn⟩ := hr.at_ hj
  subst he
  have hx := hq.rq
  go_enter Tryz.func167,Tryz.ntmps167
  go_wp2_with fail
  exact bodyPost_ret (v := .agg #[.bool g,.slice p n cc,.bool g',.slice p' n' c']) (by simp [results,Tryz.results167,go_sem]) rfl ⟨_,rfl,hx.alloc _,(Below.refl _ _).alloc (Nat.le_refl _) _⟩
theorem turnedC_any (B b o R C c K i j : Nat) (e : Nat → Nat → Rat) (w : World) (hB : w.cell? ⟨B,0,none⟩ = some (.slice (some ⟨b,o,none⟩) R c)) (hBl : B < w.heap.size) (h : MatQ w (.slice (some ⟨b,o,none⟩) R c) R C K e) (hi : j < R) (hj : i < C) :
    Calls Tryz.prog 166 #[.int .i64 (i : Nat),.int .i64 (j : Nat),.pointer (some ⟨B,0,none⟩)] w (GQ (e j i) w) := by
  obtain ⟨_,_,he,h1,h2⟩ := h.form
  cases he
  obtain ⟨_,_,q,d,he,hbl,c0,hr⟩ := h.at_ hi
  cases he
  obtain ⟨_,_,he,h3,h4⟩ := hr.form
  cases he
  obtain ⟨rb,ro,g,p,n,cc,g',p',n',c',he,hrl,d0,d1,d2,d3,hq,hn⟩ := hr.at_ hj
  subst he
  have hx := hq.rq
  go_enter Tryz.func166,Tryz.ntmps166
  go_wp2_with fail
  exact bodyPost_ret (v := .agg #[.bool g,.slice p n cc,.bool g',.slice p' n' c']) (by simp [results,Tryz.results166,go_sem]) rfl ⟨_,rfl,hx.alloc _,(Below.refl _ _).alloc (Nat.le_refl _) _⟩
theorem copied_any (v : Value) (R C K : Nat) (e : Nat → Nat → Rat) (w : World) (h : MatQ w v R C K e) (hR : 0 < R) (hR2 : R ≤ 1000000) (hC2 : C ≤ 1000000) :
    Calls Tryz.prog 146 #[v] w (GMatO w.heap.size R C K e w) := by
  obtain ⟨p,c,rfl,h1,h2⟩ := h.form
  obtain ⟨b,o,q,d,rfl,hbl,c0,hr⟩ := h.at_ hR
  obtain ⟨_,_,he,h3,h4⟩ := hr.form
  cases he
  rw [Nat.add_zero] at c0
  have hB1 : Below w.heap.size w (w.alloc (.cells #[.slice (some ⟨b,o,none⟩) R c] 23)) := (Below.refl _ _).alloc (Nat.le_refl _) _
  have hM := h.below hB1
  have hcB : (w.alloc (.cells #[.slice (some ⟨b,o,none⟩) R c] 23)).cell? ⟨w.heap.size,0,none⟩ = some (.slice (some ⟨b,o,none⟩) R c) := by rw [World.cell?_alloc_at _ _ _ _ rfl];rfl
  have c1 : (w.alloc (.cells #[.slice (some ⟨b,o,none⟩) R c] 23)).cell? ⟨b,o,none⟩ = some (.slice q C d) := cellB hB1 hbl c0
  have hsz : w.heap.size < (w.alloc (.cells #[.slice (some ⟨b,o,none⟩) R c] 23)).heap.size := by simp
  have S0 : (fun w' : World => w'.cell? ⟨w.heap.size,0,none⟩ = some (.slice (some ⟨b,o,none⟩) R c) ∧ w'.cell? ⟨b,o,none⟩ = some (.slice q C d) ∧ w.heap.size < w'.heap.size) (w.alloc (.cells #[.slice (some ⟨b,o,none⟩) R c] 23)).drew := ⟨hcB,c1,hsz⟩
  have KK : ∀ A B : World,(fun w' : World => w'.cell? ⟨w.heap.size,0,none⟩ = some (.slice (some ⟨b,o,none⟩) R c) ∧ w'.cell? ⟨b,o,none⟩ = some (.slice q C d) ∧ w.heap.size < w'.heap.size) A → Below A.heap.size A B → (fun w' : World => w'.cell? ⟨w.heap.size,0,none⟩ = some (.slice (some ⟨b,o,none⟩) R c) ∧ w'.cell? ⟨b,o,none⟩ = some (.slice q C d) ∧ w.heap.size < w'.heap.size) B := by
    rintro A B ⟨k0,k1,k2⟩ hb
    have hs := hb.size
    exact ⟨cellB hb (by omega) k0,cellB hb (by omega) k1,by omega⟩
  have hbl1 : b < (w.alloc (.cells #[.slice (some ⟨b,o,none⟩) R c] 23)).heap.size := by simp;omega
  have hF : ∀ (i j : Nat) (w' : World),i < R → j < C → Below (w.alloc (.cells #[.slice (some ⟨b,o,none⟩) R c] 23)).drew.heap.size (w.alloc (.cells #[.slice (some ⟨b,o,none⟩) R c] 23)).drew w' → Calls Tryz.prog 167 #[.int .i64 (i : Nat),.int .i64 (j : Nat),.pointer (some ⟨w.heap.size,0,none⟩)] w' (GQ (e i j) w') := fun i j w' hi hj hb =>
    copiedC_any w.heap.size b o R C c K i j e w' (cellB hb hsz hcB) (Nat.lt_of_lt_of_le hsz hb.size) ((hM.below (Below.refl _ _).drew).below hb) hi hj
  have hT := made1_any R C K 167 (.pointer (some ⟨w.heap.size,0,none⟩)) e (w.alloc (.cells #[.slice (some ⟨b,o,none⟩) R c] 23)).drew (by omega) (by omega) (fun i j hi hj => h.rsz hi hj) (fun _ _ _ _ => rfl) hF
  have HT := Lib.hid hT
  clear hF hT
  have HcB := Lib.hid hcB
  have Hc1 := Lib.hid c1
  clear hcB c1
  go_enter Tryz.func146,Tryz.ntmps146
  go_wp2_with fail
  have tk1 : True := trivial
  go_region_held3 (fun w' : World => w'.cell? ⟨w.heap.size,0,none⟩ = some (.slice (some ⟨b,o,none⟩) R c) ∧ w'.cell? ⟨b,o,none⟩ = some (.slice q C d) ∧ w.heap.size < w'.heap.size) (first | with_reducible exact S0 | with_reducible exact KK _ _ (by assumption) (by assumption) | (simp;done))
    (first
      | (((have := tk1;clear tk1;(with_reducible refine HT.out.mono ?_);rintro e w1 ⟨b1,rb1,rfl,hM1,hb1⟩)))
    )
  go_wp2_with fail
  go_ret
  exact ⟨_,_,rfl,hM1.base (by simp),Below.tr hB1.drew (by simpa using hb1)⟩
theorem turned_any (v : Value) (R C K : Nat) (e : Nat → Nat → Rat) (w : World) (h : MatQ w v R C K e) (hR : 0 < R) (hR2 : R ≤ 1000000) (hC2 : C ≤ 1000000) :
    Calls Tryz.prog 140 #[v] w (GMatO w.heap.size C R K (fun i j => e j i) w) := by
  obtain ⟨p,c,rfl,h1,h2⟩ := h.form
  obtain ⟨b,o,q,d,rfl,hbl,c0,hr⟩ := h.at_ hR
  obtain ⟨_,_,he,h3,h4⟩ := hr.form
  cases he
  rw [Nat.add_zero] at c0
  have hB1 : Below w.heap.size w (w.alloc (.cells #[.slice (some ⟨b,o,none⟩) R c] 23)) := (Below.refl _ _).alloc (Nat.le_refl _) _
  have hM := h.below hB1
  have hcB : (w.alloc (.cells #[.slice (some ⟨b,o,none⟩) R c] 23)).cell? ⟨w.heap.size,0,none⟩ = some (.slice (some ⟨b,o,none⟩) R c) := by rw [World.cell?_alloc_at _ _ _ _ rfl];rfl
  have c1 : (w.alloc (.cells #[.slice (some ⟨b,o,none⟩) R c] 23)).cell? ⟨b,o,none⟩ = some (.slice q C d) := cellB hB1 hbl c0
  have hsz : w.heap.size < (w.alloc (.cells #[.slice (some ⟨b,o,none⟩) R c] 23)).heap.size := by simp
  have S0 : (fun w' : World => w'.cell? ⟨w.heap.size,0,none⟩ = some (.slice (some ⟨b,o,none⟩) R c) ∧ w'.cell? ⟨b,o,none⟩ = some (.slice q C d) ∧ w.heap.size < w'.heap.size) (w.alloc (.cells #[.slice (some ⟨b,o,none⟩) R c] 23)).drew := ⟨hcB,c1,hsz⟩
  have KK : ∀ A B : World,(fun w' : World => w'.cell? ⟨w.heap.size,0,none⟩ = some (.slice (some ⟨b,o,none⟩) R c) ∧ w'.cell? ⟨b,o,none⟩ = some (.slice q C d) ∧ w.heap.size < w'.heap.size) A → Below A.heap.size A B → (fun w' : World => w'.cell? ⟨w.heap.size,0,none⟩ = some (.slice (some ⟨b,o,none⟩) R c) ∧ w'.cell? ⟨b,o,none⟩ = some (.slice q C d) ∧ w.heap.size < w'.heap.size) B := by
    rintro A B ⟨k0,k1,k2⟩ hb
    have hs := hb.size
    exact ⟨cellB hb (by omega) k0,cellB hb (by omega) k1,by omega⟩
  have hbl1 : b < (w.alloc (.cells #[.slice (some ⟨b,o,none⟩) R c] 23)).heap.size := by simp;omega
  have hF : ∀ (i j : Nat) (w' : World),i < C → j < R → Below (w.alloc (.cells #[.slice (some ⟨b,o,none⟩) R c] 23)).drew.heap.size (w.alloc (.cells #[.slice (some ⟨b,o,none⟩) R c] 23)).drew w' → Calls Tryz.prog 166 #[.int .i64 (i : Nat),.int .i64 (j : Nat),.pointer (some ⟨w.heap.size,0,none⟩)] w' (GQ ((fun i j => e j i) i j) w') := fun i j w' hi hj hb =>
    turnedC_any w.heap.size b o R C c K i j e w' (cellB hb hsz hcB) (Nat.lt_of_lt_of_le hsz hb.size) ((hM.below (Below.refl _ _).drew).below hb) hj hi
  have hT := made1_any C R K 166 (.pointer (some ⟨w.heap.size,0,none⟩)) (fun i j => e j i) (w.alloc (.cells #[.slice (some ⟨b,o,none⟩) R c] 23)).drew (by omega) (by omega) (fun i j hi hj => h.rsz hj hi) (fun _ _ _ _ => rfl) hF
  have HT := Lib.hid hT
  clear hF hT
  have HcB := Lib.hid hcB
  have Hc1 := Lib.hid c1
  clear hcB c1
  go_enter Tryz.func140,Tryz.ntmps140
  go_wp2_with fail
  have tk1 : True := trivial
  go_region_held3 (fun w' : World => w'.cell? ⟨w.heap.size,0,none⟩ = some (.slice (some ⟨b,o,none⟩) R c) ∧ w'.cell? ⟨b,o,none⟩ = some (.slice q C d) ∧ w.heap.size < w'.heap.size) (first | with_reducible exact S0 | with_reducible exact KK _ _ (by assumption) (by assumption) | (simp;done))
    (first
      | (((have := tk1;clear tk1;(with_reducible refine HT.out.mono ?_);rintro e w1 ⟨b1,rb1,rfl,hM1,hb1⟩)))
    )
  go_wp2_with fail
  go_ret
  exact ⟨_,_,rfl,hM1.base (by simp),Below.tr hB1.drew (by simpa using hb1)⟩
end Go.Proofs.YtidfgdchcpmnfaaGreat
namespace Go.Proofs.YtidfgdchcpmnfaaGreat
open Go.RowKit
set_option linter.unusedSimpArgs false
set_option linter.unusedVariables false
set_option maxRecDepth 20000
def NU (w : World) (g : Nat) : Prop := ∀ i u,w.cell? ⟨g,i,none⟩ = some u → notU32 u = true
theorem Rd.grown {w w' : World} {s : Value} {l : List Nat} (h : Rd w s l) {g : Nat} (hg : w.grownBy w' (some g)) (hn : NU w g) : Rd w' s l := by
  rcases h with h | ⟨b,o,c,h1,h2,h3,h4,h5⟩
  · exact .inl h
  · refine .inr ⟨b,o,c,h1,h2,h3,Nat.lt_of_lt_of_le h4 hg.size,fun i hi => ?_⟩
    have hc := h5 i hi
    have hne : b ≠ g := fun e => by
      subst e
      have := hn _ _ hc
      simp [notU32] at this
    rw [World.cell?_of_block (w := w) (hg.block b h4 (by simpa using hne))]
    exact hc
theorem RawV.grown {w w' : World} {v : Value} {ok : Bool} {x : Int} (h : RawV w v ok x) {g : Nat} (hg : w.grownBy w' (some g)) (hn : NU w g) : RawV w' v ok x := by
  obtain ⟨neg,s,l,k1,k2,k3,k4⟩ := h;exact ⟨neg,s,l,k1,k2.grown hg hn,k3,k4⟩
theorem RInt.grown {w w' : World} {v : Value} {x : Int} (h : RInt w v x) {g : Nat} (hg : w.grownBy w' (some g)) (hn : NU w g) : RInt w' v x := by
  obtain ⟨s,k1,k2⟩ := h;exact ⟨s,k1,k2.grown hg hn⟩
theorem RQ.grown {w w' : World} {v : Value} {q : Rat} (h : RQ w v q) {g : Nat} (hg : w.grownBy w' (some g)) (hn : NU w g) : RQ w' v q := by
  obtain ⟨b,s,c,t,e,k1,k2⟩ := h;exact ⟨b,s,c,t,e,k1.grown hg hn,k2.grown hg hn⟩
theorem QRaw.grown {w w' : World} {v : Value} {ok : Bool} {q : Rat} (h : QRaw w v ok q) {g : Nat} (hg : w.grownBy w' (some g)) (hn : NU w g) : QRaw w' v ok q := by
  obtain ⟨b,s,c,t,o1,o2,m,d,e,k1,k2,k3⟩ := h;exact ⟨b,s,c,t,o1,o2,m,d,e,k1.grown hg hn,k2.grown hg hn,k3⟩
theorem QC.grown {w w' : World} {u0 u1 u2 u3 : Value} {K : Nat} {ok : Bool} {q : Rat} (h : QC w u0 u1 u2 u3 K ok q) {g : Nat} (hg : w.grownBy w' (some g)) (hn : NU w g) : QC w' u0 u1 u2 u3 K ok q := by
  obtain ⟨g',p,n,c,h,p',n',c',e0,e1,e2,e3,hq,k⟩ := h
  exact ⟨g',p,n,c,h,p',n',c',e0,e1,e2,e3,hq.grown hg hn,k⟩
theorem RowO.nu {w : World} {b n K : Nat} {ok : Nat → Bool} {e : Nat → Rat} (h : RowO w b n K ok e) : NU w b := by
  obtain ⟨f,h1,h2⟩ := h
  intro i u hc
  obtain ⟨c,hb,hs,hcs⟩ := h1
  have hi : i < n * 4 := by
    rcases Nat.lt_or_ge i (n * 4) with h | h
    · exact h
    · exfalso
      simp [World.cell?,hb,Array.getElem?_eq_none (by omega : c.size ≤ i)] at hc
  have h1 : w.cell? ⟨b,i,none⟩ = some (f i) := by simp [World.cell?,hb,hcs i hi]
  rw [h1] at hc
  cases hc
  have N := (h2 (i / 4) (by omega)).nu
  obtain e | e | e | e : i = i / 4 * 4 ∨ i = i / 4 * 4 + 1 ∨ i = i / 4 * 4 + 2 ∨ i = i / 4 * 4 + 3 := by omega
  · rw [e];exact N.1
  · rw [e];exact N.2.1
  · rw [e];exact N.2.2.1
  · rw [e];exact N.2.2.2
theorem RowO.grown {w w' : World} {b n K : Nat} {ok : Nat → Bool} {e : Nat → Rat} (h : RowO w b n K ok e) {g : Nat} (hne : b ≠ g) (hg : w.grownBy w' (some g)) (hn : NU w g) : RowO w' b n K ok e := by
  obtain ⟨f,h1,h2⟩ := h
  exact ⟨f,h1.of_block (hg.block b h1.lt (by simpa using hne)),fun j hj => (h2 j hj).grown hg hn⟩
theorem RowO.mono {w : World} {b n K K' : Nat} {ok : Nat → Bool} {e : Nat → Rat} (h : RowO w b n K ok e) (hK : K ≤ K') : RowO w b n K' ok e := by
  obtain ⟨f,h1,h2⟩ := h
  exact ⟨f,h1,fun j hj => (h2 j hj).mono hK⟩
theorem grown_below {w w1 w2 : World} {g : Nat} (h : w.grownBy w1 (some g)) (hb : Below w1.heap.size w1 w2) : w.grownBy w2 (some g) :=
  ⟨hb.os.trans h.os,hb.tape.trans h.tape,hb.output.trans h.output,Nat.le_trans h.size hb.size,fun k hk hne => (hb.block k (Nat.lt_of_lt_of_le hk h.size)).trans (h.block k hk hne)⟩
theorem grown_refl (w : World) (g : Nat) : w.grownBy w (some g) := ⟨rfl,rfl,rfl,Nat.le_refl _,fun _ _ _ => rfl⟩
theorem grown_set {w w1 : World} {g : Nat} (h : w.grownBy w1 (some g)) (o : Nat) (x : Value) : w.grownBy (w1.setCell ⟨g,o,none⟩ x) (some g) :=
  ⟨h.os,h.tape,h.output,by simpa [World.setCell] using h.size,fun k hk hne => (Below.heap_setCell w1 _ x k (fun e => hne (by rw [e]))).trans (h.block k hk hne)⟩
theorem grown_set4 {w w1 : World} {g : Nat} (h : w.grownBy w1 (some g)) (o : Nat) (x0 x1 x2 x3 : Value) : w.grownBy (st4 w1 g o x0 x1 x2 x3) (some g) :=
  grown_set (grown_set (grown_set (grown_set h _ _) _ _) _ _) _ _
theorem MatO.mono {w : World} {base b R C K K' m : Nat} {rb : Nat → Nat} {e : Nat → Nat → Rat} (h : MatO w base b R C K m rb e) (hK : K ≤ K') : MatO w base b R C K' m rb e :=
  ⟨h.outer,h.hb,fun i hi => (h.rows i hi).mono hK,h.hrb,h.inj⟩
theorem MatO.row {w w' : World} {base b R C K : Nat} {rb : Nat → Nat} {e : Nat → Nat → Rat} (h : MatO w base b R C K R rb e) {i : Nat} (hi : i < R) (hg : w.grownBy w' (some (rb i))) {x : Nat → Rat} (hr : RowO w' (rb i) C K (fun _ => true) x) : MatO w' base b R C K R rb (fun r => if r = i then x else e r) := by
  have hn := (h.rows i hi).nu
  refine ⟨h.outer.of_block (hg.block b h.outer.lt (fun e1 => (h.hrb i hi).2 (by simpa using e1.symm))),h.hb,fun r hr' => ?_,h.hrb,h.inj⟩
  by_cases e1 : r = i
  · subst e1;simp only [if_true];exact hr
  · simp only [if_neg e1]
    exact (h.rows r hr').grown (fun e2 => e1 (h.inj r i hr' hi e2)) hg hn
end Go.Proofs.YtidfgdchcpmnfaaGreat
namespace Go.Proofs.YtidfgdchcpmnfaaGreat
open Go Go.RowKit
set_option linter.unusedSimpArgs false
set_option linter.unusedVariables false
set_option maxRecDepth 20000
def CA (p : Value → Bool) (w : World) (g : Nat) : Prop := ∀ i u,w.cell? ⟨g,i,none⟩ = some u → p u = true
section
variable {P : Program} {p : Value → Bool} (w : World)
def CAv (p : Value → Bool) (w : World) (v : Value) : Prop := ∀ g,v.ownBlock = some g → CA p w g
theorem CA.of_cells {p : Value → Bool} {w : World} {g : Nat} {cur : Array Value} {e : TypeId} (hg : w.heap[g]? = some (.cells cur e (0,0))) (h : ∀ u ∈ cur.toList,p u = true) : CA p w g := by
  intro i u hc
  rw [cell_of_row w g i cur e (0,0) hg] at hc
  exact h u (by rw [Array.mem_toList_iff];exact Array.mem_of_getElem? hc)
theorem CA.cells {w : World} {g : Nat} {cur : Array Value} {e : TypeId} (hg : w.heap[g]? = some (.cells cur e (0,0))) (h : CA p w g) : ∀ u ∈ cur.toList,p u = true := by
  intro u hu
  rw [Array.mem_toList_iff] at hu
  obtain ⟨i,hi,rfl⟩ := Array.mem_iff_getElem.1 hu
  exact h i _ (by rw [cell_of_row w g i cur e (0,0) hg];exact Array.getElem?_eq_getElem hi)
theorem zeroCells_ca {z : Array Value} (hz : ∀ u ∈ z.toList,p u = true) (n : Nat) : ∀ u ∈ (Builtin.zeroCells z n).toList,p u = true := by
  intro u hu
  rw [Array.mem_toList_iff] at hu
  obtain ⟨i,hi,rfl⟩ := Array.mem_iff_getElem.1 hu
  simp only [Builtin.zeroCells,Array.size_map,Array.size_range] at hi
  simp only [Builtin.zeroCells,Array.getElem_map,Array.getElem_range]
  have hs : 0 < z.size := by
    rcases Nat.eq_zero_or_pos z.size with h | h
    · rw [h] at hi;simp at hi
    · exact h
  have hlt : i % z.size < z.size := Nat.mod_lt _ hs
  rw [getElem!_pos z (i % z.size) hlt]
  exact hz _ (by rw [Array.mem_toList_iff];exact Array.getElem_mem hlt)
theorem run_append_ca (base : Nat) (t ty e : TypeId) (i : TypeInfo) (z : Value) (size bytes : Nat) (ht : P.underlying t = some (.slice e)) (hi : P.info? e = some i) (hz : i.zero = some z)
    (hsize : i.size = size) (hby : i.bytes = bytes) (hzs : z.cells.size = size) (hsz : 0 < size) (hzn : ∀ u ∈ z.cells.toList,p u = true)
    (v : Value) (n : Nat) (xs : List Value) (hown : w.ownsRow base e size v n xs) (hv : CAv p w v)
    (a : Addr) (m c : Nat) (news : List Value) (hl : news.length = m * size) (hnews : ∀ j u,news[j]? = some u → w.cell? (a.add j) = some u) (h1 : ∀ u ∈ news,u.oneCell' = true) (hnn : ∀ u ∈ news,p u = true) (hm : 0 < m)
    (h63 : n + m ≤ maxLen) (hbytes : (n + m) * bytes ≤ 140737488355328) (hbase : base ≤ w.heap.size) :
    ∃ g cap w',(Builtin.append_ #[t,t] ty #[v,.slice (some a) m c]).run P w = .ok (.slice (some ⟨g,0,none⟩) (n + m) cap) w' ∧ w'.ownsRow base e size (.slice (some ⟨g,0,none⟩) (n + m) cap) (n + m) (xs ++ news) ∧ w.grownBy w' v.ownBlock ∧ CA p w' g ∧ (v.ownBlock = some g ∨ g = w.heap.size) := by
  obtain ⟨v',w',hr,h2,h3,h4⟩ := run_append_own (P := P) w base t ty e i z size bytes ht hi hz hsize hby hzs hsz v n xs hown a m c news hl hnews h1 h63 hbytes hbase
  subst hsize
  subst hby
  have hsmall : n + m ≤ 9223372036854775807 := by simp only [maxLen] at h63;omega
  have hz0 := fun k => zeroCells_ca (z := z.cells) hzn k
  rcases hown.2 with ⟨rfl,rfl⟩ | ⟨g,cap,cur,rfl,hbg,hg,hnc,hcm,hcs,htake⟩
  · have hrun := run_append_nil (P := P) w t ty e i z ht hi hz a m c news hl hnews hm (by omega) (by have hb := hbytes;simp only [Nat.zero_add] at hb;omega)
    rw [hrun] at hr
    simp only [Result.ok.injEq] at hr
    obtain ⟨rfl,rfl⟩ := hr
    refine ⟨w.heap.size,_,_,by rw [Nat.zero_add];exact hrun,by simpa using h2,h3,?_,.inr rfl⟩
    refine CA.of_cells (heap_alloc_new w.drew _) (fun u hu => ?_)
    simp only [Array.toList_append,List.mem_append] at hu
    rcases hu with hu | hu
    · exact hnn u hu
    · exact hz0 _ u hu
  · by_cases hroom : n + m ≤ cap
    · have hfit : n * i.size + news.length ≤ cur.size := by rw [hl,hcs,← Nat.add_mul];exact Nat.mul_le_mul_right _ hroom
      have hrun := run_append_room (P := P) w t ty e i ht hi g n cap cur hg a m c news hl hnews h1 hroom hfit
      rw [hrun] at hr
      simp only [Result.ok.injEq] at hr
      obtain ⟨rfl,rfl⟩ := hr
      refine ⟨g,cap,_,hrun,h2,h3,?_,.inl rfl⟩
      have hcn := CA.cells hg (hv g rfl)
      refine CA.of_cells (setRow_heap w g cur _ e _ hg) (fun u hu => ?_)
      simp only [List.mem_append] at hu
      rcases hu with (hu | hu) | hu
      · exact hcn u (List.mem_of_mem_take hu)
      · exact hnn u hu
      · exact hcn u (List.mem_of_mem_drop hu)
    · have holds : ∀ j u,xs[j]? = some u → w.cell? ((⟨g,0,none⟩ : Addr).add j) = some u := hown.cells (g := g) rfl
      have hrun := run_append_grow (P := P) w t ty e i z ht hi hz ⟨g,0,none⟩ n cap xs hown.1 holds a m c news hl hnews (by omega) (by omega) (growslice_fits (by omega) hbytes)
      rw [hrun] at hr
      simp only [Result.ok.injEq] at hr
      obtain ⟨rfl,rfl⟩ := hr
      refine ⟨w.heap.size,_,_,hrun,h2,h3,?_,.inr rfl⟩
      have hcn := CA.cells hg (hv g rfl)
      refine CA.of_cells (heap_alloc_new w.drew _) (fun u hu => ?_)
      simp only [Array.toList_append,List.mem_append] at hu
      rcases hu with (hu | hu) | hu
      · rw [← htake] at hu;exact hcn u (List.mem_of_mem_take hu)
      · exact hnn u hu
      · exact hz0 _ u hu
end
end Go.Proofs.YtidfgdchcpmnfaaGreat
