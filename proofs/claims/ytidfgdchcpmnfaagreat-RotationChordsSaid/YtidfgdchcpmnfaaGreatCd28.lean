/-
  Lemmas for the theorem vchords_holds, part 28 of 33.
-/
import Derived.Test.YtidfgdchcpmnfaaGreatCd06
import Derived.Test.YtidfgdchcpmnfaaGreatCd12
import Derived.Test.YtidfgdchcpmnfaaGreatCd21
import Derived.Test.YtidfgdchcpmnfaaGreatCd27
namespace Go.Proofs.YtidfgdchcpmnfaaGreat
open Go.RowKit
set_option maxRecDepth 100000
set_option maxHeartbeats 4000000
set_option linter.unusedSimpArgs false
set_option linter.unusedVariables false
theorem rnewQ_ok (v u : Value) (x y : Int) (w : World) (hv : RInt w v x) (hu : RInt w u y) (hl : isz x ≤ 400000000) (hl2 : isz y ≤ 400000000) (hd : y ≠ 0) :
    Calls Tryz.prog 97 #[v,u] w (GQC (Rat.divInt x y) 0 w) := by
  obtain ⟨b,p,n,c,rfl⟩ := hv.form
  obtain ⟨d,o,m,e,rfl⟩ := hu.form
  have hsg2 : (sgn y == 0) = false := by have := sgn_ne hd;simpa using this
  have hB_0 : Below w.heap.size w w := Below.refl _ _
  go_enter Tryz.func97,Tryz.ntmps97
  go_wp2_with fail
  obtain ⟨hA1,j0,k0,l0⟩ := bx3 w rfl [.bool b,.slice p n c] 28 [.bool d,.slice o m e] 28 [.bool false,.slice none 0 0,.bool false,.slice none 0 0] 30
  have m0 := (hu.below hA1).raw
  (with_reducible refine (rsign_any _ (y) _ m0 (by omega)).mono ?_)
  rintro e w1 ⟨rfl,hb1⟩
  have q0_1 := (j0.to hb1)
  obtain ⟨p0,q0⟩ := q0_1.cs2
  have q1_1 := (k0.to hb1)
  obtain ⟨r0,s0⟩ := q1_1.cs2
  go_wp2_with fail
  have hv_1 := ((hv.below hA1).below hb1)
  have n0 := hv_1
  have hu_1 := ((hu.below hA1).below hb1)
  have o0 := hu_1
  (with_reducible refine (rreducedQ_any _ _ (x) (y) _ n0 o0 hl hl2 hd).mono ?_)
  rintro e w2 ⟨v2,rfl,hi2,hb2⟩
  obtain ⟨g2,p2,n2,c2,h2,o2,m2,e2,rfl⟩ := hi2.form
  have q2_2 := ((l0.to hb1).to hb2)
  obtain ⟨a0,e0,b0,f0,c0,g0,d0,h0⟩ := q2_2.cf4
  have i0 := (Below.tr (Below.tr (Below.tr hB_0 hA1) hb1) hb2)
  go_wp2_with fail
  exact bodyPost_ret (v := .tuple #[.agg #[.bool g2,.slice p2 n2 c2,.bool h2,.slice o2 m2 e2],.int .i64 0]) (by simp [results,Tryz.results97,go_sem,a0,e0,b0,f0,c0,g0,d0,h0]) rfl ⟨_,rfl,(hi2.sets4 q2_2 rfl rfl rfl rfl (.bool g2) (.slice p2 n2 c2) (.bool h2) (.slice o2 m2 e2)),(Below.sets4 i0 (b := w.heap.size + 1 + 1) (by omega) (.bool g2) (.slice p2 n2 c2) (.bool h2) (.slice o2 m2 e2))⟩
theorem isz_i64' {x : Int} (h0 : -9223372036854775808 ≤ x) (h1 : x ≤ 9223372036854775807) : isz x ≤ 400000000 :=
  Nat.le_trans (isz_le (k := 3) (by rw [BB_eq];omega)) (by omega)
theorem rofQ_any (i k : Int) (w : World) (h0 : -9223372036854775808 ≤ i) (h1 : i ≤ 9223372036854775807) (h2 : -9223372036854775808 ≤ k) (h3 : k ≤ 9223372036854775807) (hk : k ≠ 0) :
    Calls Tryz.prog 47 #[.int .i64 i,.int .i64 k] w (GQC (Rat.divInt i k) 0 w) := by
  have hz1 := isz_i64' h0 h1
  have hz2 := isz_i64' h2 h3
  have hB_0 : Below w.heap.size w w := Below.refl _ _
  go_enter Tryz.func47,Tryz.ntmps47
  go_wp2_with fail
  (with_reducible refine (rwhole_any _ _ (by omega) (by omega)).mono ?_)
  rintro e w1 ⟨v1,rfl,hi1,hb1⟩
  obtain ⟨g1,p1,n1,c1,rfl⟩ := hi1.form
  go_wp2_with fail
  (with_reducible refine (rwhole_any _ _ (by omega) (by omega)).mono ?_)
  rintro e w2 ⟨v2,rfl,hi2,hb2⟩
  obtain ⟨g2,p2,n2,c2,rfl⟩ := hi2.form
  go_wp2_with fail
  have n0 := (hi1.below hb2)
  have l0 := n0
  have m0 := hi2
  (with_reducible refine (rnewQ_ok _ _ (i) (k) _ l0 m0 hz1 hz2 hk).mono ?_)
  rintro e w3 ⟨v3,rfl,hi3,hb3⟩
  obtain ⟨g3,p3,n3,c3,h3,o3,m3,e3,rfl⟩ := hi3.form
  obtain ⟨hA1,k0⟩ := bx1 w rfl [.bool false,.slice none 0 0,.bool false,.slice none 0 0] 30
  have q0_3 := (((k0.to hb1).to hb2).to hb3)
  obtain ⟨a0,e0,b0,f0,c0,g0,d0,i0⟩ := q0_3.cf4
  have j0 := (Below.tr (Below.tr (Below.tr (Below.tr hB_0 hA1) hb1) hb2) hb3)
  go_wp2_with fail
  exact bodyPost_ret (v := .tuple #[.agg #[.bool g3,.slice p3 n3 c3,.bool h3,.slice o3 m3 e3],.int .i64 0]) (by simp [results,Tryz.results47,go_sem,a0,e0,b0,f0,c0,g0,d0,i0]) rfl ⟨_,rfl,(hi3.sets4 q0_3 rfl rfl rfl rfl (.bool g3) (.slice p3 n3 c3) (.bool h3) (.slice o3 m3 e3)),(Below.sets4 j0 (b := w.heap.size) (by omega) (.bool g3) (.slice p3 n3 c3) (.bool h3) (.slice o3 m3 e3))⟩
theorem rsignQ_any (v : Value) (q : Rat) (w : World) (fa : RQ w v q) (hl : rsz q ≤ 999999999) :
    Calls Tryz.prog 22 #[v] w (fun e w' => e = .returned (.int .i64 (sgn q.num)) ∧ Below w.heap.size w w') := by
  obtain ⟨b,p,n,c,d,o,m,e,rfl⟩ := fa.form
  have hb1 := rsz_num q
  have hb2 := rsz_den q
  have b0 := field_Rat_0
  have hB_0 : Below w.heap.size w w := Below.refl _ _
  go_enter Tryz.func22,Tryz.ntmps22
  go_wp2_with fail
  obtain ⟨hA1,e0⟩ := bx1 w rfl [.bool b,.slice p n c,.bool d,.slice o m e] 30
  have c0 := (fa.below hA1)
  (with_reducible refine (rvalueQ_any _ (q) _ c0 (by omega)).mono ?_)
  rintro e w1 ⟨v1,rfl,hi1,hb1⟩
  obtain ⟨g1,p1,n1,c1,h1,o1,m1,e1,rfl⟩ := hi1.form
  go_wp2_with fail
  have d0 := hi1.num.raw
  (with_reducible refine (rsign_any _ (((q)).num) _ d0 (by omega)).mono ?_)
  rintro e w2 ⟨rfl,hb2⟩
  have a0 := (Below.tr (Below.tr (Below.tr hB_0 hA1) hb1) hb2)
  go_wp2_with fail
  go_ret
  exact ⟨rfl,a0⟩
theorem rnegQ_any (v : Value) (q : Rat) (w : World) (fa : RQ w v q) (hl : rsz q ≤ 999999999) :
    Calls Tryz.prog 111 #[v] w (GQ (-q) w) := by
  obtain ⟨b,p,n,c,d,o,m,e,rfl⟩ := fa.form
  have hb1 := rsz_num q
  have hb2 := rsz_den q
  have hB_0 : Below w.heap.size w w := Below.refl _ _
  go_enter Tryz.func111,Tryz.ntmps111
  go_wp2_with fail
  obtain ⟨hA1,m0,n0⟩ := bx2 w rfl [.bool b,.slice p n c,.bool d,.slice o m e] 30 [.bool false,.slice none 0 0,.bool false,.slice none 0 0] 30
  have p0 := (fa.below hA1)
  (with_reducible refine (rvalueQ_any _ (q) _ p0 (by omega)).mono ?_)
  rintro e w1 ⟨v1,rfl,hi1,hb1⟩
  obtain ⟨g1,p1,n1,c1,h1,o1,m1,e1,rfl⟩ := hi1.form
  have q0_1 := (m0.to hb1)
  have i0 := (q0_1).1
  have q1_1 := (n0.to hb1)
  have j0 := (q1_1).1
  go_wp2_with fail
  obtain ⟨hA2,o0⟩ := bx1 w1 rfl [.bool g1,.slice p1 n1 c1,.bool h1,.slice o1 m1 e1] 30
  have S0_2 := (o0.drew).bs4
  have k0 : HeldC (w.heap.size + 1) (BS4 w1.heap.size (.bool g1) (.slice p1 n1 c1) (.bool h1) (.slice o1 m1 e1)) := (BS4.hc (by omega))
  have tk1 : True := trivial
  go_region_held3 (BS4 w1.heap.size (.bool g1) (.slice p1 n1 c1) (.bool h1) (.slice o1 m1 e1)) (first | with_reducible exact S0_2 | with_reducible exact HeldK.go BS4.hk (by assumption) (by assumption) | with_reducible exact HeldC.go4 k0 (by assumption) | (simp;done))
    (first
      | (((have := tk1);clear tk1;have q0 := (hi1.below hA2).drew.num.raw;go_at_call 126;(with_reducible refine (rneg_any _ (((q)).num) _ q0 (by omega)).mono ?_);rintro e w2 ⟨v2,rfl,hi2,hb2⟩;obtain ⟨g2,p2,n2,c2,rfl⟩ := hi2.form;have q1_2 := ((q1_1.to hA2).drew.to hb2);obtain ⟨a0,e0,b0,f0,c0,g0,d0,h0⟩ := q1_2.cf4)))
  have r0 := ((hi1.below hA2).drew.below hb2)
  have l0 := (Below.tr (Below.tr (Below.tr (Below.tr hB_0 hA1) hb1) hA2).drew hb2)
  go_wp2_with fail
  exact bodyPost_ret (v := .agg #[.bool g2,.slice p2 n2 c2,.bool h1,.slice o1 m1 e1]) (by simp [results,Tryz.results111,go_sem,i0,j0,a0,e0,b0,f0,c0,g0,d0,h0]) rfl ⟨_,rfl,RQ.mk' (hi2.sets4 q1_2 rfl rfl rfl rfl (.bool g2) (.slice p2 n2 c2) (.bool h1) (.slice o1 m1 e1)) (r0.sets4 q1_2 rfl rfl rfl rfl (.bool g2) (.slice p2 n2 c2) (.bool h1) (.slice o1 m1 e1)).den (rat_neg_num q).symm (by rw [rat_neg_den]),(Below.sets4 l0 (b := w.heap.size + 1) (by omega) (.bool g2) (.slice p2 n2 c2) (.bool h1) (.slice o1 m1 e1))⟩
theorem raddQ_any (v u : Value) (x y : Rat) (w : World) (fa : RQ w v x) (fb : RQ w u y) (hl : rsz x ≤ 190000000) (hl2 : rsz y ≤ 190000000) :
    Calls Tryz.prog 43 #[v,u] w (GQ (x + y) w) := by
  obtain ⟨b,p,n,c,d,o,m,e,rfl⟩ := fa.form
  obtain ⟨f,i,j,k,g,r,t,a,rfl⟩ := fb.form
  have hb1 := rsz_num x
  have hb2 := rsz_den x
  have hb3 := rsz_num y
  have hb4 := rsz_den y
  have hc1 := isz_mul x.num y.den
  have hc2 := isz_mul y.num x.den
  have hc3 := isz_add (x.num * y.den) (y.num * x.den)
  have hc4 := isz_mul x.den y.den
  have HX := Lib.hid (rat_add x y)
  have hd0 := den_mul_ne x y
  have hB_0 : Below w.heap.size w w := Below.refl _ _
  go_enter Tryz.func43,Tryz.ntmps43
  go_wp2_with fail
  obtain ⟨hA1,v0,w0,x0⟩ := bx3 w rfl [.bool b,.slice p n c,.bool d,.slice o m e] 30 [.bool f,.slice i j k,.bool g,.slice r t a] 30 [.bool false,.slice none 0 0,.bool false,.slice none 0 0] 30
  have a1 := (fa.below hA1)
  (with_reducible refine (rvalueQ_any _ (x) _ a1 (by omega)).mono ?_)
  rintro e w1 ⟨v1,rfl,hi1,hb1⟩
  obtain ⟨g1,p1,n1,c1,h1,o1,m1,e1,rfl⟩ := hi1.form
  have q1_1 := (w0.to hb1)
  obtain ⟨a2,b2,d2,f2⟩ := q1_1.cs4
  have q0_1 := (v0.to hb1)
  have j0 := (q0_1).1
  have l0 := (q1_1).1
  have q2_1 := (x0.to hb1)
  have n0 := (q2_1).1
  go_wp2_with fail
  have fb_1 := ((fb.below hA1).below hb1)
  obtain ⟨hA2,y0⟩ := bx1 w1 rfl [.bool g1,.slice p1 n1 c1,.bool h1,.slice o1 m1 e1] 30
  have b1 := (fb_1.below hA2)
  (with_reducible refine (rvalueQ_any _ (y) _ b1 (by omega)).mono ?_)
  rintro e w2 ⟨v2,rfl,hi2,hb2⟩
  obtain ⟨g2,p2,n2,c2,h2,o2,m2,e2,rfl⟩ := hi2.form
  have q0_2 := ((q0_1.to hA2).to hb2)
  have k0 := (q0_2).1
  have q1_2 := ((q1_1.to hA2).to hb2)
  have m0 := (q1_2).1
  have q2_2 := ((q2_1.to hA2).to hb2)
  have o0 := (q2_2).1
  have s0 := (y0.to hb2)
  have i0 := (s0).1
  go_wp2_with fail
  obtain ⟨hA3,z0⟩ := bx1 w2 rfl [.bool g2,.slice p2 n2 c2,.bool h2,.slice o2 m2 e2] 30
  have S0_3 := (AndS.mk ((s0.to hA3).drew).bs4 (z0.drew).bs4)
  have t0 : HeldC (w.heap.size + 1 + 1) (AndS (BS4 w1.heap.size (.bool g1) (.slice p1 n1 c1) (.bool h1) (.slice o1 m1 e1)) (BS4 w2.heap.size (.bool g2) (.slice p2 n2 c2) (.bool h2) (.slice o2 m2 e2))) := (AndS.hc (BS4.hc (by omega)) (BS4.hc (by omega)))
  have tk1 : True := trivial
  have tk2 : True := trivial
  have tk3 : True := trivial
  have tk4 : True := trivial
  have tk5 : True := trivial
  go_region_held3 (AndS (BS4 w1.heap.size (.bool g1) (.slice p1 n1 c1) (.bool h1) (.slice o1 m1 e1)) (BS4 w2.heap.size (.bool g2) (.slice p2 n2 c2) (.bool h2) (.slice o2 m2 e2))) (first | with_reducible exact S0_3 | with_reducible exact HeldK.go (AndS.hk BS4.hk BS4.hk) (by assumption) (by assumption) | with_reducible exact HeldC.go4 t0 (by assumption) | (simp;done))
    (first
      | (((have := tk1);clear tk1;have p0 := ((hi1.below hA2).below hb2);have d1 := (p0.below hA3).drew.num.raw;have f1 := (hi2.below hA3).drew.den.raw;go_at_call 88;(with_reducible refine (rmul_any _ _ (((x)).num) ((((y)).den : Int)) _ d1 f1 (by omega) (by omega)).mono ?_);rintro e w3 ⟨v3,rfl,hi3,hb3⟩;obtain ⟨g3,p3,n3,c3,rfl⟩ := hi3.form))
      | (((have := tk2);clear tk2;have r0 := ((hi2.below hA3).drew.below hb3);have i1 := r0.num.raw;have q0 := ((p0.below hA3).drew.below hb3);have j1 := q0.den.raw;go_at_call 88;(with_reducible refine (rmul_any _ _ (((y)).num) ((((x)).den : Int)) _ i1 j1 (by omega) (by omega)).mono ?_);rintro e w4 ⟨v4,rfl,hi4,hb4⟩;obtain ⟨g4,p4,n4,c4,rfl⟩ := hi4.form))
      | (((have := tk3);clear tk3;have y1 := (hi3.below hb4);have k1 := y1.raw;have l1 := hi4.raw;go_at_call 87;(with_reducible refine (radd_any _ _ ((((x)).num) * ((((y)).den : Int))) ((((y)).num) * ((((x)).den : Int))) _ k1 l1 (by omega) (by omega)).mono ?_);rintro e w5 ⟨v5,rfl,hi5,hb5⟩;obtain ⟨g5,p5,n5,c5,rfl⟩ := hi5.form))
      | (((have := tk4);clear tk4;have u1 := ((q0.below hb4).below hb5);have q1 := u1.den.raw;have x1 := ((r0.below hb4).below hb5);have r1 := x1.den.raw;go_at_call 88;(with_reducible refine (rmul_any _ _ ((((x)).den : Int)) ((((y)).den : Int)) _ q1 r1 (by omega) (by omega)).mono ?_);rintro e w6 ⟨v6,rfl,hi6,hb6⟩;obtain ⟨g6,p6,n6,c6,rfl⟩ := hi6.form))
      | (((have := tk5);clear tk5;have z1 := (hi5.below hb6);have s1 := z1;have t1 := hi6;go_at_call 86;(with_reducible refine (rreducedQ_any _ _ (((((x)).num) * ((((y)).den : Int))) + ((((y)).num) * ((((x)).den : Int)))) (((((x)).den : Int)) * ((((y)).den : Int))) _ s1 t1 (by omega) (by omega) hd0).mono ?_);rintro e w7 ⟨v7,rfl,hi7,hb7⟩;obtain ⟨g7,p7,n7,c7,h7,o7,m7,e7,rfl⟩ := hi7.form;have q2_7 := ((((((q2_2.to hA3).drew.to hb3).to hb4).to hb5).to hb6).to hb7);obtain ⟨a0,e0,b0,f0,c0,g0,d0,h0⟩ := q2_7.cf4)))
  have u0 := (Below.tr (Below.tr (Below.tr (Below.tr (Below.tr (Below.tr (Below.tr (Below.tr (Below.tr (Below.tr hB_0 hA1) hb1) hA2) hb2) hA3).drew hb3) hb4) hb5) hb6) hb7)
  go_wp2_with fail
  exact bodyPost_ret (v := .agg #[.bool g7,.slice p7 n7 c7,.bool h7,.slice o7 m7 e7]) (by simp [results,Tryz.results43,go_sem,j0,l0,n0,k0,m0,o0,i0,a0,e0,b0,f0,c0,g0,d0,h0]) rfl ⟨_,rfl,by rw [← HX.out];exact (hi7.sets4 q2_7 rfl rfl rfl rfl (.bool g7) (.slice p7 n7 c7) (.bool h7) (.slice o7 m7 e7)),(Below.sets4 u0 (b := w.heap.size + 1 + 1) (by omega) (.bool g7) (.slice p7 n7 c7) (.bool h7) (.slice o7 m7 e7))⟩
theorem rmulQ_any (v u : Value) (x y : Rat) (w : World) (fa : RQ w v x) (fb : RQ w u y) (hl : rsz x ≤ 190000000) (hl2 : rsz y ≤ 190000000) :
    Calls Tryz.prog 44 #[v,u] w (GQ (x * y) w) := by
  obtain ⟨b,p,n,c,d,o,m,e,rfl⟩ := fa.form
  obtain ⟨f,i,j,k,g,r,t,a,rfl⟩ := fb.form
  have hb1 := rsz_num x
  have hb2 := rsz_den x
  have hb3 := rsz_num y
  have hb4 := rsz_den y
  have hc1 := isz_mul x.num y.num
  have hc4 := isz_mul x.den y.den
  have HX := Lib.hid (rat_mul x y)
  have hd0 := den_mul_ne x y
  have hB_0 : Below w.heap.size w w := Below.refl _ _
  go_enter Tryz.func44,Tryz.ntmps44
  go_wp2_with fail
  obtain ⟨hA1,t0,u0,v0⟩ := bx3 w rfl [.bool b,.slice p n c,.bool d,.slice o m e] 30 [.bool f,.slice i j k,.bool g,.slice r t a] 30 [.bool false,.slice none 0 0,.bool false,.slice none 0 0] 30
  have y0 := (fa.below hA1)
  (with_reducible refine (rvalueQ_any _ (x) _ y0 (by omega)).mono ?_)
  rintro e w1 ⟨v1,rfl,hi1,hb1⟩
  obtain ⟨g1,p1,n1,c1,h1,o1,m1,e1,rfl⟩ := hi1.form
  have q1_1 := (u0.to hb1)
  obtain ⟨r1,s1,t1,u1⟩ := q1_1.cs4
  have q0_1 := (t0.to hb1)
  have j0 := (q0_1).1
  have l0 := (q1_1).1
  have q2_1 := (v0.to hb1)
  have n0 := (q2_1).1
  go_wp2_with fail
  have fb_1 := ((fb.below hA1).below hb1)
  obtain ⟨hA2,w0⟩ := bx1 w1 rfl [.bool g1,.slice p1 n1 c1,.bool h1,.slice o1 m1 e1] 30
  have z0 := (fb_1.below hA2)
  (with_reducible refine (rvalueQ_any _ (y) _ z0 (by omega)).mono ?_)
  rintro e w2 ⟨v2,rfl,hi2,hb2⟩
  obtain ⟨g2,p2,n2,c2,h2,o2,m2,e2,rfl⟩ := hi2.form
  have q0_2 := ((q0_1.to hA2).to hb2)
  have k0 := (q0_2).1
  have q1_2 := ((q1_1.to hA2).to hb2)
  have m0 := (q1_2).1
  have q2_2 := ((q2_1.to hA2).to hb2)
  have o0 := (q2_2).1
  have q0 := (w0.to hb2)
  have i0 := (q0).1
  go_wp2_with fail
  obtain ⟨hA3,x0⟩ := bx1 w2 rfl [.bool g2,.slice p2 n2 c2,.bool h2,.slice o2 m2 e2] 30
  have S0_3 := (AndS.mk ((q0.to hA3).drew).bs4 (x0.drew).bs4)
  have r0 : HeldC (w.heap.size + 1 + 1) (AndS (BS4 w1.heap.size (.bool g1) (.slice p1 n1 c1) (.bool h1) (.slice o1 m1 e1)) (BS4 w2.heap.size (.bool g2) (.slice p2 n2 c2) (.bool h2) (.slice o2 m2 e2))) := (AndS.hc (BS4.hc (by omega)) (BS4.hc (by omega)))
  have tk1 : True := trivial
  have tk2 : True := trivial
  have tk3 : True := trivial
  go_region_held3 (AndS (BS4 w1.heap.size (.bool g1) (.slice p1 n1 c1) (.bool h1) (.slice o1 m1 e1)) (BS4 w2.heap.size (.bool g2) (.slice p2 n2 c2) (.bool h2) (.slice o2 m2 e2))) (first | with_reducible exact S0_3 | with_reducible exact HeldK.go (AndS.hk BS4.hk BS4.hk) (by assumption) (by assumption) | with_reducible exact HeldC.go4 r0 (by assumption) | (simp;done))
    (first
      | (((have := tk1);clear tk1;have p0 := ((hi1.below hA2).below hb2);have a1 := (p0.below hA3).drew.num.raw;have b1 := (hi2.below hA3).drew.num.raw;go_at_call 88;(with_reducible refine (rmul_any _ _ (((x)).num) (((y)).num) _ a1 b1 (by omega) (by omega)).mono ?_);rintro e w3 ⟨v3,rfl,hi3,hb3⟩;obtain ⟨g3,p3,n3,c3,rfl⟩ := hi3.form))
      | (((have := tk2);clear tk2;have k1 := ((p0.below hA3).drew.below hb3);have d1 := k1.den.raw;have l1 := ((hi2.below hA3).drew.below hb3);have f1 := l1.den.raw;go_at_call 88;(with_reducible refine (rmul_any _ _ ((((x)).den : Int)) ((((y)).den : Int)) _ d1 f1 (by omega) (by omega)).mono ?_);rintro e w4 ⟨v4,rfl,hi4,hb4⟩;obtain ⟨g4,p4,n4,c4,rfl⟩ := hi4.form))
      | (((have := tk3);clear tk3;have q1 := (hi3.below hb4);have i1 := q1;have j1 := hi4;go_at_call 86;(with_reducible refine (rreducedQ_any _ _ ((((x)).num) * (((y)).num)) (((((x)).den : Int)) * ((((y)).den : Int))) _ i1 j1 (by omega) (by omega) hd0).mono ?_);rintro e w5 ⟨v5,rfl,hi5,hb5⟩;obtain ⟨g5,p5,n5,c5,h5,o5,m5,e5,rfl⟩ := hi5.form;have q2_5 := ((((q2_2.to hA3).drew.to hb3).to hb4).to hb5);obtain ⟨a0,e0,b0,f0,c0,g0,d0,h0⟩ := q2_5.cf4)))
  have s0 := (Below.tr (Below.tr (Below.tr (Below.tr (Below.tr (Below.tr (Below.tr (Below.tr hB_0 hA1) hb1) hA2) hb2) hA3).drew hb3) hb4) hb5)
  go_wp2_with fail
  exact bodyPost_ret (v := .agg #[.bool g5,.slice p5 n5 c5,.bool h5,.slice o5 m5 e5]) (by simp [results,Tryz.results44,go_sem,j0,l0,n0,k0,m0,o0,i0,a0,e0,b0,f0,c0,g0,d0,h0]) rfl ⟨_,rfl,by rw [← HX.out];exact (hi5.sets4 q2_5 rfl rfl rfl rfl (.bool g5) (.slice p5 n5 c5) (.bool h5) (.slice o5 m5 e5)),(Below.sets4 s0 (b := w.heap.size + 1 + 1) (by omega) (.bool g5) (.slice p5 n5 c5) (.bool h5) (.slice o5 m5 e5))⟩
theorem rdivQ_ok (v u : Value) (x y : Rat) (w : World) (fa : RQ w v x) (fb : RQ w u y) (hl : rsz x ≤ 190000000) (hl2 : rsz y ≤ 190000000) (hy : y ≠ 0) :
    Calls Tryz.prog 74 #[v,u] w (GQC (x / y) 0 w) := by
  obtain ⟨b,p,n,c,d,o,m,e,rfl⟩ := fa.form
  obtain ⟨f,i,j,k,g,r,t,a,rfl⟩ := fb.form
  have hb1 := rsz_num x
  have hb2 := rsz_den x
  have hb3 := rsz_num y
  have hb4 := rsz_den y
  have hc1 := isz_mul x.num y.den
  have hc4 := isz_mul x.den y.num
  have HX := Lib.hid (rat_div x y)
  have hn0 : y.num ≠ 0 := fun h => hy ((rat_num_zero y).1 h)
  have hd0 : (x.den : Int) * y.num ≠ 0 := fun h => by
    have := x.den_nz
    rcases Int.mul_eq_zero.1 h with h | h <;> omega
  clear hy hn0
  have hB_0 : Below w.heap.size w w := Below.refl _ _
  go_enter Tryz.func74,Tryz.ntmps74
  go_wp2_with fail
  obtain ⟨hA1,t0,u0,v0⟩ := bx3 w rfl [.bool b,.slice p n c,.bool d,.slice o m e] 30 [.bool f,.slice i j k,.bool g,.slice r t a] 30 [.bool false,.slice none 0 0,.bool false,.slice none 0 0] 30
  have y0 := (fa.below hA1)
  (with_reducible refine (rvalueQ_any _ (x) _ y0 (by omega)).mono ?_)
  rintro e w1 ⟨v1,rfl,hi1,hb1⟩
  obtain ⟨g1,p1,n1,c1,h1,o1,m1,e1,rfl⟩ := hi1.form
  have q1_1 := (u0.to hb1)
  obtain ⟨r1,s1,t1,u1⟩ := q1_1.cs4
  have q0_1 := (t0.to hb1)
  have j0 := (q0_1).1
  have l0 := (q1_1).1
  have q2_1 := (v0.to hb1)
  have n0 := (q2_1).1
  go_wp2_with fail
  have fb_1 := ((fb.below hA1).below hb1)
  obtain ⟨hA2,w0⟩ := bx1 w1 rfl [.bool g1,.slice p1 n1 c1,.bool h1,.slice o1 m1 e1] 30
  have z0 := (fb_1.below hA2)
  (with_reducible refine (rvalueQ_any _ (y) _ z0 (by omega)).mono ?_)
  rintro e w2 ⟨v2,rfl,hi2,hb2⟩
  obtain ⟨g2,p2,n2,c2,h2,o2,m2,e2,rfl⟩ := hi2.form
  have q0_2 := ((q0_1.to hA2).to hb2)
  have k0 := (q0_2).1
  have q1_2 := ((q1_1.to hA2).to hb2)
  have m0 := (q1_2).1
  have q2_2 := ((q2_1.to hA2).to hb2)
  have o0 := (q2_2).1
  have q0 := (w0.to hb2)
  have i0 := (q0).1
  go_wp2_with fail
  obtain ⟨hA3,x0⟩ := bx1 w2 rfl [.bool g2,.slice p2 n2 c2,.bool h2,.slice o2 m2 e2] 30
  have S0_3 := (AndS.mk ((q0.to hA3).drew).bs4 (x0.drew).bs4)
  have r0 : HeldC (w.heap.size + 1 + 1) (AndS (BS4 w1.heap.size (.bool g1) (.slice p1 n1 c1) (.bool h1) (.slice o1 m1 e1)) (BS4 w2.heap.size (.bool g2) (.slice p2 n2 c2) (.bool h2) (.slice o2 m2 e2))) := (AndS.hc (BS4.hc (by omega)) (BS4.hc (by omega)))
  have tk1 : True := trivial
  have tk2 : True := trivial
  have tk3 : True := trivial
  go_region_held3 (AndS (BS4 w1.heap.size (.bool g1) (.slice p1 n1 c1) (.bool h1) (.slice o1 m1 e1)) (BS4 w2.heap.size (.bool g2) (.slice p2 n2 c2) (.bool h2) (.slice o2 m2 e2))) (first | with_reducible exact S0_3 | with_reducible exact HeldK.go (AndS.hk BS4.hk BS4.hk) (by assumption) (by assumption) | with_reducible exact HeldC.go4 r0 (by assumption) | (simp;done))
    (first
      | (((have := tk1);clear tk1;have p0 := ((hi1.below hA2).below hb2);have a1 := (p0.below hA3).drew.num.raw;have b1 := (hi2.below hA3).drew.den.raw;go_at_call 88;(with_reducible refine (rmul_any _ _ (((x)).num) ((((y)).den : Int)) _ a1 b1 (by omega) (by omega)).mono ?_);rintro e w3 ⟨v3,rfl,hi3,hb3⟩;obtain ⟨g3,p3,n3,c3,rfl⟩ := hi3.form))
      | (((have := tk2);clear tk2;have k1 := ((p0.below hA3).drew.below hb3);have d1 := k1.den.raw;have l1 := ((hi2.below hA3).drew.below hb3);have f1 := l1.num.raw;go_at_call 88;(with_reducible refine (rmul_any _ _ ((((x)).den : Int)) (((y)).num) _ d1 f1 (by omega) (by omega)).mono ?_);rintro e w4 ⟨v4,rfl,hi4,hb4⟩;obtain ⟨g4,p4,n4,c4,rfl⟩ := hi4.form))
      | (((have := tk3);clear tk3;have q1 := (hi3.below hb4);have i1 := q1;have j1 := hi4;go_at_call 97;(with_reducible refine (rnewQ_ok _ _ ((((x)).num) * ((((y)).den : Int))) (((((x)).den : Int)) * (((y)).num)) _ i1 j1 (by omega) (by omega) hd0).mono ?_);rintro e w5 ⟨v5,rfl,hi5,hb5⟩;obtain ⟨g5,p5,n5,c5,h5,o5,m5,e5,rfl⟩ := hi5.form;have q2_5 := ((((q2_2.to hA3).drew.to hb3).to hb4).to hb5);obtain ⟨a0,e0,b0,f0,c0,g0,d0,h0⟩ := q2_5.cf4)))
  have s0 := (Below.tr (Below.tr (Below.tr (Below.tr (Below.tr (Below.tr (Below.tr (Below.tr hB_0 hA1) hb1) hA2) hb2) hA3).drew hb3) hb4) hb5)
  go_wp2_with fail
  exact bodyPost_ret (v := .tuple #[.agg #[.bool g5,.slice p5 n5 c5,.bool h5,.slice o5 m5 e5],.int .i64 0]) (by simp [results,Tryz.results74,go_sem,j0,l0,n0,k0,m0,o0,i0,a0,e0,b0,f0,c0,g0,d0,h0]) rfl ⟨_,rfl,by rw [← HX.out];exact (hi5.sets4 q2_5 rfl rfl rfl rfl (.bool g5) (.slice p5 n5 c5) (.bool h5) (.slice o5 m5 e5)),(Below.sets4 s0 (b := w.heap.size + 1 + 1) (by omega) (.bool g5) (.slice p5 n5 c5) (.bool h5) (.slice o5 m5 e5))⟩
theorem rsubQ_any (v u : Value) (x y : Rat) (w : World) (fa : RQ w v x) (fb : RQ w u y) (hl : rsz x ≤ 190000000) (hl2 : rsz y ≤ 190000000) :
    Calls Tryz.prog 78 #[v,u] w (GQ (x - y) w) := by
  obtain ⟨b,p,n,c,d,o,m,e,rfl⟩ := fa.form
  obtain ⟨f,i,j,k,g,r,t,a,rfl⟩ := fb.form
  have hb1 := rsz_num x
  have hb2 := rsz_den x
  have hb3 := rsz_num y
  have hb4 := rsz_den y
  have hc5 : rsz (-y) ≤ 190000000 := by rw [rsz_neg];exact hl2
  have hB_0 : Below w.heap.size w w := Below.refl _ _
  go_enter Tryz.func78,Tryz.ntmps78
  go_wp2_with fail
  obtain ⟨hA1,l0,m0,i0⟩ := bx3 w rfl [.bool b,.slice p n c,.bool d,.slice o m e] 30 [.bool f,.slice i j k,.bool g,.slice r t a] 30 [.bool false,.slice none 0 0,.bool false,.slice none 0 0] 30
  have S0_1 := (AndS.mk (l0.drew).bs4 (AndS.mk (m0.drew).bs4 (BN.of (i0.drew))))
  have j0 : HeldC (w.heap.size + 1 + 1) (AndS (BS4 w.heap.size (.bool b) (.slice p n c) (.bool d) (.slice o m e)) (AndS (BS4 (w.heap.size + 1) (.bool f) (.slice i j k) (.bool g) (.slice r t a)) (BN (w.heap.size + 1 + 1)))) := (AndS.hc (BS4.hc (by omega)) (AndS.hc (BS4.hc (by omega)) BN.hc))
  have tk1 : True := trivial
  have tk2 : True := trivial
  go_region_held3 (AndS (BS4 w.heap.size (.bool b) (.slice p n c) (.bool d) (.slice o m e)) (AndS (BS4 (w.heap.size + 1) (.bool f) (.slice i j k) (.bool g) (.slice r t a)) (BN (w.heap.size + 1 + 1)))) (first | with_reducible exact S0_1 | with_reducible exact HeldK.go (AndS.hk BS4.hk (AndS.hk BS4.hk BN.hk)) (by assumption) (by assumption) | with_reducible exact HeldC.go4 j0 (by assumption) | (simp;done))
    (first
      | (((have := tk1);clear tk1;have n0 := (fb.below hA1).drew;go_at_call 111;(with_reducible refine (rnegQ_any _ (y) _ n0 (by omega)).mono ?_);rintro e w1 ⟨v1,rfl,hi1,hb1⟩;obtain ⟨g1,p1,n1,c1,h1,o1,m1,e1,rfl⟩ := hi1.form))
      | (((have := tk2);clear tk2;have fa_1 := ((fa.below hA1).drew.below hb1);have o0 := fa_1;have p0 := hi1;go_at_call 43;(with_reducible refine (raddQ_any _ _ (x) (-(y)) _ o0 p0 hl hc5).mono ?_);rintro e w2 ⟨v2,rfl,hi2,hb2⟩;obtain ⟨g2,p2,n2,c2,h2,o2,m2,e2,rfl⟩ := hi2.form;have q2_2 := ((i0.drew.to hb1).to hb2);obtain ⟨a0,e0,b0,f0,c0,g0,d0,h0⟩ := q2_2.cf4)))
  have k0 := (Below.tr (Below.tr (Below.tr hB_0 hA1).drew hb1) hb2)
  go_wp2_with fail
  exact bodyPost_ret (v := .agg #[.bool g2,.slice p2 n2 c2,.bool h2,.slice o2 m2 e2]) (by simp [results,Tryz.results78,go_sem,a0,e0,b0,f0,c0,g0,d0,h0]) rfl ⟨_,rfl,by rw [Rat.sub_eq_add_neg];exact (hi2.sets4 q2_2 rfl rfl rfl rfl (.bool g2) (.slice p2 n2 c2) (.bool h2) (.slice o2 m2 e2)),(Below.sets4 k0 (b := w.heap.size + 1 + 1) (by omega) (.bool g2) (.slice p2 n2 c2) (.bool h2) (.slice o2 m2 e2))⟩
theorem sgn_subQ (x y : Rat) : sgn (x - y).num = cmpQ x y := by
  unfold cmpQ
  have h1 := Rat.lt_iff (x - y) 0
  have h2 := Rat.lt_iff 0 (x - y)
  simp at h1 h2
  by_cases hx : x < y
  · rw [if_pos hx,sgn_neg (h1.1 (by grind))]
  · rw [if_neg hx]
    by_cases hy : y < x
    · rw [if_pos hy,sgn_pos (h2.1 (by grind))]
    · rw [if_neg hy]
      have : x - y = 0 := by grind
      rw [this];rfl
theorem rcompareQ_any (v u : Value) (x y : Rat) (w : World) (fa : RQ w v x) (fb : RQ w u y) (hl : rsz x ≤ 190000000) (hl2 : rsz y ≤ 190000000) :
    Calls Tryz.prog 23 #[v,u] w (fun e w' => e = .returned (.int .i64 (cmpQ x y)) ∧ Below w.heap.size w w') := by
  obtain ⟨b,p,n,c,d,o,m,e,rfl⟩ := fa.form
  obtain ⟨f,i,j,k,g,r,t,a,rfl⟩ := fb.form
  have hb1 := rsz_num x
  have hb2 := rsz_den x
  have hb3 := rsz_num y
  have hb4 := rsz_den y
  have hc5 := rsz_sub x y
  have hB_0 : Below w.heap.size w w := Below.refl _ _
  go_enter Tryz.func23,Tryz.ntmps23
  go_wp2_with fail
  obtain ⟨hA1,e0,f0⟩ := bx2 w rfl [.bool b,.slice p n c,.bool d,.slice o m e] 30 [.bool f,.slice i j k,.bool g,.slice r t a] 30
  have b0 := (fa.below hA1)
  have c0 := (fb.below hA1)
  (with_reducible refine (rsubQ_any _ _ (x) (y) _ b0 c0 hl hl2).mono ?_)
  rintro e w1 ⟨v1,rfl,hi1,hb1⟩
  obtain ⟨g1,p1,n1,c1,h1,o1,m1,e1,rfl⟩ := hi1.form
  go_wp2_with fail
  have d0 := hi1
  (with_reducible refine (rsignQ_any _ ((x) - (y)) _ d0 (by omega)).mono ?_)
  rintro e w2 ⟨rfl,hb2⟩
  have a0 := (Below.tr (Below.tr (Below.tr hB_0 hA1) hb1) hb2)
  go_wp2_with fail
  go_ret
  exact ⟨ret_int (sgn_subQ x y),a0⟩
end Go.Proofs.YtidfgdchcpmnfaaGreat
namespace Go.Proofs.YtidfgdchcpmnfaaGreat
open Go.RowKit
set_option maxRecDepth 100000
set_option maxHeartbeats 4000000
set_option linter.unusedSimpArgs false
set_option linter.unusedVariables false
theorem rsame_any (v u : Value) (x y : Rat) (w : World) (fa : RQ w v x) (fb : RQ w u y) (hl : rsz x ≤ 190000000) (hl2 : rsz y ≤ 190000000) :
    Calls Tryz.prog 75 #[v,u] w (GB (decide (x = y)) w) := by
  have hn1 := fa.qn (k := 999999999) (by omega)
  have hn2 := fb.qn (k := 999999999) (by omega)
  obtain ⟨b,p,n,c,d,o,m,e,rfl⟩ := fa.form
  obtain ⟨f,i,j,k,g,r,t,a,rfl⟩ := fb.form
  have HX : Hid ((cmpQ x y == 0) = decide (x = y)) := Lib.hid (by
    have := cmpQ_zero x y
    rw [Bool.eq_iff_iff]
    simp only [beq_iff_eq,decide_eq_true_eq]
    exact this)
  have hB_0 : Below w.heap.size w w := Below.refl _ _
  go_enter Tryz.func75,Tryz.ntmps75
  go_wp2_with fail
  obtain ⟨hA1,b0,c0⟩ := bx2 w rfl [.bool b,.slice p n c,.bool d,.slice o m e] 30 [.bool f,.slice i j k,.bool g,.slice r t a] 30
  have d0 := (fa.below hA1).raw
  (with_reducible refine (rvalidQ_any _ _ _ _ d0 hn1).mono ?_)
  rintro e w1 ⟨rfl,hb1⟩
  have q1_1 := (c0.to hb1)
  obtain ⟨l0,n0,p0,r0⟩ := q1_1.cs4
  go_wp2_with fail
  have fb_1 := ((fb.below hA1).below hb1)
  have e0 := fb_1.raw
  (with_reducible refine (rvalidQ_any _ _ _ _ e0 hn2).mono ?_)
  rintro e w2 ⟨rfl,hb2⟩
  have q0_2 := ((b0.to hb1).to hb2)
  obtain ⟨h0,i0,j0,k0⟩ := q0_2.cs4
  have q1_2 := (q1_1.to hb2)
  obtain ⟨m0,o0,q0,s0⟩ := q1_2.cs4
  go_wp2_with fail
  have fa_2 := (((fa.below hA1).below hb1).below hb2)
  have f0 := fa_2
  have fb_2 := (fb_1.below hb2)
  have g0 := fb_2
  (with_reducible refine (rcompareQ_any _ _ (x) (y) _ f0 g0 hl hl2).mono ?_)
  rintro e w3 ⟨rfl,hb3⟩
  have a0 := (Below.tr (Below.tr (Below.tr (Below.tr hB_0 hA1) hb1) hb2) hb3)
  go_wp2_with fail
  go_ret
  exact ⟨ret_bool HX.out,a0⟩
theorem rsameRat_any (v u : Value) (x y : Rat) (w : World) (fa : RQ w v x) (fb : RQ w u y) (hl : rsz x ≤ 190000000) (hl2 : rsz y ≤ 190000000) :
    Calls Tryz.prog 21 #[v,u] w (GB (decide (x = y)) w) := by
  obtain ⟨b,p,n,c,d,o,m,e,rfl⟩ := fa.form
  obtain ⟨f,i,j,k,g,r,t,a,rfl⟩ := fb.form
  have hB_0 : Below w.heap.size w w := Below.refl _ _
  go_enter Tryz.func21,Tryz.ntmps21
  go_wp2_with fail
  obtain ⟨hA1,d0,e0⟩ := bx2 w rfl [.bool b,.slice p n c,.bool d,.slice o m e] 30 [.bool f,.slice i j k,.bool g,.slice r t a] 30
  have b0 := (fa.below hA1)
  have c0 := (fb.below hA1)
  (with_reducible refine (rsame_any _ _ _ _ _ b0 c0 hl hl2).mono ?_)
  rintro e w1 ⟨rfl,hb1⟩
  have a0 := (Below.tr (Below.tr hB_0 hA1) hb1)
  go_wp2_with fail
  go_ret
  exact ⟨rfl,a0⟩
end Go.Proofs.YtidfgdchcpmnfaaGreat
