/-
  Lemmas for the statements about rotations, part 51 of 51.
-/
import Derived.Test.YtidfgdchcpmnfaaGreatZb11
import Derived.Test.YtidfgdchcpmnfaaGreatZb20
namespace Go.Proofs.YtidfgdchcpmnfaaGreat
open Go.RowKit
set_option maxRecDepth 100000
set_option maxHeartbeats 4000000
set_option linter.unusedSimpArgs false
set_option linter.unusedVariables false
theorem subQ_raw (v u : Value) (o1 o2 : Bool) (x y : Rat) (w : World) (fa : QRaw w v o1 x) (fb : QRaw w u o2 y) (qa : Qn v 400000000) (qb : Qn u 400000000) :
    Calls Tryz.prog 56 #[v,u] w (GQ (x - y) w) := by
  obtain ⟨b,p,n,c,d,o,m,e,rfl⟩ := fa.form
  obtain ⟨f,i,j,k,g,r,t,a,rfl⟩ := fb.form
  have hl := fa.rsz_le qa (by omega)
  have hl2 := fb.rsz_le qb (by omega)
  have ma := qa.up (show 400000000 ≤ 1000000000 by omega)
  have mb := qb.up (show 400000000 ≤ 1000000000 by omega)
  have b1 := rsz_num x
  have b2 := rsz_den x
  have b3 := rsz_num y
  have b4 := rsz_den y
  have hc5 : rsz (-y) ≤ 400000000 := by rw [rsz_neg];exact hl2
  have hB_0 : Below w.heap.size w w := Below.refl _ _
  go_enter Tryz.func56,Tryz.ntmps56
  go_wp2_with fail
  obtain ⟨hA1,l0,m0,i0⟩ := bx3 w rfl [.bool b,.slice p n c,.bool d,.slice o m e] 30 [.bool f,.slice i j k,.bool g,.slice r t a] 30 [.bool false,.slice none 0 0,.bool false,.slice none 0 0] 30
  have S0_1 := (AndS.mk (l0.drew).bs4 (AndS.mk (m0.drew).bs4 (BN.of (i0.drew))))
  have j0 : HeldC (w.heap.size + 1 + 1) (AndS (BS4 w.heap.size (.bool b) (.slice p n c) (.bool d) (.slice o m e)) (AndS (BS4 (w.heap.size + 1) (.bool f) (.slice i j k) (.bool g) (.slice r t a)) (BN (w.heap.size + 1 + 1)))) := (AndS.hc (BS4.hc (by omega)) (AndS.hc (BS4.hc (by omega)) BN.hc))
  have tk1 : True := trivial
  have tk2 : True := trivial
  go_region_held3 (AndS (BS4 w.heap.size (.bool b) (.slice p n c) (.bool d) (.slice o m e)) (AndS (BS4 (w.heap.size + 1) (.bool f) (.slice i j k) (.bool g) (.slice r t a)) (BN (w.heap.size + 1 + 1)))) (first | with_reducible exact S0_1 | with_reducible exact HeldK.go (AndS.hk BS4.hk (AndS.hk BS4.hk BN.hk)) (by assumption) (by assumption) | with_reducible exact HeldC.go4 j0 (by assumption) | (simp;done))
    (first
      | (((have := tk1);clear tk1;have n0 := (fb.below hA1).drew;go_at_call 108;(with_reducible refine (negQ_raw _ _ (y) _ n0 mb).mono ?_);rintro e w1 ⟨v1,rfl,hi1,hb1⟩;obtain ⟨g1,p1,n1,c1,h1,o1,m1,e1,rfl⟩ := hi1.form))
      | (((have := tk2);clear tk2;have fa_1 := ((fa.below hA1).drew.below hb1);have o0 := fa_1;have p0 := hi1.raw;go_at_call 52;(with_reducible refine (addQ_raw _ _ _ _ (x) (-(y)) _ o0 p0 qa (RQ.qn hi1 hc5)).mono ?_);rintro e w2 ⟨v2,rfl,hi2,hb2⟩;obtain ⟨g2,p2,n2,c2,h2,o2,m2,e2,rfl⟩ := hi2.form;have q2_2 := ((i0.drew.to hb1).to hb2);obtain ⟨a0,e0,b0,f0,c0,g0,d0,h0⟩ := q2_2.cf4)))
  have k0 := (Below.tr (Below.tr (Below.tr hB_0 hA1).drew hb1) hb2)
  go_wp2_with fail
  exact bodyPost_ret (v := .agg #[.bool g2,.slice p2 n2 c2,.bool h2,.slice o2 m2 e2]) (by simp [results,Tryz.results56,go_sem,a0,e0,b0,f0,c0,g0,d0,h0]) rfl ⟨_,rfl,by rw [Rat.sub_eq_add_neg];exact (hi2.sets4 q2_2 rfl rfl rfl rfl (.bool g2) (.slice p2 n2 c2) (.bool h2) (.slice o2 m2 e2)),(Below.sets4 k0 (b := w.heap.size + 1 + 1) (by omega) (.bool g2) (.slice p2 n2 c2) (.bool h2) (.slice o2 m2 e2))⟩
theorem subQ_any (v u : Value) (x y : Rat) (w : World) (h1 : RQ w v x) (h2 : RQ w u y) (l1 : rsz x ≤ 400000000) (l2 : rsz y ≤ 400000000) :
    Calls Tryz.prog 56 #[v,u] w (GQ (x - y) w) := subQ_raw v u true true x y w h1.raw h2.raw (h1.qn l1) (h2.qn l2)
end Go.Proofs.YtidfgdchcpmnfaaGreat
