/-
  Lemmas for the theorem vchords_holds, part 11 of 33.
-/
import Derived.Test.YtidfgdchcpmnfaaGreatCd06
import Derived.Test.YtidfgdchcpmnfaaGreatCd10
namespace Go.Proofs.YtidfgdchcpmnfaaGreat
open Go.RowKit
set_option maxRecDepth 100000
set_option maxHeartbeats 4000000
set_option linter.unusedSimpArgs false
set_option linter.unusedVariables false
def GQC (q : Rat) (c : Int) (w : World) (e : Ending) (w' : World) : Prop := ∃ v,e = .returned (.tuple #[v,.int .i64 c]) ∧ RQ w' v q ∧ Below w.heap.size w w'
def GNoQ (c : Int) (w : World) (e : Ending) (w' : World) : Prop := e = .returned (.tuple #[.agg #[.bool false,.slice none 0 0,.bool false,.slice none 0 0],.int .i64 c]) ∧ Below w.heap.size w w'
def absQ (q : Rat) : Rat := if q < 0 then -q else q
theorem absQ_num (q : Rat) : ((q.num.natAbs : Nat) : Int) = (absQ q).num := by
  unfold absQ
  have h := Rat.lt_iff q 0
  simp at h
  by_cases hq : q < 0
  · rw [if_pos hq,rat_neg_num];have := h.1 hq;omega
  · rw [if_neg hq];have : ¬ q.num < 0 := fun k => hq (h.2 k);omega
theorem absQ_den (q : Rat) : (q.den : Int) = ((absQ q).den : Int) := by unfold absQ;split <;> simp
theorem field_Rat_0 : ∀ (a b c d : Value) (w : World),Sem.run Tryz.prog (Instr.field 30 (.agg #[a,b,c,d]) 0) w = .ok (.agg #[a,b]) w := fun a b c d w => by kernel_rfl
theorem newQ_ok (v u : Value) (o1 o2 : Bool) (x y : Int) (w : World) (hv : RawV w v o1 x) (hu : RawV w u o2 y) (hl : isz x ≤ 1000000000) (hl2 : isz y ≤ 1000000000) (hd : y ≠ 0) :
    Calls Tryz.prog 70 #[v,u] w (GQC (Rat.divInt x y) 0 w) := by
  obtain ⟨b,p,n,c,rfl⟩ := hv.raw.form
  obtain ⟨d,o,m,e,rfl⟩ := hu.raw.form
  have hsg : decide (sgn y = 0) = false := by have := sgn_ne hd;simpa using this
  have hsg2 : (sgn y == 0) = false := by have := sgn_ne hd;simpa using this
  have hB_0 : Below w.heap.size w w := Below.refl _ _
  go_enter Tryz.func70,Tryz.ntmps70
  go_wp2_with fail
  obtain ⟨hA1,q0,r0,t0⟩ := bx3 w rfl [.bool b,.slice p n c] 28 [.bool d,.slice o m e] 28 [.bool false,.slice none 0 0,.bool false,.slice none 0 0] 30
  obtain ⟨b1,j1,f1,l1⟩ := q0.drew.cf2
  obtain ⟨q1,a2,u1,d2⟩ := r0.drew.cf2
  have tk1 : True := trivial
  have tk2 : True := trivial
  go_region_with
    (first
      | (((have := tk1);clear tk1;have u0 := (hv.below hA1).drew;go_at_call 116;(with_reducible refine (countedQ_any _ _ (x) _ u0 ).mono ?_);rintro e w1 ⟨v1,rfl,hi1,hb1⟩;obtain ⟨g1,p1,n1,c1,rfl⟩ := hi1.form;have q1_1 := (r0.drew.to hb1);obtain ⟨r1,b2,x1,e2⟩ := q1_1.cf2;have q0_1 := (q0.drew.to hb1);obtain ⟨d1,k1,h1,m1⟩ := q0_1.cf2))
      | (((have := tk2);clear tk2;have hu_1 := ((hu.below hA1).drew.below hb1);have v0 := hu_1;go_at_call 116;(with_reducible refine (countedQ_any _ _ (y) _ v0 ).mono ?_);rintro e w2 ⟨v2,rfl,hi2,hb2⟩;obtain ⟨g2,p2,n2,c2,rfl⟩ := hi2.form;have q0_2 := (q0_1.to hb2);obtain ⟨a0,c0,b0,d0⟩ := q0_2.cf2;have q1_2 := (q1_1.to hb2);obtain ⟨e0,g0,f0,h0⟩ := q1_2.cf2)))
  all_goals
    obtain ⟨s1,y1⟩ := ((q1_2.other2 (b := w.heap.size) (by omega) (.bool g1) (.slice p1 n1 c1)).store2 (.bool g2) (.slice p2 n2 c2)).cs2
    go_wp2_with fail
    have w0 := ((hi2.sets2 q0_2 rfl rfl (.bool g1) (.slice p1 n1 c1)).sets2 (q1_2.other2 (b := w.heap.size) (by omega) (.bool g1) (.slice p1 n1 c1)) rfl rfl (.bool g2) (.slice p2 n2 c2)).raw
    (with_reducible refine (signI_any _ ((y)) _ w0).mono ?_)
    rintro e w3 ⟨rfl,hb3⟩
    have q0_3 := (((q0_2.store2 (.bool g1) (.slice p1 n1 c1)).other2 (b := w.heap.size + 1) (by omega) (.bool g2) (.slice p2 n2 c2)).to hb3)
    obtain ⟨e1,i1⟩ := q0_3.cs2
    have q1_3 := (((q1_2.other2 (b := w.heap.size) (by omega) (.bool g1) (.slice p1 n1 c1)).store2 (.bool g2) (.slice p2 n2 c2)).to hb3)
    obtain ⟨t1,z1⟩ := q1_3.cs2
    go_wp2_with fail
    have z0 := ((((hi1.below hb2).sets2 q0_2 rfl rfl (.bool g1) (.slice p1 n1 c1)).sets2 (q1_2.other2 (b := w.heap.size) (by omega) (.bool g1) (.slice p1 n1 c1)) rfl rfl (.bool g2) (.slice p2 n2 c2)).below hb3)
    have x0 := z0
    have a1 := (((hi2.sets2 q0_2 rfl rfl (.bool g1) (.slice p1 n1 c1)).sets2 (q1_2.other2 (b := w.heap.size) (by omega) (.bool g1) (.slice p1 n1 c1)) rfl rfl (.bool g2) (.slice p2 n2 c2)).below hb3)
    have y0 := a1
    (with_reducible refine (reducedQ_any _ _ ((x)) ((y)) _ x0 y0 hl hl2 hd).mono ?_)
    rintro e w4 ⟨v4,rfl,hi4,hb4⟩
    obtain ⟨g4,p4,n4,c4,h4,o4,m4,e4,rfl⟩ := hi4.form
    have q2_4 := ((((((t0.drew.to hb1).to hb2).other2 (b := w.heap.size) (by omega) (.bool g1) (.slice p1 n1 c1)).other2 (b := w.heap.size + 1) (by omega) (.bool g2) (.slice p2 n2 c2)).to hb3).to hb4)
    obtain ⟨i0,m0,j0,n0,k0,o0,l0,p0⟩ := q2_4.cf4
    have s0 := (Below.tr (Below.tr (Below.sets2 (Below.sets2 (Below.tr (Below.tr (Below.tr hB_0 hA1).drew hb1) hb2) (b := w.heap.size) (by omega) (.bool g1) (.slice p1 n1 c1)) (b := w.heap.size + 1) (by omega) (.bool g2) (.slice p2 n2 c2)) hb3) hb4)
    go_wp2_with fail
    exact bodyPost_ret (v := .tuple #[.agg #[.bool g4,.slice p4 n4 c4,.bool h4,.slice o4 m4 e4],.int .i64 0]) (by simp [results,Tryz.results70,go_sem,a0,c0,b0,d0,e0,g0,f0,h0,i0,m0,j0,n0,k0,o0,l0,p0]) rfl ⟨_,rfl,(hi4.sets4 q2_4 rfl rfl rfl rfl (.bool g4) (.slice p4 n4 c4) (.bool h4) (.slice o4 m4 e4)),(Below.sets4 s0 (b := w.heap.size + 1 + 1) (by omega) (.bool g4) (.slice p4 n4 c4) (.bool h4) (.slice o4 m4 e4))⟩
theorem newQ_no (v u : Value) (o1 o2 : Bool) (x y : Int) (w : World) (hv : RawV w v o1 x) (hu : RawV w u o2 y) (hd : y = 0) :
    Calls Tryz.prog 70 #[v,u] w (GNoQ 14 w) := by
  obtain ⟨b,p,n,c,rfl⟩ := hv.raw.form
  obtain ⟨d,o,m,e,rfl⟩ := hu.raw.form
  have hsg2 : (sgn y == 0) = true := by rw [hd];rfl
  have hd2 := Lib.hid hd
  clear hd
  have hB_0 : Below w.heap.size w w := Below.refl _ _
  go_enter Tryz.func70,Tryz.ntmps70
  go_wp2_with fail
  obtain ⟨hA1,q0,r0,t0⟩ := bx3 w rfl [.bool b,.slice p n c] 28 [.bool d,.slice o m e] 28 [.bool false,.slice none 0 0,.bool false,.slice none 0 0] 30
  obtain ⟨x0,b1,z0,e1⟩ := q0.drew.cf2
  obtain ⟨h1,q1,k1,s1⟩ := r0.drew.cf2
  have tk1 : True := trivial
  have tk2 : True := trivial
  go_region_with
    (first
      | (((have := tk1);clear tk1;have u0 := (hv.below hA1).drew;go_at_call 116;(with_reducible refine (countedQ_any _ _ (x) _ u0 ).mono ?_);rintro e w1 ⟨v1,rfl,hi1,hb1⟩;obtain ⟨g1,p1,n1,c1,rfl⟩ := hi1.form;have q1_1 := (r0.drew.to hb1);obtain ⟨i1,r1,l1,t1⟩ := q1_1.cf2;have q0_1 := (q0.drew.to hb1);obtain ⟨y0,d1,a1,f1⟩ := q0_1.cf2))
      | (((have := tk2);clear tk2;have hu_1 := ((hu.below hA1).drew.below hb1);have v0 := hu_1;go_at_call 116;(with_reducible refine (countedQ_any _ _ (y) _ v0 ).mono ?_);rintro e w2 ⟨v2,rfl,hi2,hb2⟩;obtain ⟨g2,p2,n2,c2,rfl⟩ := hi2.form;have q0_2 := (q0_1.to hb2);obtain ⟨a0,c0,b0,d0⟩ := q0_2.cf2;have q1_2 := (q1_1.to hb2);obtain ⟨e0,g0,f0,h0⟩ := q1_2.cf2)))
  all_goals
    obtain ⟨j1,m1⟩ := ((q1_2.other2 (b := w.heap.size) (by omega) (.bool g1) (.slice p1 n1 c1)).store2 (.bool g2) (.slice p2 n2 c2)).cs2
    go_wp2_with fail
    have w0 := ((hi2.sets2 q0_2 rfl rfl (.bool g1) (.slice p1 n1 c1)).sets2 (q1_2.other2 (b := w.heap.size) (by omega) (.bool g1) (.slice p1 n1 c1)) rfl rfl (.bool g2) (.slice p2 n2 c2)).raw
    (with_reducible refine (signI_any _ ((y)) _ w0).mono ?_)
    rintro e w3 ⟨rfl,hb3⟩
    have q2_3 := (((((t0.drew.to hb1).to hb2).other2 (b := w.heap.size) (by omega) (.bool g1) (.slice p1 n1 c1)).other2 (b := w.heap.size + 1) (by omega) (.bool g2) (.slice p2 n2 c2)).to hb3)
    obtain ⟨i0,m0,j0,n0,k0,o0,l0,p0⟩ := q2_3.cf4
    have s0 := (Below.tr (Below.sets2 (Below.sets2 (Below.tr (Below.tr (Below.tr hB_0 hA1).drew hb1) hb2) (b := w.heap.size) (by omega) (.bool g1) (.slice p1 n1 c1)) (b := w.heap.size + 1) (by omega) (.bool g2) (.slice p2 n2 c2)) hb3)
    go_wp2_with fail
    exact bodyPost_ret (v := .tuple #[.agg #[.bool false,.slice none 0 0,.bool false,.slice none 0 0],.int .i64 14]) (by simp [results,Tryz.results70,go_sem,a0,c0,b0,d0,e0,g0,f0,h0,i0,m0,j0,n0,k0,o0,l0,p0]) rfl ⟨rfl,(Below.sets4 s0 (b := w.heap.size + 1 + 1) (by omega) (.bool false) (.slice none 0 0) (.bool false) (.slice none 0 0))⟩
theorem signQ_raw (v : Value) (ok : Bool) (q : Rat) (w : World) (h : QRaw w v ok q) (hn : Qn v 1000000000) :
    Calls Tryz.prog 109 #[v] w (fun e w' => e = .returned (.int .i64 (sgn q.num)) ∧ Below w.heap.size w w') := by
  obtain ⟨b,p,n,c,d,o,m,e,rfl⟩ := h.form
  have hl := h.rsz_le hn (by omega)
  have b1 := rsz_num q
  have b2 := rsz_den q
  have b0 := field_Rat_0
  have hB_0 : Below w.heap.size w w := Below.refl _ _
  go_enter Tryz.func109,Tryz.ntmps109
  go_wp2_with fail
  obtain ⟨hA1,e0⟩ := bx1 w rfl [.bool b,.slice p n c,.bool d,.slice o m e] 30
  have c0 := (h.below hA1)
  (with_reducible refine (valueQ_raw _ _ (q) _ c0 hn).mono ?_)
  rintro e w1 ⟨v1,rfl,hi1,hb1⟩
  obtain ⟨g1,p1,n1,c1,h1,o1,m1,e1,rfl⟩ := hi1.form
  go_wp2_with fail
  have d0 := hi1.num.raw
  (with_reducible refine (signI_any _ (((q)).num) _ d0).mono ?_)
  rintro e w2 ⟨rfl,hb2⟩
  have a0 := (Below.tr (Below.tr (Below.tr hB_0 hA1) hb1) hb2)
  go_wp2_with fail
  go_ret
  exact ⟨rfl,a0⟩
theorem negQ_raw (v : Value) (ok : Bool) (q : Rat) (w : World) (h : QRaw w v ok q) (hn : Qn v 1000000000) :
    Calls Tryz.prog 108 #[v] w (GQ (-q) w) := by
  obtain ⟨b,p,n,c,d,o,m,e,rfl⟩ := h.form
  have hl := h.rsz_le hn (by omega)
  have b1 := rsz_num q
  have b2 := rsz_den q
  have hB_0 : Below w.heap.size w w := Below.refl _ _
  go_enter Tryz.func108,Tryz.ntmps108
  go_wp2_with fail
  obtain ⟨hA1,s0,t0⟩ := bx2 w rfl [.bool b,.slice p n c,.bool d,.slice o m e] 30 [.bool false,.slice none 0 0,.bool false,.slice none 0 0] 30
  have u0 := (h.below hA1)
  (with_reducible refine (valueQ_raw _ _ (q) _ u0 hn).mono ?_)
  rintro e w1 ⟨v1,rfl,hi1,hb1⟩
  obtain ⟨g1,p1,n1,c1,h1,o1,m1,e1,rfl⟩ := hi1.form
  have q0_1 := (s0.to hb1)
  obtain ⟨a0,e0,b0,f0,c0,g0,d0,h0⟩ := q0_1.cf4
  go_wp2_with fail
  have q1_1 := (t0.to hb1)
  have S0_2 := (AndS.mk ((q0_1.store4 (.bool g1) (.slice p1 n1 c1) (.bool h1) (.slice o1 m1 e1)).drew).bs4 (BN.of ((q1_1.other4 (b := w.heap.size) (by omega) (.bool g1) (.slice p1 n1 c1) (.bool h1) (.slice o1 m1 e1)).drew)))
  have q0 : HeldC (w.heap.size + 1) (AndS (BS4 w.heap.size (.bool g1) (.slice p1 n1 c1) (.bool h1) (.slice o1 m1 e1)) (BN (w.heap.size + 1))) := (AndS.hc (BS4.hc (by omega)) BN.hc)
  have tk1 : True := trivial
  go_region_held3 (AndS (BS4 w.heap.size (.bool g1) (.slice p1 n1 c1) (.bool h1) (.slice o1 m1 e1)) (BN (w.heap.size + 1))) (first | with_reducible exact S0_2 | with_reducible exact HeldK.go (AndS.hk BS4.hk BN.hk) (by assumption) (by assumption) | with_reducible exact HeldC.go4 q0 (by assumption) | (simp;done))
    (first
      | (((have := tk1);clear tk1;have v0 := (hi1.sets4 q0_1 rfl rfl rfl rfl (.bool g1) (.slice p1 n1 c1) (.bool h1) (.slice o1 m1 e1)).drew.num.raw;go_at_call 134;(with_reducible refine (neg_any _ (((q)).num) _ v0 (by omega)).mono ?_);rintro e w2 ⟨v2,rfl,hi2,hb2⟩;obtain ⟨g2,p2,n2,c2,rfl⟩ := hi2.form;have q1_2 := ((q1_1.other4 (b := w.heap.size) (by omega) (.bool g1) (.slice p1 n1 c1) (.bool h1) (.slice o1 m1 e1)).drew.to hb2);obtain ⟨i0,m0,j0,n0,k0,o0,l0,p0⟩ := q1_2.cf4)))
  have w0 := ((hi1.sets4 q0_1 rfl rfl rfl rfl (.bool g1) (.slice p1 n1 c1) (.bool h1) (.slice o1 m1 e1)).drew.below hb2)
  have r0 := (Below.tr (Below.sets4 (Below.tr (Below.tr hB_0 hA1) hb1) (b := w.heap.size) (by omega) (.bool g1) (.slice p1 n1 c1) (.bool h1) (.slice o1 m1 e1)).drew hb2)
  go_wp2_with fail
  exact bodyPost_ret (v := .agg #[.bool g2,.slice p2 n2 c2,.bool h1,.slice o1 m1 e1]) (by simp [results,Tryz.results108,go_sem,a0,e0,b0,f0,c0,g0,d0,h0,i0,m0,j0,n0,k0,o0,l0,p0]) rfl ⟨_,rfl,RQ.mk' (hi2.sets4 q1_2 rfl rfl rfl rfl (.bool g2) (.slice p2 n2 c2) (.bool h1) (.slice o1 m1 e1)) (w0.sets4 q1_2 rfl rfl rfl rfl (.bool g2) (.slice p2 n2 c2) (.bool h1) (.slice o1 m1 e1)).den (rat_neg_num q).symm (by rw [rat_neg_den]),(Below.sets4 r0 (b := w.heap.size + 1) (by omega) (.bool g2) (.slice p2 n2 c2) (.bool h1) (.slice o1 m1 e1))⟩
theorem absQ_raw (v : Value) (ok : Bool) (q : Rat) (w : World) (h : QRaw w v ok q) (hn : Qn v 1000000000) :
    Calls Tryz.prog 89 #[v] w (GQ (absQ q) w) := by
  obtain ⟨b,p,n,c,d,o,m,e,rfl⟩ := h.form
  have hl := h.rsz_le hn (by omega)
  have b1 := rsz_num q
  have b2 := rsz_den q
  have hB_0 : Below w.heap.size w w := Below.refl _ _
  go_enter Tryz.func89,Tryz.ntmps89
  go_wp2_with fail
  obtain ⟨hA1,s0,t0⟩ := bx2 w rfl [.bool b,.slice p n c,.bool d,.slice o m e] 30 [.bool false,.slice none 0 0,.bool false,.slice none 0 0] 30
  have u0 := (h.below hA1)
  (with_reducible refine (valueQ_raw _ _ (q) _ u0 hn).mono ?_)
  rintro e w1 ⟨v1,rfl,hi1,hb1⟩
  obtain ⟨g1,p1,n1,c1,h1,o1,m1,e1,rfl⟩ := hi1.form
  have q0_1 := (s0.to hb1)
  obtain ⟨a0,e0,b0,f0,c0,g0,d0,h0⟩ := q0_1.cf4
  go_wp2_with fail
  have q1_1 := (t0.to hb1)
  have S0_2 := (AndS.mk ((q0_1.store4 (.bool g1) (.slice p1 n1 c1) (.bool h1) (.slice o1 m1 e1)).drew).bs4 (BN.of ((q1_1.other4 (b := w.heap.size) (by omega) (.bool g1) (.slice p1 n1 c1) (.bool h1) (.slice o1 m1 e1)).drew)))
  have q0 : HeldC (w.heap.size + 1) (AndS (BS4 w.heap.size (.bool g1) (.slice p1 n1 c1) (.bool h1) (.slice o1 m1 e1)) (BN (w.heap.size + 1))) := (AndS.hc (BS4.hc (by omega)) BN.hc)
  have tk1 : True := trivial
  go_region_held3 (AndS (BS4 w.heap.size (.bool g1) (.slice p1 n1 c1) (.bool h1) (.slice o1 m1 e1)) (BN (w.heap.size + 1))) (first | with_reducible exact S0_2 | with_reducible exact HeldK.go (AndS.hk BS4.hk BN.hk) (by assumption) (by assumption) | with_reducible exact HeldC.go4 q0 (by assumption) | (simp;done))
    (first
      | (((have := tk1);clear tk1;have v0 := (hi1.sets4 q0_1 rfl rfl rfl rfl (.bool g1) (.slice p1 n1 c1) (.bool h1) (.slice o1 m1 e1)).drew.num.raw;go_at_call 131;(with_reducible refine (abs_any _ (((q)).num) _ v0 (by omega)).mono ?_);rintro e w2 ⟨v2,rfl,hi2,hb2⟩;obtain ⟨g2,p2,n2,c2,rfl⟩ := hi2.form;have q1_2 := ((q1_1.other4 (b := w.heap.size) (by omega) (.bool g1) (.slice p1 n1 c1) (.bool h1) (.slice o1 m1 e1)).drew.to hb2);obtain ⟨i0,m0,j0,n0,k0,o0,l0,p0⟩ := q1_2.cf4)))
  have w0 := ((hi1.sets4 q0_1 rfl rfl rfl rfl (.bool g1) (.slice p1 n1 c1) (.bool h1) (.slice o1 m1 e1)).drew.below hb2)
  have r0 := (Below.tr (Below.sets4 (Below.tr (Below.tr hB_0 hA1) hb1) (b := w.heap.size) (by omega) (.bool g1) (.slice p1 n1 c1) (.bool h1) (.slice o1 m1 e1)).drew hb2)
  go_wp2_with fail
  exact bodyPost_ret (v := .agg #[.bool g2,.slice p2 n2 c2,.bool h1,.slice o1 m1 e1]) (by simp [results,Tryz.results89,go_sem,a0,e0,b0,f0,c0,g0,d0,h0,i0,m0,j0,n0,k0,o0,l0,p0]) rfl ⟨_,rfl,RQ.mk' (hi2.sets4 q1_2 rfl rfl rfl rfl (.bool g2) (.slice p2 n2 c2) (.bool h1) (.slice o1 m1 e1)) (w0.sets4 q1_2 rfl rfl rfl rfl (.bool g2) (.slice p2 n2 c2) (.bool h1) (.slice o1 m1 e1)).den (absQ_num q) (absQ_den q),(Below.sets4 r0 (b := w.heap.size + 1) (by omega) (.bool g2) (.slice p2 n2 c2) (.bool h1) (.slice o1 m1 e1))⟩
theorem floorQ_raw (v : Value) (ok : Bool) (q : Rat) (w : World) (h : QRaw w v ok q) (hn : Qn v 1000000000) :
    Calls Tryz.prog 92 #[v] w (GInt q.floor w) := by
  obtain ⟨b,p,n,c,d,o,m,e,rfl⟩ := h.form
  have hl := h.rsz_le hn (by omega)
  have b1 := rsz_num q
  have b2 := rsz_den q
  have hd0 : (q.den : Int) ≠ 0 := by have := q.den_nz;omega
  have HX : Hid (q.num.fdiv (q.den : Int) = q.floor) := by unfold Hid;rw [Int.fdiv_eq_ediv_of_nonneg _ (by omega)];exact rat_floor q
  have hB_0 : Below w.heap.size w w := Below.refl _ _
  go_enter Tryz.func92,Tryz.ntmps92
  go_wp2_with fail
  obtain ⟨hA1,r0,s0⟩ := bx2 w rfl [.bool b,.slice p n c,.bool d,.slice o m e] 30 [.bool false,.slice none 0 0] 28
  have t0 := (h.below hA1)
  (with_reducible refine (valueQ_raw _ _ (q) _ t0 hn).mono ?_)
  rintro e w1 ⟨v1,rfl,hi1,hb1⟩
  obtain ⟨g1,p1,n1,c1,h1,o1,m1,e1,rfl⟩ := hi1.form
  have q0_1 := (r0.to hb1)
  obtain ⟨a0,e0,b0,f0,c0,g0,d0,h0⟩ := q0_1.cf4
  go_wp2_with fail
  have u0 := (hi1.sets4 q0_1 rfl rfl rfl rfl (.bool g1) (.slice p1 n1 c1) (.bool h1) (.slice o1 m1 e1)).num.raw
  have v0 := (hi1.sets4 q0_1 rfl rfl rfl rfl (.bool g1) (.slice p1 n1 c1) (.bool h1) (.slice o1 m1 e1)).den.raw
  (with_reducible refine (divide_any _ _ (((q)).num) ((((q)).den : Int)) _ u0 v0 (by omega) (by omega) hd0).mono ?_)
  rintro e w2 ⟨v2,u2,rfl,hi2,hj2,hb2⟩
  obtain ⟨g2,p2,n2,c2,rfl⟩ := hi2.form
  obtain ⟨h2,o2,m2,e2,rfl⟩ := hj2.form
  have q1_2 := (((s0.to hb1).other4 (b := w.heap.size) (by omega) (.bool g1) (.slice p1 n1 c1) (.bool h1) (.slice o1 m1 e1)).to hb2)
  obtain ⟨i0,k0,j0,l0⟩ := q1_2.cf2
  have q0_2 := ((q0_1.store4 (.bool g1) (.slice p1 n1 c1) (.bool h1) (.slice o1 m1 e1)).to hb2)
  have m0 := (q0_2).1
  have o0 := (q1_2).1
  obtain ⟨hA2,w0⟩ := bx1 w2 rfl [.bool false,.slice none 0 0] 28
  have n0 := ((q0_2.to hA2)).1
  have p0 := ((q1_2.to hA2)).1
  obtain ⟨hA3,x0,y0⟩ := bx2 w2 rfl [.bool g2,.slice p2 n2 c2] 28 [.bool h2,.slice o2 m2 e2] 28
  obtain ⟨hA4,z0,a1⟩ := bx2 ((w2.setCell ⟨w.heap.size + 1,0,none⟩ (.bool g2)).setCell ⟨w.heap.size + 1,1,none⟩ (.slice p2 n2 c2)) (by simp : _ = w2.heap.size) [.bool g2,.slice p2 n2 c2] 28 [.bool h2,.slice o2 m2 e2] 28
  have q0 := (Below.tr (Below.sets4 (Below.tr (Below.tr hB_0 hA1) hb1) (b := w.heap.size) (by omega) (.bool g1) (.slice p1 n1 c1) (.bool h1) (.slice o1 m1 e1)) hb2)
  go_wp2_with fail
  exact bodyPost_ret (v := .agg #[.bool g2,.slice p2 n2 c2]) (by simp [results,Tryz.results92,go_sem,a0,e0,b0,f0,c0,g0,d0,h0,m0,o0,n0,p0,i0,k0,j0,l0]) rfl ⟨_,rfl,divide_out ((hi2.sets2 q1_2 rfl rfl (.bool g2) (.slice p2 n2 c2)).below hA4) HX.out,(Below.tr (Below.sets2 q0 (b := w.heap.size + 1) (by omega) (.bool g2) (.slice p2 n2 c2)) hA4)⟩
theorem isz_i64 {x : Int} (h0 : -9223372036854775808 ≤ x) (h1 : x ≤ 9223372036854775807) : isz x ≤ 1000000000 :=
  Nat.le_trans (isz_le (k := 3) (by rw [BB_eq];omega)) (by omega)
theorem ofQ_any (i k : Int) (w : World) (h0 : -9223372036854775808 ≤ i) (h1 : i ≤ 9223372036854775807) (h2 : -9223372036854775808 ≤ k) (h3 : k ≤ 9223372036854775807) (hk : k ≠ 0) :
    Calls Tryz.prog 64 #[.int .i64 i,.int .i64 k] w (GQC (Rat.divInt i k) 0 w) := by
  have hz1 := isz_i64 h0 h1
  have hz2 := isz_i64 h2 h3
  have hB_0 : Below w.heap.size w w := Below.refl _ _
  go_enter Tryz.func64,Tryz.ntmps64
  go_wp2_with fail
  (with_reducible refine (of_any _ _ (by omega) (by omega)).mono ?_)
  rintro e w1 ⟨v1,rfl,hi1,hb1⟩
  obtain ⟨g1,p1,n1,c1,rfl⟩ := hi1.form
  go_wp2_with fail
  (with_reducible refine (of_any _ _ (by omega) (by omega)).mono ?_)
  rintro e w2 ⟨v2,rfl,hi2,hb2⟩
  obtain ⟨g2,p2,n2,c2,rfl⟩ := hi2.form
  go_wp2_with fail
  have n0 := (hi1.below hb2)
  have l0 := n0.rawV
  have m0 := hi2.rawV
  (with_reducible refine (newQ_ok _ _ _ _ (i) (k) _ l0 m0 hz1 hz2 hk).mono ?_)
  rintro e w3 ⟨v3,rfl,hi3,hb3⟩
  obtain ⟨g3,p3,n3,c3,h3,o3,m3,e3,rfl⟩ := hi3.form
  obtain ⟨hA1,k0⟩ := bx1 w rfl [.bool false,.slice none 0 0,.bool false,.slice none 0 0] 30
  have q0_3 := (((k0.to hb1).to hb2).to hb3)
  obtain ⟨a0,e0,b0,f0,c0,g0,d0,i0⟩ := q0_3.cf4
  have j0 := (Below.tr (Below.tr (Below.tr (Below.tr hB_0 hA1) hb1) hb2) hb3)
  go_wp2_with fail
  exact bodyPost_ret (v := .tuple #[.agg #[.bool g3,.slice p3 n3 c3,.bool h3,.slice o3 m3 e3],.int .i64 0]) (by simp [results,Tryz.results64,go_sem,a0,e0,b0,f0,c0,g0,d0,i0]) rfl ⟨_,rfl,(hi3.sets4 q0_3 rfl rfl rfl rfl (.bool g3) (.slice p3 n3 c3) (.bool h3) (.slice o3 m3 e3)),(Below.sets4 j0 (b := w.heap.size) (by omega) (.bool g3) (.slice p3 n3 c3) (.bool h3) (.slice o3 m3 e3))⟩
theorem signQ_any (v : Value) (q : Rat) (w : World) (h : RQ w v q) (hl : rsz q ≤ 1000000000) :
    Calls Tryz.prog 109 #[v] w (fun e w' => e = .returned (.int .i64 (sgn q.num)) ∧ Below w.heap.size w w') := signQ_raw v true q w h.raw (h.qn hl)
theorem negQ_any (v : Value) (q : Rat) (w : World) (h : RQ w v q) (hl : rsz q ≤ 1000000000) :
    Calls Tryz.prog 108 #[v] w (GQ (-q) w) := negQ_raw v true q w h.raw (h.qn hl)
theorem absQ_any (v : Value) (q : Rat) (w : World) (h : RQ w v q) (hl : rsz q ≤ 1000000000) :
    Calls Tryz.prog 89 #[v] w (GQ (absQ q) w) := absQ_raw v true q w h.raw (h.qn hl)
theorem floorQ_any (v : Value) (q : Rat) (w : World) (h : RQ w v q) (hl : rsz q ≤ 1000000000) :
    Calls Tryz.prog 92 #[v] w (GInt q.floor w) := floorQ_raw v true q w h.raw (h.qn hl)
end Go.Proofs.YtidfgdchcpmnfaaGreat
namespace Go.Proofs.YtidfgdchcpmnfaaGreat
open Go.RowKit
set_option maxRecDepth 100000
set_option maxHeartbeats 4000000
set_option linter.unusedSimpArgs false
set_option linter.unusedVariables false
theorem Qn.up {v : Value} {k m : Nat} (h : Qn v k) (hk : k ≤ m) : Qn v m := by
  obtain ⟨b,p,n,c,b',p',n',c',e,h1,h2⟩ := h
  exact ⟨b,p,n,c,b',p',n',c',e,by omega,by omega⟩
theorem den_mul_ne (x y : Rat) : (x.den : Int) * y.den ≠ 0 := by
  have := rat_den_pos x;have := rat_den_pos y
  exact Int.ne_of_gt (Int.mul_pos (by assumption) (by assumption))
theorem addQ_raw (v u : Value) (o1 o2 : Bool) (x y : Rat) (w : World) (h1 : QRaw w v o1 x) (h2 : QRaw w u o2 y) (n1 : Qn v 400000000) (n2 : Qn u 400000000) :
    Calls Tryz.prog 52 #[v,u] w (GQ (x + y) w) := by
  obtain ⟨b,p,n,c,d,o,m,e,rfl⟩ := h1.form
  obtain ⟨f,i,j,k,g,r,t,a,rfl⟩ := h2.form
  have hl := h1.rsz_le n1 (by omega)
  have hl2 := h2.rsz_le n2 (by omega)
  have m1 := n1.up (show 400000000 ≤ 1000000000 by omega)
  have m2 := n2.up (show 400000000 ≤ 1000000000 by omega)
  have b1 := rsz_num x
  have b2 := rsz_den x
  have b3 := rsz_num y
  have b4 := rsz_den y
  have c1 := isz_mul x.num y.den
  have c2 := isz_mul y.num x.den
  have c3 := isz_add (x.num * y.den) (y.num * x.den)
  have c4 := isz_mul x.den y.den
  have HX := Lib.hid (rat_add x y)
  have hd0 := den_mul_ne x y
  have hB_0 : Below w.heap.size w w := Below.refl _ _
  go_enter Tryz.func52,Tryz.ntmps52
  go_wp2_with fail
  obtain ⟨hA1,y0,z0,k1⟩ := bx3 w rfl [.bool b,.slice p n c,.bool d,.slice o m e] 30 [.bool f,.slice i j k,.bool g,.slice r t a] 30 [.bool false,.slice none 0 0,.bool false,.slice none 0 0] 30
  obtain ⟨q2,a3,s2,e3,u2,h3,y2,j3⟩ := y0.drew.cf4
  obtain ⟨l3,x3,o3,z3,r3,d4,t3,f4⟩ := z0.drew.cf4
  have tk1 : True := trivial
  have tk2 : True := trivial
  go_region_with
    (first
      | (((have := tk1);clear tk1;have l1 := (h1.below hA1).drew;go_at_call 105;(with_reducible refine (valueQ_raw _ _ (x) _ l1 m1).mono ?_);rintro e w1 ⟨v1,rfl,hi1,hb1⟩;obtain ⟨g1,p1,n1,c1,h1,o1,m1,e1,rfl⟩ := hi1.form;have q1_1 := (z0.drew.to hb1);obtain ⟨m3,y3,q3,a4,s3,e4,u3,h4⟩ := q1_1.cf4;have q0_1 := (y0.drew.to hb1);obtain ⟨r2,d3,t2,f3,x2,i3,z2,k3⟩ := q0_1.cf4))
      | (((have := tk2);clear tk2;have h2_1 := ((h2.below hA1).drew.below hb1);have q1 := h2_1;go_at_call 105;(with_reducible refine (valueQ_raw _ _ (y) _ q1 m2).mono ?_);rintro e w2 ⟨v2,rfl,hi2,hb2⟩;obtain ⟨g2,p2,n2,c2,h2,o2,m2,e2,rfl⟩ := hi2.form;have q0_2 := (q0_1.to hb2);obtain ⟨a0,e0,b0,f0,c0,g0,d0,h0⟩ := q0_2.cf4;have q1_2 := (q1_1.to hb2);obtain ⟨i0,m0,j0,n0,k0,o0,l0,p0⟩ := q1_2.cf4)))
  all_goals
    go_wp2_with fail
    have q2_2 := ((k1.drew.to hb1).to hb2)
    have S0_2 := (AndS.mk (((q0_2.store4 (.bool g1) (.slice p1 n1 c1) (.bool h1) (.slice o1 m1 e1)).other4 (b := w.heap.size + 1) (by omega) (.bool g2) (.slice p2 n2 c2) (.bool h2) (.slice o2 m2 e2)).drew).bs4 (AndS.mk (((q1_2.other4 (b := w.heap.size) (by omega) (.bool g1) (.slice p1 n1 c1) (.bool h1) (.slice o1 m1 e1)).store4 (.bool g2) (.slice p2 n2 c2) (.bool h2) (.slice o2 m2 e2)).drew).bs4 (BN.of (((q2_2.other4 (b := w.heap.size) (by omega) (.bool g1) (.slice p1 n1 c1) (.bool h1) (.slice o1 m1 e1)).other4 (b := w.heap.size + 1) (by omega) (.bool g2) (.slice p2 n2 c2) (.bool h2) (.slice o2 m2 e2)).drew))))
    have i1 : HeldC (w.heap.size + 1 + 1) (AndS (BS4 w.heap.size (.bool g1) (.slice p1 n1 c1) (.bool h1) (.slice o1 m1 e1)) (AndS (BS4 (w.heap.size + 1) (.bool g2) (.slice p2 n2 c2) (.bool h2) (.slice o2 m2 e2)) (BN (w.heap.size + 1 + 1)))) := (AndS.hc (BS4.hc (by omega)) (AndS.hc (BS4.hc (by omega)) BN.hc))
    have tk3 : True := trivial
    have tk4 : True := trivial
    have tk5 : True := trivial
    have tk6 : True := trivial
    have tk7 : True := trivial
    go_region_held3 (AndS (BS4 w.heap.size (.bool g1) (.slice p1 n1 c1) (.bool h1) (.slice o1 m1 e1)) (AndS (BS4 (w.heap.size + 1) (.bool g2) (.slice p2 n2 c2) (.bool h2) (.slice o2 m2 e2)) (BN (w.heap.size + 1 + 1)))) (first | with_reducible exact S0_2 | with_reducible exact HeldK.go (AndS.hk BS4.hk (AndS.hk BS4.hk BN.hk)) (by assumption) (by assumption) | with_reducible exact HeldC.go4 i1 (by assumption) | (simp;done))
      (first
        | (((have := tk3);clear tk3;have a1 := (hi1.below hb2);have r1 := ((a1.sets4 q0_2 rfl rfl rfl rfl (.bool g1) (.slice p1 n1 c1) (.bool h1) (.slice o1 m1 e1)).sets4 (q1_2.other4 (b := w.heap.size) (by omega) (.bool g1) (.slice p1 n1 c1) (.bool h1) (.slice o1 m1 e1)) rfl rfl rfl rfl (.bool g2) (.slice p2 n2 c2) (.bool h2) (.slice o2 m2 e2)).drew.num.raw;have s1 := ((hi2.sets4 q0_2 rfl rfl rfl rfl (.bool g1) (.slice p1 n1 c1) (.bool h1) (.slice o1 m1 e1)).sets4 (q1_2.other4 (b := w.heap.size) (by omega) (.bool g1) (.slice p1 n1 c1) (.bool h1) (.slice o1 m1 e1)) rfl rfl rfl rfl (.bool g2) (.slice p2 n2 c2) (.bool h2) (.slice o2 m2 e2)).drew.den.raw;go_at_call 71;(with_reducible refine (mul_any _ _ (((x)).num) ((((y)).den : Int)) _ r1 s1 (by omega) (by omega)).mono ?_);rintro e w3 ⟨v3,rfl,hi3,hb3⟩;obtain ⟨g3,p3,n3,c3,rfl⟩ := hi3.form))
        | (((have := tk4);clear tk4;have f1 := (((hi2.sets4 q0_2 rfl rfl rfl rfl (.bool g1) (.slice p1 n1 c1) (.bool h1) (.slice o1 m1 e1)).sets4 (q1_2.other4 (b := w.heap.size) (by omega) (.bool g1) (.slice p1 n1 c1) (.bool h1) (.slice o1 m1 e1)) rfl rfl rfl rfl (.bool g2) (.slice p2 n2 c2) (.bool h2) (.slice o2 m2 e2)).drew.below hb3);have t1 := f1.num.raw;have d1 := (((a1.sets4 q0_2 rfl rfl rfl rfl (.bool g1) (.slice p1 n1 c1) (.bool h1) (.slice o1 m1 e1)).sets4 (q1_2.other4 (b := w.heap.size) (by omega) (.bool g1) (.slice p1 n1 c1) (.bool h1) (.slice o1 m1 e1)) rfl rfl rfl rfl (.bool g2) (.slice p2 n2 c2) (.bool h2) (.slice o2 m2 e2)).drew.below hb3);have u1 := d1.den.raw;go_at_call 71;(with_reducible refine (mul_any _ _ (((y)).num) ((((x)).den : Int)) _ t1 u1 (by omega) (by omega)).mono ?_);rintro e w4 ⟨v4,rfl,hi4,hb4⟩;obtain ⟨g4,p4,n4,c4,rfl⟩ := hi4.form))
        | (((have := tk5);clear tk5;have k2 := (hi3.below hb4);have x1 := k2.raw;have y1 := hi4.raw;go_at_call 107;(with_reducible refine (add_any _ _ ((((x)).num) * ((((y)).den : Int))) ((((y)).num) * ((((x)).den : Int))) _ x1 y1 (by omega) (by omega)).mono ?_);rintro e w5 ⟨v5,rfl,hi5,hb5⟩;obtain ⟨g5,p5,n5,c5,rfl⟩ := hi5.form))
        | (((have := tk6);clear tk6;have i2 := ((d1.below hb4).below hb5);have z1 := i2.den.raw;have j2 := ((f1.below hb4).below hb5);have a2 := j2.den.raw;go_at_call 71;(with_reducible refine (mul_any _ _ ((((x)).den : Int)) ((((y)).den : Int)) _ z1 a2 (by omega) (by omega)).mono ?_);rintro e w6 ⟨v6,rfl,hi6,hb6⟩;obtain ⟨g6,p6,n6,c6,rfl⟩ := hi6.form))
        | (((have := tk7);clear tk7;have l2 := (hi5.below hb6);have d2 := l2;have f2 := hi6;go_at_call 106;(with_reducible refine (reducedQ_any _ _ (((((x)).num) * ((((y)).den : Int))) + ((((y)).num) * ((((x)).den : Int)))) (((((x)).den : Int)) * ((((y)).den : Int))) _ d2 f2 (by omega) (by omega) hd0).mono ?_);rintro e w7 ⟨v7,rfl,hi7,hb7⟩;obtain ⟨g7,p7,n7,c7,h7,o7,m7,e7,rfl⟩ := hi7.form;have q2_7 := (((((((q2_2.other4 (b := w.heap.size) (by omega) (.bool g1) (.slice p1 n1 c1) (.bool h1) (.slice o1 m1 e1)).other4 (b := w.heap.size + 1) (by omega) (.bool g2) (.slice p2 n2 c2) (.bool h2) (.slice o2 m2 e2)).drew.to hb3).to hb4).to hb5).to hb6).to hb7);obtain ⟨q0,u0,r0,v0,s0,w0,t0,x0⟩ := q2_7.cf4)))
    have j1 := (Below.tr (Below.tr (Below.tr (Below.tr (Below.tr (Below.sets4 (Below.sets4 (Below.tr (Below.tr (Below.tr hB_0 hA1).drew hb1) hb2) (b := w.heap.size) (by omega) (.bool g1) (.slice p1 n1 c1) (.bool h1) (.slice o1 m1 e1)) (b := w.heap.size + 1) (by omega) (.bool g2) (.slice p2 n2 c2) (.bool h2) (.slice o2 m2 e2)).drew hb3) hb4) hb5) hb6) hb7)
    go_wp2_with fail
    exact bodyPost_ret (v := .agg #[.bool g7,.slice p7 n7 c7,.bool h7,.slice o7 m7 e7]) (by simp [results,Tryz.results52,go_sem,a0,e0,b0,f0,c0,g0,d0,h0,i0,m0,j0,n0,k0,o0,l0,p0,q0,u0,r0,v0,s0,w0,t0,x0]) rfl ⟨_,rfl,by rw [← HX.out];exact (hi7.sets4 q2_7 rfl rfl rfl rfl (.bool g7) (.slice p7 n7 c7) (.bool h7) (.slice o7 m7 e7)),(Below.sets4 j1 (b := w.heap.size + 1 + 1) (by omega) (.bool g7) (.slice p7 n7 c7) (.bool h7) (.slice o7 m7 e7))⟩
theorem mulQ_raw (v u : Value) (o1 o2 : Bool) (x y : Rat) (w : World) (h1 : QRaw w v o1 x) (h2 : QRaw w u o2 y) (n1 : Qn v 400000000) (n2 : Qn u 400000000) :
    Calls Tryz.prog 53 #[v,u] w (GQ (x * y) w) := by
  obtain ⟨b,p,n,c,d,o,m,e,rfl⟩ := h1.form
  obtain ⟨f,i,j,k,g,r,t,a,rfl⟩ := h2.form
  have hl := h1.rsz_le n1 (by omega)
  have hl2 := h2.rsz_le n2 (by omega)
  have m1 := n1.up (show 400000000 ≤ 1000000000 by omega)
  have m2 := n2.up (show 400000000 ≤ 1000000000 by omega)
  have b1 := rsz_num x
  have b2 := rsz_den x
  have b3 := rsz_num y
  have b4 := rsz_den y
  have c1 := isz_mul x.num y.num
  have c4 := isz_mul x.den y.den
  have HX := Lib.hid (rat_mul x y)
  have hd0 := den_mul_ne x y
  have hB_0 : Below w.heap.size w w := Below.refl _ _
  go_enter Tryz.func53,Tryz.ntmps53
  go_wp2_with fail
  obtain ⟨hA1,y0,z0,i1⟩ := bx3 w rfl [.bool b,.slice p n c,.bool d,.slice o m e] 30 [.bool f,.slice i j k,.bool g,.slice r t a] 30 [.bool false,.slice none 0 0,.bool false,.slice none 0 0] 30
  obtain ⟨a2,r2,f2,t2,j2,x2,l2,z2⟩ := y0.drew.cf4
  obtain ⟨d3,m3,f3,q3,i3,s3,k3,u3⟩ := z0.drew.cf4
  have tk1 : True := trivial
  have tk2 : True := trivial
  go_region_with
    (first
      | (((have := tk1);clear tk1;have j1 := (h1.below hA1).drew;go_at_call 105;(with_reducible refine (valueQ_raw _ _ (x) _ j1 m1).mono ?_);rintro e w1 ⟨v1,rfl,hi1,hb1⟩;obtain ⟨g1,p1,n1,c1,h1,o1,m1,e1,rfl⟩ := hi1.form;have q1_1 := (z0.drew.to hb1);obtain ⟨e3,o3,h3,r3,j3,t3,l3,x3⟩ := q1_1.cf4;have q0_1 := (y0.drew.to hb1);obtain ⟨d2,s2,i2,u2,k2,y2,q2,a3⟩ := q0_1.cf4))
      | (((have := tk2);clear tk2;have h2_1 := ((h2.below hA1).drew.below hb1);have k1 := h2_1;go_at_call 105;(with_reducible refine (valueQ_raw _ _ (y) _ k1 m2).mono ?_);rintro e w2 ⟨v2,rfl,hi2,hb2⟩;obtain ⟨g2,p2,n2,c2,h2,o2,m2,e2,rfl⟩ := hi2.form;have q0_2 := (q0_1.to hb2);obtain ⟨a0,e0,b0,f0,c0,g0,d0,h0⟩ := q0_2.cf4;have q1_2 := (q1_1.to hb2);obtain ⟨i0,m0,j0,n0,k0,o0,l0,p0⟩ := q1_2.cf4)))
  all_goals
    go_wp2_with fail
    have q2_2 := ((i1.drew.to hb1).to hb2)
    have S0_2 := (AndS.mk (((q0_2.store4 (.bool g1) (.slice p1 n1 c1) (.bool h1) (.slice o1 m1 e1)).other4 (b := w.heap.size + 1) (by omega) (.bool g2) (.slice p2 n2 c2) (.bool h2) (.slice o2 m2 e2)).drew).bs4 (AndS.mk (((q1_2.other4 (b := w.heap.size) (by omega) (.bool g1) (.slice p1 n1 c1) (.bool h1) (.slice o1 m1 e1)).store4 (.bool g2) (.slice p2 n2 c2) (.bool h2) (.slice o2 m2 e2)).drew).bs4 (BN.of (((q2_2.other4 (b := w.heap.size) (by omega) (.bool g1) (.slice p1 n1 c1) (.bool h1) (.slice o1 m1 e1)).other4 (b := w.heap.size + 1) (by omega) (.bool g2) (.slice p2 n2 c2) (.bool h2) (.slice o2 m2 e2)).drew))))
    have d1 : HeldC (w.heap.size + 1 + 1) (AndS (BS4 w.heap.size (.bool g1) (.slice p1 n1 c1) (.bool h1) (.slice o1 m1 e1)) (AndS (BS4 (w.heap.size + 1) (.bool g2) (.slice p2 n2 c2) (.bool h2) (.slice o2 m2 e2)) (BN (w.heap.size + 1 + 1)))) := (AndS.hc (BS4.hc (by omega)) (AndS.hc (BS4.hc (by omega)) BN.hc))
    have tk3 : True := trivial
    have tk4 : True := trivial
    have tk5 : True := trivial
    go_region_held3 (AndS (BS4 w.heap.size (.bool g1) (.slice p1 n1 c1) (.bool h1) (.slice o1 m1 e1)) (AndS (BS4 (w.heap.size + 1) (.bool g2) (.slice p2 n2 c2) (.bool h2) (.slice o2 m2 e2)) (BN (w.heap.size + 1 + 1)))) (first | with_reducible exact S0_2 | with_reducible exact HeldK.go (AndS.hk BS4.hk (AndS.hk BS4.hk BN.hk)) (by assumption) (by assumption) | with_reducible exact HeldC.go4 d1 (by assumption) | (simp;done))
      (first
        | (((have := tk3);clear tk3;have a1 := (hi1.below hb2);have l1 := ((a1.sets4 q0_2 rfl rfl rfl rfl (.bool g1) (.slice p1 n1 c1) (.bool h1) (.slice o1 m1 e1)).sets4 (q1_2.other4 (b := w.heap.size) (by omega) (.bool g1) (.slice p1 n1 c1) (.bool h1) (.slice o1 m1 e1)) rfl rfl rfl rfl (.bool g2) (.slice p2 n2 c2) (.bool h2) (.slice o2 m2 e2)).drew.num.raw;have q1 := ((hi2.sets4 q0_2 rfl rfl rfl rfl (.bool g1) (.slice p1 n1 c1) (.bool h1) (.slice o1 m1 e1)).sets4 (q1_2.other4 (b := w.heap.size) (by omega) (.bool g1) (.slice p1 n1 c1) (.bool h1) (.slice o1 m1 e1)) rfl rfl rfl rfl (.bool g2) (.slice p2 n2 c2) (.bool h2) (.slice o2 m2 e2)).drew.num.raw;go_at_call 71;(with_reducible refine (mul_any _ _ (((x)).num) (((y)).num) _ l1 q1 (by omega) (by omega)).mono ?_);rintro e w3 ⟨v3,rfl,hi3,hb3⟩;obtain ⟨g3,p3,n3,c3,rfl⟩ := hi3.form))
        | (((have := tk4);clear tk4;have x1 := (((a1.sets4 q0_2 rfl rfl rfl rfl (.bool g1) (.slice p1 n1 c1) (.bool h1) (.slice o1 m1 e1)).sets4 (q1_2.other4 (b := w.heap.size) (by omega) (.bool g1) (.slice p1 n1 c1) (.bool h1) (.slice o1 m1 e1)) rfl rfl rfl rfl (.bool g2) (.slice p2 n2 c2) (.bool h2) (.slice o2 m2 e2)).drew.below hb3);have r1 := x1.den.raw;have y1 := (((hi2.sets4 q0_2 rfl rfl rfl rfl (.bool g1) (.slice p1 n1 c1) (.bool h1) (.slice o1 m1 e1)).sets4 (q1_2.other4 (b := w.heap.size) (by omega) (.bool g1) (.slice p1 n1 c1) (.bool h1) (.slice o1 m1 e1)) rfl rfl rfl rfl (.bool g2) (.slice p2 n2 c2) (.bool h2) (.slice o2 m2 e2)).drew.below hb3);have s1 := y1.den.raw;go_at_call 71;(with_reducible refine (mul_any _ _ ((((x)).den : Int)) ((((y)).den : Int)) _ r1 s1 (by omega) (by omega)).mono ?_);rintro e w4 ⟨v4,rfl,hi4,hb4⟩;obtain ⟨g4,p4,n4,c4,rfl⟩ := hi4.form))
        | (((have := tk5);clear tk5;have z1 := (hi3.below hb4);have t1 := z1;have u1 := hi4;go_at_call 106;(with_reducible refine (reducedQ_any _ _ ((((x)).num) * (((y)).num)) (((((x)).den : Int)) * ((((y)).den : Int))) _ t1 u1 (by omega) (by omega) hd0).mono ?_);rintro e w5 ⟨v5,rfl,hi5,hb5⟩;obtain ⟨g5,p5,n5,c5,h5,o5,m5,e5,rfl⟩ := hi5.form;have q2_5 := (((((q2_2.other4 (b := w.heap.size) (by omega) (.bool g1) (.slice p1 n1 c1) (.bool h1) (.slice o1 m1 e1)).other4 (b := w.heap.size + 1) (by omega) (.bool g2) (.slice p2 n2 c2) (.bool h2) (.slice o2 m2 e2)).drew.to hb3).to hb4).to hb5);obtain ⟨q0,u0,r0,v0,s0,w0,t0,x0⟩ := q2_5.cf4)))
    have f1 := (Below.tr (Below.tr (Below.tr (Below.sets4 (Below.sets4 (Below.tr (Below.tr (Below.tr hB_0 hA1).drew hb1) hb2) (b := w.heap.size) (by omega) (.bool g1) (.slice p1 n1 c1) (.bool h1) (.slice o1 m1 e1)) (b := w.heap.size + 1) (by omega) (.bool g2) (.slice p2 n2 c2) (.bool h2) (.slice o2 m2 e2)).drew hb3) hb4) hb5)
    go_wp2_with fail
    exact bodyPost_ret (v := .agg #[.bool g5,.slice p5 n5 c5,.bool h5,.slice o5 m5 e5]) (by simp [results,Tryz.results53,go_sem,a0,e0,b0,f0,c0,g0,d0,h0,i0,m0,j0,n0,k0,o0,l0,p0,q0,u0,r0,v0,s0,w0,t0,x0]) rfl ⟨_,rfl,by rw [← HX.out];exact (hi5.sets4 q2_5 rfl rfl rfl rfl (.bool g5) (.slice p5 n5 c5) (.bool h5) (.slice o5 m5 e5)),(Below.sets4 f1 (b := w.heap.size + 1 + 1) (by omega) (.bool g5) (.slice p5 n5 c5) (.bool h5) (.slice o5 m5 e5))⟩
theorem addQ_any (v u : Value) (x y : Rat) (w : World) (h1 : RQ w v x) (h2 : RQ w u y) (l1 : rsz x ≤ 400000000) (l2 : rsz y ≤ 400000000) :
    Calls Tryz.prog 52 #[v,u] w (GQ (x + y) w) := addQ_raw v u true true x y w h1.raw h2.raw (h1.qn l1) (h2.qn l2)
theorem mulQ_any (v u : Value) (x y : Rat) (w : World) (h1 : RQ w v x) (h2 : RQ w u y) (l1 : rsz x ≤ 400000000) (l2 : rsz y ≤ 400000000) :
    Calls Tryz.prog 53 #[v,u] w (GQ (x * y) w) := mulQ_raw v u true true x y w h1.raw h2.raw (h1.qn l1) (h2.qn l2)
end Go.Proofs.YtidfgdchcpmnfaaGreat
