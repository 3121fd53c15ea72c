/-
  Lemmas for the statements about rotations, part 48 of 51.
-/
import Derived.Test.YtidfgdchcpmnfaaGreatZb11
import Derived.Test.YtidfgdchcpmnfaaGreatZb31
import Derived.Test.YtidfgdchcpmnfaaGreatZb45
import Derived.Test.YtidfgdchcpmnfaaGreatZb46
import Derived.Test.YtidfgdchcpmnfaaGreatZb47
namespace Go.Proofs.YtidfgdchcpmnfaaGreat
open Go.RowKit
set_option maxRecDepth 100000
set_option maxHeartbeats 8000000
set_option linter.unusedSimpArgs false
set_option linter.unusedVariables false
theorem RowI.of4 {w : World} {B : Nat} {a0 a1 b0 b1 c0 c1 d0 d1 : Value} {xs : Nat → Int} (h : Bx w B [a0,a1,b0,b1,c0,c1,d0,d1]) (ha : Raw w (.agg #[a0,a1]) (xs 0)) (hb : Raw w (.agg #[b0,b1]) (xs 1)) (hc : Raw w (.agg #[c0,c1]) (xs 2)) (hd : Raw w (.agg #[d0,d1]) (xs 3)) : RowI w (.slice (some ⟨B,0,none⟩) 4 4) 4 xs := by
  refine ⟨_,_,rfl,Nat.le_refl _,by omega,fun _ => ⟨B,0,rfl,h.1,fun i hi => ?_⟩⟩
  obtain rfl | rfl | rfl | rfl : i = 0 ∨ i = 1 ∨ i = 2 ∨ i = 3 := by omega
  · exact ⟨_,_,(h.2 0 _ rfl).1,(h.2 1 _ rfl).1,ha⟩
  · exact ⟨_,_,(h.2 2 _ rfl).1,(h.2 3 _ rfl).1,hb⟩
  · exact ⟨_,_,(h.2 4 _ rfl).1,(h.2 5 _ rfl).1,hc⟩
  · exact ⟨_,_,(h.2 6 _ rfl).1,(h.2 7 _ rfl).1,hd⟩
theorem rprim_f {za zb zc zd ze : Int} (s : Value) (xs : Nat → Int) (w : World) (h : RowI w s 4 xs) (hl : ∀ j,j < 4 → isz (xs j) ≤ 400000000) (hne : ∃ j,j < 4 ∧ xs j ≠ 0) (hz : primV xs = .tuple #[.agg #[.int .i64 za,.int .i64 zb,.int .i64 zc,.int .i64 zd],.int .i64 ze]) :
    Calls Tryz.prog 96 #[s] w (GV (.tuple #[.agg #[.int .i64 za,.int .i64 zb,.int .i64 zc,.int .i64 zd],.int .i64 ze]) w) := by
  have := rprim_any s xs w h hl hne
  rw [hz] at this
  exact this
theorem rofInts_any (a b c d : Int) (w : World) (ha0 : -9223372036854775808 ≤ a) (ha1 : a ≤ 9223372036854775807) (hb0 : -9223372036854775808 ≤ b) (hb1 : b ≤ 9223372036854775807) (hc0 : -9223372036854775808 ≤ c) (hc1 : c ≤ 9223372036854775807) (hd0 : -9223372036854775808 ≤ d) (hd1 : d ≤ 9223372036854775807) (hne : ¬ (a = 0 ∧ b = 0 ∧ c = 0 ∧ d = 0)) :
    Calls Tryz.prog 80 #[.int .i64 a,.int .i64 b,.int .i64 c,.int .i64 d] w (GV (primV (xs4 a b c d)) w) := by
  obtain ⟨za,zb,zc,zd,ze,hz⟩ := primV_form (xs4 a b c d)
  have HZ := Lib.hid hz
  have HLX : Hid (∀ j,j < 4 → isz (xs4 a b c d j) ≤ 400000000) := Lib.hid (fun j hj => by
    obtain rfl | rfl | rfl | rfl : j = 0 ∨ j = 1 ∨ j = 2 ∨ j = 3 := by omega
    · exact isz_word ha0 ha1
    · exact isz_word hb0 hb1
    · exact isz_word hc0 hc1
    · exact isz_word hd0 hd1)
  have HNX : Hid (∃ j,j < 4 ∧ xs4 a b c d j ≠ 0) := Lib.hid (by
    by_cases h1 : a = 0
    · by_cases h2 : b = 0
      · by_cases h3 : c = 0
        · exact ⟨3,by omega,fun e => hne ⟨h1,h2,h3,e⟩⟩
        · exact ⟨2,by omega,h3⟩
      · exact ⟨1,by omega,h2⟩
    · exact ⟨0,by omega,h1⟩)
  clear hz hne
  have hB_0 : Below w.heap.size w w := Below.refl _ _
  go_enter Tryz.func80,Tryz.ntmps80
  go_wp2_with fail
  (with_reducible refine (rof_any _ _ (by omega) (by omega)).mono ?_)
  rintro e w1 ⟨v1,rfl,hi1,hb1⟩
  obtain ⟨g1,p1,n1,c1,rfl⟩ := hi1.form
  go_wp2_with fail
  (with_reducible refine (rof_any _ _ (by omega) (by omega)).mono ?_)
  rintro e w2 ⟨v2,rfl,hi2,hb2⟩
  obtain ⟨g2,p2,n2,c2,rfl⟩ := hi2.form
  go_wp2_with fail
  (with_reducible refine (rof_any _ _ (by omega) (by omega)).mono ?_)
  rintro e w3 ⟨v3,rfl,hi3,hb3⟩
  obtain ⟨g3,p3,n3,c3,rfl⟩ := hi3.form
  go_wp2_with fail
  (with_reducible refine (rof_any _ _ (by omega) (by omega)).mono ?_)
  rintro e w4 ⟨v4,rfl,hi4,hb4⟩
  obtain ⟨g4,p4,n4,c4,rfl⟩ := hi4.form
  obtain ⟨hA1,l0⟩ := bx1 w rfl [.int .i64 0,.int .i64 0,.int .i64 0,.int .i64 0] 33
  have j0 := ((((l0.to hb1).to hb2).to hb3).to hb4)
  have i0 := (j0).1
  obtain ⟨hA2,m0⟩ := bx1 w4 rfl [.bool g1,.slice p1 n1 c1,.bool g2,.slice p2 n2 c2,.bool g3,.slice p3 n3 c3,.bool g4,.slice p4 n4 c4] 28
  have n0 := (((hi1.below hb2).below hb3).below hb4)
  have o0 := ((hi2.below hb3).below hb4)
  have p0 := (hi3.below hb4)
  have hrow := RowI.of4 (xs := xs4 a b c d) (m0) ((n0.below hA2)).raw ((o0.below hA2)).raw ((p0.below hA2)).raw ((hi4.below hA2)).raw
  go_wp2_with fail
  (with_reducible refine (rprim_f _ (xs4 a b c d) _ hrow HLX.out HNX.out HZ.out).mono ?_)
  rintro e w5 ⟨rfl,hb5⟩
  have q0 := ((j0.to hA2).to hb5)
  obtain ⟨a0,e0,b0,f0,c0,g0,d0,h0⟩ := q0.cf4
  have k0 := (Below.tr (Below.tr (Below.tr (Below.tr (Below.tr (Below.tr (Below.tr hB_0 hA1) hb1) hb2) hb3) hb4) hA2) hb5)
  go_wp2_with fail
  exact bodyPost_ret (v := .tuple #[.agg #[.int .i64 za,.int .i64 zb,.int .i64 zc,.int .i64 zd],.int .i64 ze]) (by simp [results,Tryz.results80,go_sem,i0,a0,e0,b0,f0,c0,g0,d0,h0]) rfl ⟨by rw [HZ.out],(Below.sets4 k0 (b := w.heap.size) (by omega) (.int .i64 za) (.int .i64 zb) (.int .i64 zc) (.int .i64 zd))⟩
theorem rcanon_ok (a b c d : Int) (w : World) (hq : qcode a b c d = 0) :
    Calls Tryz.prog 27 #[.agg #[.int .i64 a,.int .i64 b,.int .i64 c,.int .i64 d]] w (GV (canonV a b c d) w) := by
  obtain ⟨za,zb,zc,zd,ze,hz⟩ := primV_form (xs4 a b c d)
  obtain ⟨hne,oa,ob,oc,od⟩ := qcode_ok hq
  unfold okc at oa ob oc od
  have HV : Hid (canonV a b c d = .tuple #[.agg #[.int .i64 za,.int .i64 zb,.int .i64 zc,.int .i64 zd],.int .i64 ze]) := Lib.hid (by unfold canonV;rw [if_pos hq,hz])
  have HNE : Hid (¬ (a = 0 ∧ b = 0 ∧ c = 0 ∧ d = 0)) := Lib.hid hne
  have hred : ∀ w : World,Calls Tryz.prog 80 #[.int .i64 a,.int .i64 b,.int .i64 c,.int .i64 d] w (GV (.tuple #[.agg #[.int .i64 za,.int .i64 zb,.int .i64 zc,.int .i64 zd],.int .i64 ze]) w) := fun w => by
    rw [← hz]
    exact rofInts_any _ _ _ _ w (by omega) (by omega) (by omega) (by omega) (by omega) (by omega) (by omega) (by omega) HNE.out
  have HRED := Lib.hid hred
  have hqt : (qcode a b c d == 0) = true := by simp [hq]
  have hqt2 : (qcode a b c d != 0) = false := by simp [hq]
  clear hz hne hred hq
  have hB_0 : Below w.heap.size w w := Below.refl _ _
  go_enter Tryz.func27,Tryz.ntmps27
  go_wp2_with fail
  (with_reducible refine (rcheck_any _ _ _ _ _).mono ?_)
  rintro e w1 ⟨rfl,hb1⟩
  obtain ⟨hA1,j0,k0⟩ := bx2 w rfl [.int .i64 a,.int .i64 b,.int .i64 c,.int .i64 d] 33 [.int .i64 0,.int .i64 0,.int .i64 0,.int .i64 0] 33
  have q0_1 := (j0.to hb1)
  obtain ⟨l0,m0,n0,o0⟩ := q0_1.cs4
  go_wp2_with fail
  (with_reducible refine (HRED.out _).mono ?_)
  rintro e w2 ⟨rfl,hb2⟩
  have q1_2 := ((k0.to hb1).to hb2)
  obtain ⟨a0,e0,b0,f0,c0,g0,d0,h0⟩ := q1_2.cf4
  have i0 := (Below.tr (Below.tr (Below.tr hB_0 hA1) hb1) hb2)
  go_wp2_with fail
  exact bodyPost_ret (v := .tuple #[.agg #[.int .i64 za,.int .i64 zb,.int .i64 zc,.int .i64 zd],.int .i64 ze]) (by simp [results,Tryz.results27,go_sem,a0,e0,b0,f0,c0,g0,d0,h0]) rfl ⟨by rw [HV.out],(Below.sets4 i0 (b := w.heap.size + 1) (by omega) (.int .i64 za) (.int .i64 zb) (.int .i64 zc) (.int .i64 zd))⟩
theorem rcanon_no (a b c d : Int) (w : World) (hq : ¬ qcode a b c d = 0) :
    Calls Tryz.prog 27 #[.agg #[.int .i64 a,.int .i64 b,.int .i64 c,.int .i64 d]] w (GV (canonV a b c d) w) := by
  have HV : Hid (canonV a b c d = .tuple #[.agg #[.int .i64 0,.int .i64 0,.int .i64 0,.int .i64 0],.int .i64 (qcode a b c d)]) := Lib.hid (by unfold canonV;exact if_neg hq)
  have hqt : (qcode a b c d == 0) = false := by simpa using hq
  have hqt2 : (qcode a b c d != 0) = true := by simpa using hq
  clear hq
  have hB_0 : Below w.heap.size w w := Below.refl _ _
  go_enter Tryz.func27,Tryz.ntmps27
  go_wp2_with fail
  (with_reducible refine (rcheck_any _ _ _ _ _).mono ?_)
  rintro e w1 ⟨rfl,hb1⟩
  obtain ⟨hA1,k0,j0⟩ := bx2 w rfl [.int .i64 a,.int .i64 b,.int .i64 c,.int .i64 d] 33 [.int .i64 0,.int .i64 0,.int .i64 0,.int .i64 0] 33
  have q1_1 := (j0.to hb1)
  obtain ⟨a0,e0,b0,f0,c0,g0,d0,h0⟩ := q1_1.cf4
  have i0 := (Below.tr (Below.tr hB_0 hA1) hb1)
  go_wp2_with fail
  exact bodyPost_ret (v := .tuple #[.agg #[.int .i64 0,.int .i64 0,.int .i64 0,.int .i64 0],.int .i64 (qcode a b c d)]) (by simp [results,Tryz.results27,go_sem,a0,e0,b0,f0,c0,g0,d0,h0]) rfl ⟨by rw [HV.out],(Below.sets4 i0 (b := w.heap.size + 1) (by omega) (.int .i64 0) (.int .i64 0) (.int .i64 0) (.int .i64 0))⟩
theorem rcanon_any (a b c d : Int) (w : World) : Calls Tryz.prog 27 #[.agg #[.int .i64 a,.int .i64 b,.int .i64 c,.int .i64 d]] w (GV (canonV a b c d) w) := by
  by_cases hq : qcode a b c d = 0
  · exact rcanon_ok a b c d w hq
  · exact rcanon_no a b c d w hq
end Go.Proofs.YtidfgdchcpmnfaaGreat
namespace Go.Proofs.YtidfgdchcpmnfaaGreat
open Go.RowKit
set_option maxRecDepth 100000
set_option maxHeartbeats 16000000
set_option linter.unusedSimpArgs false
set_option linter.unusedVariables false
theorem rboth_any (a b c d e f g h : Int) (w : World) :
    Calls Tryz.prog 72 #[.agg #[.int .i64 a,.int .i64 b,.int .i64 c,.int .i64 d],.agg #[.int .i64 e,.int .i64 f,.int .i64 g,.int .i64 h]] w (GI (qcode2 a b c d e f g h) w) := by
  have hB0 : Below w.heap.size w ((w.alloc (.cells #[.int .i64 a,.int .i64 b,.int .i64 c,.int .i64 d] 33)).alloc (.cells #[.int .i64 e,.int .i64 f,.int .i64 g,.int .i64 h] 33)) := Below.al ((Below.refl _ _).alloc (Nat.le_refl _) _) _
  have xb : Bx ((w.alloc (.cells #[.int .i64 a,.int .i64 b,.int .i64 c,.int .i64 d] 33)).alloc (.cells #[.int .i64 e,.int .i64 f,.int .i64 g,.int .i64 h] 33)) (w.heap.size + 1) [.int .i64 e,.int .i64 f,.int .i64 g,.int .i64 h] := by have := Bx.new (w.alloc (.cells #[.int .i64 a,.int .i64 b,.int .i64 c,.int .i64 d] 33)) [.int .i64 e,.int .i64 f,.int .i64 g,.int .i64 h] 33;simpa using this
  by_cases hq : qcode a b c d = 0
  · have hqt : (qcode a b c d == 0) = true := by simp [hq]
    have hqt2 : (qcode a b c d != 0) = false := by simp [hq]
    have HQ : Hid (qcode2 a b c d e f g h = qcode e f g h) := Lib.hid (if_pos hq)
    clear hq
    go_enter Tryz.func72,Tryz.ntmps72
    go_wp2_with fail
    refine (rcheck_any a b c d _).mono ?_
    rintro x w1 ⟨rfl,hb1⟩
    have yb := xb.to hb1
    have y0 := yb.c0
    have y1 := yb.c1
    have y2 := yb.c2
    have y3 := yb.c3
    go_wp2_with fail
    refine (rcheck_any e f g h _).mono ?_
    rintro x w2 ⟨rfl,hb2⟩
    go_wp2_with fail
    go_ret
    exact ⟨ret_int HQ.out.symm,Below.tr (Below.tr hB0 hb1) hb2⟩
  · have hqt : (qcode a b c d == 0) = false := by simpa using hq
    have hqt2 : (qcode a b c d != 0) = true := by simpa using hq
    have HQ : Hid (qcode2 a b c d e f g h = qcode a b c d) := Lib.hid (if_neg hq)
    clear hq
    go_enter Tryz.func72,Tryz.ntmps72
    go_wp2_with fail
    refine (rcheck_any a b c d _).mono ?_
    rintro x w1 ⟨rfl,hb1⟩
    go_wp2_with fail
    go_ret
    exact ⟨ret_int HQ.out.symm,Below.tr hB0 hb1⟩
end Go.Proofs.YtidfgdchcpmnfaaGreat
namespace Go.Proofs.YtidfgdchcpmnfaaGreat
open Go.RowKit
set_option maxRecDepth 100000
set_option maxHeartbeats 16000000
set_option linter.unusedSimpArgs false
set_option linter.unusedVariables false
theorem rqmul_ok (a b c d e f g h : Int) (w : World) (hq : qcode2 a b c d e f g h = 0) :
    Calls Tryz.prog 32 #[.agg #[.int .i64 a,.int .i64 b,.int .i64 c,.int .i64 d],.agg #[.int .i64 e,.int .i64 f,.int .i64 g,.int .i64 h]] w (GV (mulV a b c d e f g h) w) := by
  have hq1 : qcode a b c d = 0 := by
    unfold qcode2 at hq
    by_cases h1 : qcode a b c d = 0
    · exact h1
    · rw [if_neg h1] at hq;exact absurd hq h1
  have hq2 : qcode e f g h = 0 := by unfold qcode2 at hq;rwa [if_pos hq1] at hq
  obtain ⟨n1,oa,ob,oc,od⟩ := qcode_ok hq1
  obtain ⟨n2,oe,of,og,oh⟩ := qcode_ok hq2
  obtain ⟨mae0,mae1⟩ := okc_mul oa oe
  obtain ⟨maf0,maf1⟩ := okc_mul oa of
  obtain ⟨mag0,mag1⟩ := okc_mul oa og
  obtain ⟨mah0,mah1⟩ := okc_mul oa oh
  obtain ⟨mbe0,mbe1⟩ := okc_mul ob oe
  obtain ⟨mbf0,mbf1⟩ := okc_mul ob of
  obtain ⟨mbg0,mbg1⟩ := okc_mul ob og
  obtain ⟨mbh0,mbh1⟩ := okc_mul ob oh
  obtain ⟨mce0,mce1⟩ := okc_mul oc oe
  obtain ⟨mcf0,mcf1⟩ := okc_mul oc of
  obtain ⟨mcg0,mcg1⟩ := okc_mul oc og
  obtain ⟨mch0,mch1⟩ := okc_mul oc oh
  obtain ⟨mde0,mde1⟩ := okc_mul od oe
  obtain ⟨mdf0,mdf1⟩ := okc_mul od of
  obtain ⟨mdg0,mdg1⟩ := okc_mul od og
  obtain ⟨mdh0,mdh1⟩ := okc_mul od oh
  obtain ⟨za,zb,zc,zd,ze,hz⟩ := primV_form (qmulX a b c d e f g h)
  have HV : Hid (mulV a b c d e f g h = .tuple #[.agg #[.int .i64 za,.int .i64 zb,.int .i64 zc,.int .i64 zd],.int .i64 ze]) := Lib.hid (by unfold mulV;rw [if_pos hq,hz])
  have HRED : Hid (∀ w : World,Calls Tryz.prog 80 #[.int .i64 (a * e - b * f - c * g - d * h),.int .i64 (a * f + b * e + c * h - d * g),.int .i64 (a * g - b * h + c * e + d * f),.int .i64 (a * h + b * g - c * f + d * e)] w (GV (.tuple #[.agg #[.int .i64 za,.int .i64 zb,.int .i64 zc,.int .i64 zd],.int .i64 ze]) w)) := Lib.hid (fun w => by
    rw [← hz]
    exact rofInts_any _ _ _ _ w (by omega) (by omega) (by omega) (by omega) (by omega) (by omega) (by omega) (by omega) (qmul_ne n1 n2))
  have hqt : (qcode2 a b c d e f g h == 0) = true := by simp [hq]
  have hqt2 : (qcode2 a b c d e f g h != 0) = false := by simp [hq]
  clear hq hq1 hq2 n1 n2 hz oa ob oc od oe of og oh
  have hB0 : Below w.heap.size w (((w.alloc (.cells #[.int .i64 a,.int .i64 b,.int .i64 c,.int .i64 d] 33)).alloc (.cells #[.int .i64 e,.int .i64 f,.int .i64 g,.int .i64 h] 33)).alloc (.cells #[.int .i64 0,.int .i64 0,.int .i64 0,.int .i64 0] 33)) := Below.al (Below.al ((Below.refl _ _).alloc (Nat.le_refl _) _) _) _
  have xa : Bx (((w.alloc (.cells #[.int .i64 a,.int .i64 b,.int .i64 c,.int .i64 d] 33)).alloc (.cells #[.int .i64 e,.int .i64 f,.int .i64 g,.int .i64 h] 33)).alloc (.cells #[.int .i64 0,.int .i64 0,.int .i64 0,.int .i64 0] 33)) w.heap.size [.int .i64 a,.int .i64 b,.int .i64 c,.int .i64 d] := by have := ((Bx.new w [.int .i64 a,.int .i64 b,.int .i64 c,.int .i64 d] 33).alloc (.cells #[.int .i64 e,.int .i64 f,.int .i64 g,.int .i64 h] 33)).alloc (.cells #[.int .i64 0,.int .i64 0,.int .i64 0,.int .i64 0] 33);simpa using this
  have xb : Bx (((w.alloc (.cells #[.int .i64 a,.int .i64 b,.int .i64 c,.int .i64 d] 33)).alloc (.cells #[.int .i64 e,.int .i64 f,.int .i64 g,.int .i64 h] 33)).alloc (.cells #[.int .i64 0,.int .i64 0,.int .i64 0,.int .i64 0] 33)) (w.heap.size + 1) [.int .i64 e,.int .i64 f,.int .i64 g,.int .i64 h] := by have := (Bx.new (w.alloc (.cells #[.int .i64 a,.int .i64 b,.int .i64 c,.int .i64 d] 33)) [.int .i64 e,.int .i64 f,.int .i64 g,.int .i64 h] 33).alloc (.cells #[.int .i64 0,.int .i64 0,.int .i64 0,.int .i64 0] 33);simpa using this
  have xr : Bx (((w.alloc (.cells #[.int .i64 a,.int .i64 b,.int .i64 c,.int .i64 d] 33)).alloc (.cells #[.int .i64 e,.int .i64 f,.int .i64 g,.int .i64 h] 33)).alloc (.cells #[.int .i64 0,.int .i64 0,.int .i64 0,.int .i64 0] 33)) (w.heap.size + 1 + 1) [.int .i64 0,.int .i64 0,.int .i64 0,.int .i64 0] := by have := Bx.new ((w.alloc (.cells #[.int .i64 a,.int .i64 b,.int .i64 c,.int .i64 d] 33)).alloc (.cells #[.int .i64 e,.int .i64 f,.int .i64 g,.int .i64 h] 33)) [.int .i64 0,.int .i64 0,.int .i64 0,.int .i64 0] 33;simpa using this
  go_enter Tryz.func32,Tryz.ntmps32
  go_wp2_with fail
  refine (rboth_any a b c d e f g h _).mono ?_
  rintro x w1 ⟨rfl,hb1⟩
  have ya := xa.to hb1
  have yb := xb.to hb1
  have yr := xr.to hb1
  have ya0 := ya.c0
  have ya1 := ya.c1
  have ya2 := ya.c2
  have ya3 := ya.c3
  have yb0 := yb.c0
  have yb1 := yb.c1
  have yb2 := yb.c2
  have yb3 := yb.c3
  go_wp2_with fail
  refine (HRED.out _).mono ?_
  rintro x w2 ⟨rfl,hb2⟩
  have zr := yr.to hb2
  have zr0 := zr.c0
  have zr1 := zr.c1
  have zr2 := zr.c2
  have zr3 := zr.c3
  have zf0 := zr.f0
  have zf1 := zr.f1
  have zf2 := zr.f2
  have zf3 := zr.f3
  go_wp2_with fail
  exact bodyPost_ret (v := .tuple #[.agg #[.int .i64 za,.int .i64 zb,.int .i64 zc,.int .i64 zd],.int .i64 ze]) (by simp [results,Tryz.results32,go_sem,zr0,zr1,zr2,zr3,zf0,zf1,zf2,zf3]) rfl ⟨by rw [HV.out],Below.sets4 (Below.tr (Below.tr hB0 hb1) hb2) (b := w.heap.size + 1 + 1) (by omega) _ _ _ _⟩
theorem rqmul_no (a b c d e f g h : Int) (w : World) (hq : ¬ qcode2 a b c d e f g h = 0) :
    Calls Tryz.prog 32 #[.agg #[.int .i64 a,.int .i64 b,.int .i64 c,.int .i64 d],.agg #[.int .i64 e,.int .i64 f,.int .i64 g,.int .i64 h]] w (GV (mulV a b c d e f g h) w) := by
  have HV : Hid (mulV a b c d e f g h = .tuple #[.agg #[.int .i64 0,.int .i64 0,.int .i64 0,.int .i64 0],.int .i64 (qcode2 a b c d e f g h)]) := Lib.hid (if_neg hq)
  have hqt : (qcode2 a b c d e f g h == 0) = false := by simpa using hq
  have hqt2 : (qcode2 a b c d e f g h != 0) = true := by simpa using hq
  clear hq
  have hB0 : Below w.heap.size w (((w.alloc (.cells #[.int .i64 a,.int .i64 b,.int .i64 c,.int .i64 d] 33)).alloc (.cells #[.int .i64 e,.int .i64 f,.int .i64 g,.int .i64 h] 33)).alloc (.cells #[.int .i64 0,.int .i64 0,.int .i64 0,.int .i64 0] 33)) := Below.al (Below.al ((Below.refl _ _).alloc (Nat.le_refl _) _) _) _
  have xa : Bx (((w.alloc (.cells #[.int .i64 a,.int .i64 b,.int .i64 c,.int .i64 d] 33)).alloc (.cells #[.int .i64 e,.int .i64 f,.int .i64 g,.int .i64 h] 33)).alloc (.cells #[.int .i64 0,.int .i64 0,.int .i64 0,.int .i64 0] 33)) w.heap.size [.int .i64 a,.int .i64 b,.int .i64 c,.int .i64 d] := by have := ((Bx.new w [.int .i64 a,.int .i64 b,.int .i64 c,.int .i64 d] 33).alloc (.cells #[.int .i64 e,.int .i64 f,.int .i64 g,.int .i64 h] 33)).alloc (.cells #[.int .i64 0,.int .i64 0,.int .i64 0,.int .i64 0] 33);simpa using this
  have xb : Bx (((w.alloc (.cells #[.int .i64 a,.int .i64 b,.int .i64 c,.int .i64 d] 33)).alloc (.cells #[.int .i64 e,.int .i64 f,.int .i64 g,.int .i64 h] 33)).alloc (.cells #[.int .i64 0,.int .i64 0,.int .i64 0,.int .i64 0] 33)) (w.heap.size + 1) [.int .i64 e,.int .i64 f,.int .i64 g,.int .i64 h] := by have := (Bx.new (w.alloc (.cells #[.int .i64 a,.int .i64 b,.int .i64 c,.int .i64 d] 33)) [.int .i64 e,.int .i64 f,.int .i64 g,.int .i64 h] 33).alloc (.cells #[.int .i64 0,.int .i64 0,.int .i64 0,.int .i64 0] 33);simpa using this
  have xr : Bx (((w.alloc (.cells #[.int .i64 a,.int .i64 b,.int .i64 c,.int .i64 d] 33)).alloc (.cells #[.int .i64 e,.int .i64 f,.int .i64 g,.int .i64 h] 33)).alloc (.cells #[.int .i64 0,.int .i64 0,.int .i64 0,.int .i64 0] 33)) (w.heap.size + 1 + 1) [.int .i64 0,.int .i64 0,.int .i64 0,.int .i64 0] := by have := Bx.new ((w.alloc (.cells #[.int .i64 a,.int .i64 b,.int .i64 c,.int .i64 d] 33)).alloc (.cells #[.int .i64 e,.int .i64 f,.int .i64 g,.int .i64 h] 33)) [.int .i64 0,.int .i64 0,.int .i64 0,.int .i64 0] 33;simpa using this
  go_enter Tryz.func32,Tryz.ntmps32
  go_wp2_with fail
  refine (rboth_any a b c d e f g h _).mono ?_
  rintro x w1 ⟨rfl,hb1⟩
  have zr := xr.to hb1
  have zr0 := zr.c0
  have zr1 := zr.c1
  have zr2 := zr.c2
  have zr3 := zr.c3
  have zf0 := zr.f0
  have zf1 := zr.f1
  have zf2 := zr.f2
  have zf3 := zr.f3
  go_wp2_with fail
  exact bodyPost_ret (v := .tuple #[.agg #[.int .i64 0,.int .i64 0,.int .i64 0,.int .i64 0],.int .i64 (qcode2 a b c d e f g h)]) (by simp [results,Tryz.results32,go_sem,zr0,zr1,zr2,zr3,zf0,zf1,zf2,zf3]) rfl ⟨by rw [HV.out],Below.sets4 (Below.tr hB0 hb1) (b := w.heap.size + 1 + 1) (by omega) _ _ _ _⟩
theorem rqmul_any (a b c d e f g h : Int) (w : World) : Calls Tryz.prog 32 #[.agg #[.int .i64 a,.int .i64 b,.int .i64 c,.int .i64 d],.agg #[.int .i64 e,.int .i64 f,.int .i64 g,.int .i64 h]] w (GV (mulV a b c d e f g h) w) := by
  by_cases hq : qcode2 a b c d e f g h = 0
  · exact rqmul_ok a b c d e f g h w hq
  · exact rqmul_no a b c d e f g h w hq
theorem neg_code {a b c d : Int} (hb0 : -9223372036854775808 ≤ b) (hb1 : b ≤ 9223372036854775807) (hc0 : -9223372036854775808 ≤ c) (hc1 : c ≤ 9223372036854775807) (hd0 : -9223372036854775808 ≤ d) (hd1 : d ≤ 9223372036854775807) :
    qcode a (wrap64 (-b)) (wrap64 (-c)) (wrap64 (-d)) = qcode a b c d := by
  have z : ∀ x : Int,-9223372036854775808 ≤ x → x ≤ 9223372036854775807 → (wrap64 (-x) = 0 ↔ x = 0) ∧ (okc (wrap64 (-x)) ↔ okc x) := fun x h0 h1 => by unfold wrap64 okc;omega
  unfold qcode
  simp only [(z b hb0 hb1).1,(z c hc0 hc1).1,(z d hd0 hd1).1,(z b hb0 hb1).2,(z c hc0 hc1).2,(z d hd0 hd1).2]
theorem neg_small {x : Int} (h : okc x) : wrap64 (-x) = -x := by unfold okc at h;unfold wrap64;omega
theorem conj_canon {a b c d : Int} (hb0 : -9223372036854775808 ≤ b) (hb1 : b ≤ 9223372036854775807) (hc0 : -9223372036854775808 ≤ c) (hc1 : c ≤ 9223372036854775807) (hd0 : -9223372036854775808 ≤ d) (hd1 : d ≤ 9223372036854775807) :
    canonV a (wrap64 (-b)) (wrap64 (-c)) (wrap64 (-d)) = conjV a b c d := by
  unfold canonV conjV
  rw [neg_code hb0 hb1 hc0 hc1 hd0 hd1]
  by_cases hq : qcode a b c d = 0
  · obtain ⟨_,oa,ob,oc,od⟩ := qcode_ok hq
    rw [if_pos hq,if_pos hq,neg_small ob,neg_small oc,neg_small od]
  · rw [if_neg hq,if_neg hq]
theorem conjV_form (a b c d : Int) : ∃ e f g h z : Int,conjV a b c d = .tuple #[.agg #[.int .i64 e,.int .i64 f,.int .i64 g,.int .i64 h],.int .i64 z] := by
  unfold conjV
  by_cases hq : qcode a b c d = 0
  · rw [if_pos hq];exact primV_form _
  · rw [if_neg hq];exact ⟨0,0,0,0,_,rfl⟩
theorem rconj_any (a b c d : Int) (w : World) (hb0 : -9223372036854775808 ≤ b) (hb1 : b ≤ 9223372036854775807) (hc0 : -9223372036854775808 ≤ c) (hc1 : c ≤ 9223372036854775807) (hd0 : -9223372036854775808 ≤ d) (hd1 : d ≤ 9223372036854775807) :
    Calls Tryz.prog 34 #[.agg #[.int .i64 a,.int .i64 b,.int .i64 c,.int .i64 d]] w (GV (conjV a b c d) w) := by
  obtain ⟨za,zb,zc,zd,ze,hz⟩ := conjV_form a b c d
  have HC : Hid (∀ w : World,Calls Tryz.prog 27 #[.agg #[.int .i64 a,.int .i64 (wrap64 (-b)),.int .i64 (wrap64 (-c)),.int .i64 (wrap64 (-d))]] w (GV (.tuple #[.agg #[.int .i64 za,.int .i64 zb,.int .i64 zc,.int .i64 zd],.int .i64 ze]) w)) := Lib.hid (fun w => by rw [← hz,← conj_canon hb0 hb1 hc0 hc1 hd0 hd1];exact rcanon_any _ _ _ _ w)
  have HV : Hid (conjV a b c d = .tuple #[.agg #[.int .i64 za,.int .i64 zb,.int .i64 zc,.int .i64 zd],.int .i64 ze]) := Lib.hid hz
  clear hz hb0 hb1 hc0 hc1 hd0 hd1
  have hB_0 : Below w.heap.size w w := Below.refl _ _
  go_enter Tryz.func34,Tryz.ntmps34
  go_wp2_with fail
  (with_reducible refine (HC.out _).mono ?_)
  rintro e w1 ⟨rfl,hb1⟩
  obtain ⟨hA1,k0,j0⟩ := bx2 w rfl [.int .i64 a,.int .i64 b,.int .i64 c,.int .i64 d] 33 [.int .i64 0,.int .i64 0,.int .i64 0,.int .i64 0] 33
  have q1_1 := (j0.to hb1)
  obtain ⟨a0,e0,b0,f0,c0,g0,d0,h0⟩ := q1_1.cf4
  have i0 := (Below.tr (Below.tr hB_0 hA1) hb1)
  go_wp2_with fail
  exact bodyPost_ret (v := .tuple #[.agg #[.int .i64 za,.int .i64 zb,.int .i64 zc,.int .i64 zd],.int .i64 ze]) (by simp [results,Tryz.results34,go_sem,a0,e0,b0,f0,c0,g0,d0,h0]) rfl ⟨by rw [HV.out],(Below.sets4 i0 (b := w.heap.size + 1) (by omega) (.int .i64 za) (.int .i64 zb) (.int .i64 zc) (.int .i64 zd))⟩
end Go.Proofs.YtidfgdchcpmnfaaGreat
namespace Go.Proofs.YtidfgdchcpmnfaaGreat
open Go.RowKit
set_option maxRecDepth 100000
set_option maxHeartbeats 8000000
set_option linter.unusedSimpArgs false
set_option linter.unusedVariables false
theorem rsam_p (a b c d e f g h za zb zc zd ze ya yb yc yd ye : Int) (w : World) (hp : canonV a b c d = .tuple #[.agg #[.int .i64 za,.int .i64 zb,.int .i64 zc,.int .i64 zd],.int .i64 ze]) (hr : canonV e f g h = .tuple #[.agg #[.int .i64 ya,.int .i64 yb,.int .i64 yc,.int .i64 yd],.int .i64 ye]) (h0 : ¬ ze = 0) :
    Calls Tryz.prog 29 #[.agg #[.int .i64 a,.int .i64 b,.int .i64 c,.int .i64 d],.agg #[.int .i64 e,.int .i64 f,.int .i64 g,.int .i64 h]] w (GB (false) w) := by
  have hc1 := fun w => rcanon_any a b c d w
  have hc2 := fun w => rcanon_any e f g h w
  rw [hp] at hc1
  rw [hr] at hc2
  have H1 := Lib.hid hc1
  have H2 := Lib.hid hc2
  clear hc1 hc2 hp hr
  have hz0 : (ze == 0) = false := by simpa using h0
  clear h0
  have hB0 : Below w.heap.size w ((w.alloc (.cells #[.int .i64 a,.int .i64 b,.int .i64 c,.int .i64 d] 33)).alloc (.cells #[.int .i64 e,.int .i64 f,.int .i64 g,.int .i64 h] 33)) := Below.al ((Below.refl _ _).alloc (Nat.le_refl _) _) _
  have xb : Bx ((w.alloc (.cells #[.int .i64 a,.int .i64 b,.int .i64 c,.int .i64 d] 33)).alloc (.cells #[.int .i64 e,.int .i64 f,.int .i64 g,.int .i64 h] 33)) (w.heap.size + 1) [.int .i64 e,.int .i64 f,.int .i64 g,.int .i64 h] := by have := Bx.new (w.alloc (.cells #[.int .i64 a,.int .i64 b,.int .i64 c,.int .i64 d] 33)) [.int .i64 e,.int .i64 f,.int .i64 g,.int .i64 h] 33;simpa using this
  go_enter Tryz.func29,Tryz.ntmps29
  go_wp2_with fail
  refine (H1.out _).mono ?_
  rintro x w1 ⟨rfl,hb1⟩
  have xyb := xb.to hb1
  have yba := xyb.alloc (.cells #[.int .i64 za,.int .i64 zb,.int .i64 zc,.int .i64 zd] 33)
  have y0 := yba.c0
  have y1 := yba.c1
  have y2 := yba.c2
  have y3 := yba.c3
  have hB1 := Below.al (Below.tr hB0 hb1) (.cells #[.int .i64 za,.int .i64 zb,.int .i64 zc,.int .i64 zd] 33)
  have xp : Bx (w1.alloc (.cells #[.int .i64 za,.int .i64 zb,.int .i64 zc,.int .i64 zd] 33)) w1.heap.size [.int .i64 za,.int .i64 zb,.int .i64 zc,.int .i64 zd] := by have := Bx.new w1 [.int .i64 za,.int .i64 zb,.int .i64 zc,.int .i64 zd] 33;simpa using this
  go_wp2_with fail
  refine (H2.out _).mono ?_
  rintro x w2 ⟨rfl,hb2⟩
  have xp2 := (xp.to hb2).alloc (.cells #[.int .i64 ya,.int .i64 yb,.int .i64 yc,.int .i64 yd] 33)
  have z0 := xp2.c0
  have z1 := xp2.c1
  have z2 := xp2.c2
  have z3 := xp2.c3
  have hB2 := Below.al (Below.tr hB1 hb2) (.cells #[.int .i64 ya,.int .i64 yb,.int .i64 yc,.int .i64 yd] 33)
  go_wp2_with fail
  go_ret
  exact ⟨rfl,hB2⟩
theorem rsam_q (a b c d e f g h za zb zc zd ze ya yb yc yd ye : Int) (w : World) (hp : canonV a b c d = .tuple #[.agg #[.int .i64 za,.int .i64 zb,.int .i64 zc,.int .i64 zd],.int .i64 ze]) (hr : canonV e f g h = .tuple #[.agg #[.int .i64 ya,.int .i64 yb,.int .i64 yc,.int .i64 yd],.int .i64 ye]) (h0 : ze = 0) (h1 : ¬ ye = 0) :
    Calls Tryz.prog 29 #[.agg #[.int .i64 a,.int .i64 b,.int .i64 c,.int .i64 d],.agg #[.int .i64 e,.int .i64 f,.int .i64 g,.int .i64 h]] w (GB (false) w) := by
  have hc1 := fun w => rcanon_any a b c d w
  have hc2 := fun w => rcanon_any e f g h w
  rw [hp] at hc1
  rw [hr] at hc2
  have H1 := Lib.hid hc1
  have H2 := Lib.hid hc2
  clear hc1 hc2 hp hr
  have hz0 : (ze == 0) = true := by simp [h0]
  have hz1 : (ye == 0) = false := by simpa using h1
  clear h0 h1
  have hB0 : Below w.heap.size w ((w.alloc (.cells #[.int .i64 a,.int .i64 b,.int .i64 c,.int .i64 d] 33)).alloc (.cells #[.int .i64 e,.int .i64 f,.int .i64 g,.int .i64 h] 33)) := Below.al ((Below.refl _ _).alloc (Nat.le_refl _) _) _
  have xb : Bx ((w.alloc (.cells #[.int .i64 a,.int .i64 b,.int .i64 c,.int .i64 d] 33)).alloc (.cells #[.int .i64 e,.int .i64 f,.int .i64 g,.int .i64 h] 33)) (w.heap.size + 1) [.int .i64 e,.int .i64 f,.int .i64 g,.int .i64 h] := by have := Bx.new (w.alloc (.cells #[.int .i64 a,.int .i64 b,.int .i64 c,.int .i64 d] 33)) [.int .i64 e,.int .i64 f,.int .i64 g,.int .i64 h] 33;simpa using this
  go_enter Tryz.func29,Tryz.ntmps29
  go_wp2_with fail
  refine (H1.out _).mono ?_
  rintro x w1 ⟨rfl,hb1⟩
  have xyb := xb.to hb1
  have yba := xyb.alloc (.cells #[.int .i64 za,.int .i64 zb,.int .i64 zc,.int .i64 zd] 33)
  have y0 := yba.c0
  have y1 := yba.c1
  have y2 := yba.c2
  have y3 := yba.c3
  have hB1 := Below.al (Below.tr hB0 hb1) (.cells #[.int .i64 za,.int .i64 zb,.int .i64 zc,.int .i64 zd] 33)
  have xp : Bx (w1.alloc (.cells #[.int .i64 za,.int .i64 zb,.int .i64 zc,.int .i64 zd] 33)) w1.heap.size [.int .i64 za,.int .i64 zb,.int .i64 zc,.int .i64 zd] := by have := Bx.new w1 [.int .i64 za,.int .i64 zb,.int .i64 zc,.int .i64 zd] 33;simpa using this
  go_wp2_with fail
  refine (H2.out _).mono ?_
  rintro x w2 ⟨rfl,hb2⟩
  have xp2 := (xp.to hb2).alloc (.cells #[.int .i64 ya,.int .i64 yb,.int .i64 yc,.int .i64 yd] 33)
  have z0 := xp2.c0
  have z1 := xp2.c1
  have z2 := xp2.c2
  have z3 := xp2.c3
  have hB2 := Below.al (Below.tr hB1 hb2) (.cells #[.int .i64 ya,.int .i64 yb,.int .i64 yc,.int .i64 yd] 33)
  go_wp2_with fail
  go_ret
  exact ⟨rfl,hB2⟩
theorem rsam_n (a b c d e f g h za zb zc zd ze ya yb yc yd ye : Int) (w : World) (hp : canonV a b c d = .tuple #[.agg #[.int .i64 za,.int .i64 zb,.int .i64 zc,.int .i64 zd],.int .i64 ze]) (hr : canonV e f g h = .tuple #[.agg #[.int .i64 ya,.int .i64 yb,.int .i64 yc,.int .i64 yd],.int .i64 ye]) (h0 : ze = 0) (h1 : ye = 0) (h2 : ¬ (za = ya ∧ zb = yb ∧ zc = yc ∧ zd = yd)) :
    Calls Tryz.prog 29 #[.agg #[.int .i64 a,.int .i64 b,.int .i64 c,.int .i64 d],.agg #[.int .i64 e,.int .i64 f,.int .i64 g,.int .i64 h]] w (GB (false) w) := by
  have hc1 := fun w => rcanon_any a b c d w
  have hc2 := fun w => rcanon_any e f g h w
  rw [hp] at hc1
  rw [hr] at hc2
  have H1 := Lib.hid hc1
  have H2 := Lib.hid hc2
  clear hc1 hc2 hp hr
  have hz0 : (ze == 0) = true := by simp [h0]
  have hz1 : (ye == 0) = true := by simp [h1]
  have hne : ∀ w,Sem.run Tryz.prog (binOp .eql 33 (.agg #[.int .i64 za,.int .i64 zb,.int .i64 zc,.int .i64 zd]) (.agg #[.int .i64 ya,.int .i64 yb,.int .i64 yc,.int .i64 yd])) w = .ok (.bool false) w := fun w => by
    simp [go_sem]
    exact fun k0 k1 k2 k3 => h2 ⟨k0,k1,k2,k3⟩
  clear h0 h1 h2
  have hB0 : Below w.heap.size w ((w.alloc (.cells #[.int .i64 a,.int .i64 b,.int .i64 c,.int .i64 d] 33)).alloc (.cells #[.int .i64 e,.int .i64 f,.int .i64 g,.int .i64 h] 33)) := Below.al ((Below.refl _ _).alloc (Nat.le_refl _) _) _
  have xb : Bx ((w.alloc (.cells #[.int .i64 a,.int .i64 b,.int .i64 c,.int .i64 d] 33)).alloc (.cells #[.int .i64 e,.int .i64 f,.int .i64 g,.int .i64 h] 33)) (w.heap.size + 1) [.int .i64 e,.int .i64 f,.int .i64 g,.int .i64 h] := by have := Bx.new (w.alloc (.cells #[.int .i64 a,.int .i64 b,.int .i64 c,.int .i64 d] 33)) [.int .i64 e,.int .i64 f,.int .i64 g,.int .i64 h] 33;simpa using this
  go_enter Tryz.func29,Tryz.ntmps29
  go_wp2_with fail
  refine (H1.out _).mono ?_
  rintro x w1 ⟨rfl,hb1⟩
  have xyb := xb.to hb1
  have yba := xyb.alloc (.cells #[.int .i64 za,.int .i64 zb,.int .i64 zc,.int .i64 zd] 33)
  have y0 := yba.c0
  have y1 := yba.c1
  have y2 := yba.c2
  have y3 := yba.c3
  have hB1 := Below.al (Below.tr hB0 hb1) (.cells #[.int .i64 za,.int .i64 zb,.int .i64 zc,.int .i64 zd] 33)
  have xp : Bx (w1.alloc (.cells #[.int .i64 za,.int .i64 zb,.int .i64 zc,.int .i64 zd] 33)) w1.heap.size [.int .i64 za,.int .i64 zb,.int .i64 zc,.int .i64 zd] := by have := Bx.new w1 [.int .i64 za,.int .i64 zb,.int .i64 zc,.int .i64 zd] 33;simpa using this
  go_wp2_with fail
  refine (H2.out _).mono ?_
  rintro x w2 ⟨rfl,hb2⟩
  have xp2 := (xp.to hb2).alloc (.cells #[.int .i64 ya,.int .i64 yb,.int .i64 yc,.int .i64 yd] 33)
  have z0 := xp2.c0
  have z1 := xp2.c1
  have z2 := xp2.c2
  have z3 := xp2.c3
  have hB2 := Below.al (Below.tr hB1 hb2) (.cells #[.int .i64 ya,.int .i64 yb,.int .i64 yc,.int .i64 yd] 33)
  go_wp2_with fail
  go_ret
  exact ⟨rfl,hB2⟩
theorem rsam_y (a b c d e f g h za zb zc zd ze ye : Int) (w : World) (hp : canonV a b c d = .tuple #[.agg #[.int .i64 za,.int .i64 zb,.int .i64 zc,.int .i64 zd],.int .i64 ze]) (hr : canonV e f g h = .tuple #[.agg #[.int .i64 za,.int .i64 zb,.int .i64 zc,.int .i64 zd],.int .i64 ye]) (h0 : ze = 0) (h1 : ye = 0) :
    Calls Tryz.prog 29 #[.agg #[.int .i64 a,.int .i64 b,.int .i64 c,.int .i64 d],.agg #[.int .i64 e,.int .i64 f,.int .i64 g,.int .i64 h]] w (GB (true) w) := by
  have hc1 := fun w => rcanon_any a b c d w
  have hc2 := fun w => rcanon_any e f g h w
  rw [hp] at hc1
  rw [hr] at hc2
  have H1 := Lib.hid hc1
  have H2 := Lib.hid hc2
  clear hc1 hc2 hp hr
  have hz0 : (ze == 0) = true := by simp [h0]
  have hz1 : (ye == 0) = true := by simp [h1]
  have hne : ∀ w,Sem.run Tryz.prog (binOp .eql 33 (.agg #[.int .i64 za,.int .i64 zb,.int .i64 zc,.int .i64 zd]) (.agg #[.int .i64 za,.int .i64 zb,.int .i64 zc,.int .i64 zd])) w = .ok (.bool true) w := fun w => by simp [go_sem]
  clear h0 h1
  have hB0 : Below w.heap.size w ((w.alloc (.cells #[.int .i64 a,.int .i64 b,.int .i64 c,.int .i64 d] 33)).alloc (.cells #[.int .i64 e,.int .i64 f,.int .i64 g,.int .i64 h] 33)) := Below.al ((Below.refl _ _).alloc (Nat.le_refl _) _) _
  have xb : Bx ((w.alloc (.cells #[.int .i64 a,.int .i64 b,.int .i64 c,.int .i64 d] 33)).alloc (.cells #[.int .i64 e,.int .i64 f,.int .i64 g,.int .i64 h] 33)) (w.heap.size + 1) [.int .i64 e,.int .i64 f,.int .i64 g,.int .i64 h] := by have := Bx.new (w.alloc (.cells #[.int .i64 a,.int .i64 b,.int .i64 c,.int .i64 d] 33)) [.int .i64 e,.int .i64 f,.int .i64 g,.int .i64 h] 33;simpa using this
  go_enter Tryz.func29,Tryz.ntmps29
  go_wp2_with fail
  refine (H1.out _).mono ?_
  rintro x w1 ⟨rfl,hb1⟩
  have xyb := xb.to hb1
  have yba := xyb.alloc (.cells #[.int .i64 za,.int .i64 zb,.int .i64 zc,.int .i64 zd] 33)
  have y0 := yba.c0
  have y1 := yba.c1
  have y2 := yba.c2
  have y3 := yba.c3
  have hB1 := Below.al (Below.tr hB0 hb1) (.cells #[.int .i64 za,.int .i64 zb,.int .i64 zc,.int .i64 zd] 33)
  have xp : Bx (w1.alloc (.cells #[.int .i64 za,.int .i64 zb,.int .i64 zc,.int .i64 zd] 33)) w1.heap.size [.int .i64 za,.int .i64 zb,.int .i64 zc,.int .i64 zd] := by have := Bx.new w1 [.int .i64 za,.int .i64 zb,.int .i64 zc,.int .i64 zd] 33;simpa using this
  go_wp2_with fail
  refine (H2.out _).mono ?_
  rintro x w2 ⟨rfl,hb2⟩
  have xp2 := (xp.to hb2).alloc (.cells #[.int .i64 za,.int .i64 zb,.int .i64 zc,.int .i64 zd] 33)
  have z0 := xp2.c0
  have z1 := xp2.c1
  have z2 := xp2.c2
  have z3 := xp2.c3
  have hB2 := Below.al (Below.tr hB1 hb2) (.cells #[.int .i64 za,.int .i64 zb,.int .i64 zc,.int .i64 zd] 33)
  go_wp2_with fail
  go_ret
  exact ⟨rfl,hB2⟩
theorem canonV_form (a b c d : Int) : ∃ e f g h z : Int,canonV a b c d = .tuple #[.agg #[.int .i64 e,.int .i64 f,.int .i64 g,.int .i64 h],.int .i64 z] := by
  unfold canonV
  by_cases hq : qcode a b c d = 0
  · rw [if_pos hq];exact primV_form _
  · rw [if_neg hq];exact ⟨0,0,0,0,_,rfl⟩
def SameIs (a b c d e f g h : Int) (v : Bool) : Prop := ∃ za zb zc zd ze ya yb yc yd ye : Int,canonV a b c d = .tuple #[.agg #[.int .i64 za,.int .i64 zb,.int .i64 zc,.int .i64 zd],.int .i64 ze] ∧ canonV e f g h = .tuple #[.agg #[.int .i64 ya,.int .i64 yb,.int .i64 yc,.int .i64 yd],.int .i64 ye] ∧ v = (decide (ze = 0) && (decide (ye = 0) && (decide (za = ya) && (decide (zb = yb) && (decide (zc = yc) && decide (zd = yd))))))
theorem same_both (a b c d e f g h : Int) : ∃ v : Bool,SameIs a b c d e f g h v ∧ (∀ w,Calls Tryz.prog 25 #[.agg #[.int .i64 a,.int .i64 b,.int .i64 c,.int .i64 d],.agg #[.int .i64 e,.int .i64 f,.int .i64 g,.int .i64 h]] w (GB v w)) ∧ (∀ w,Calls Tryz.prog 29 #[.agg #[.int .i64 a,.int .i64 b,.int .i64 c,.int .i64 d],.agg #[.int .i64 e,.int .i64 f,.int .i64 g,.int .i64 h]] w (GB v w)) := by
  obtain ⟨za,zb,zc,zd,ze,hz⟩ := canonV_form a b c d
  obtain ⟨ya,yb,yc,yd,ye,hy⟩ := canonV_form e f g h
  by_cases h0 : ze = 0
  · by_cases h1 : ye = 0
    · by_cases h2 : za = ya ∧ zb = yb ∧ zc = yc ∧ zd = yd
      · obtain ⟨rfl,rfl,rfl,rfl⟩ := h2
        exact ⟨true,⟨_,_,_,_,_,_,_,_,_,_,hz,hy,by simp [h0,h1]⟩,fun w => same_y a b c d e f g h za zb zc zd ze ye w hz hy h0 h1,fun w => rsam_y a b c d e f g h za zb zc zd ze ye w hz hy h0 h1⟩
      · refine ⟨false,⟨_,_,_,_,_,_,_,_,_,_,hz,hy,?_⟩,fun w => same_n a b c d e f g h za zb zc zd ze ya yb yc yd ye w hz hy h0 h1 h2,fun w => rsam_n a b c d e f g h za zb zc zd ze ya yb yc yd ye w hz hy h0 h1 h2⟩
        cases hv : (decide (ze = 0) && (decide (ye = 0) && (decide (za = ya) && (decide (zb = yb) && (decide (zc = yc) && decide (zd = yd)))))) with
        | false => rfl
        | true => simp at hv;exact absurd ⟨hv.2.2.1,hv.2.2.2.1,hv.2.2.2.2.1,hv.2.2.2.2.2⟩ h2
    · exact ⟨false,⟨_,_,_,_,_,_,_,_,_,_,hz,hy,by simp [h1]⟩,fun w => same_q a b c d e f g h za zb zc zd ze ya yb yc yd ye w hz hy h0 h1,fun w => rsam_q a b c d e f g h za zb zc zd ze ya yb yc yd ye w hz hy h0 h1⟩
  · exact ⟨false,⟨_,_,_,_,_,_,_,_,_,_,hz,hy,by simp [h0]⟩,fun w => same_p a b c d e f g h za zb zc zd ze ya yb yc yd ye w hz hy h0,fun w => rsam_p a b c d e f g h za zb zc zd ze ya yb yc yd ye w hz hy h0⟩
end Go.Proofs.YtidfgdchcpmnfaaGreat
