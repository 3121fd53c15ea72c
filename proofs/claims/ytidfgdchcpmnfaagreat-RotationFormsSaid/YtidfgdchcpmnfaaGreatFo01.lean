/-
  RotationForms holds: Check, Canon, Same and Flat are as defined, for all quaternions. Conditions: none beyond those of the given row.
-/
import Derived.Test.YtidfgdchcpmnfaaGreatZb11
import Derived.Test.YtidfgdchcpmnfaaGreatZb43
import Derived.Test.YtidfgdchcpmnfaaGreatZb47
import Derived.Test.YtidfgdchcpmnfaaGreatZb48
import Derived.Test.YtidfgdchcpmnfaaGreatZb49
namespace Go.Proofs.YtidfgdchcpmnfaaGreat
open Go.RowKit
set_option maxRecDepth 100000
set_option maxHeartbeats 8000000
set_option linter.unusedSimpArgs false
set_option linter.unusedVariables false
theorem forms_walk (a b c d e f g h : Int) (w : World) : Calls Tryz.prog 6 #[.agg #[.int .i64 a,.int .i64 b,.int .i64 c,.int .i64 d],.agg #[.int .i64 e,.int .i64 f,.int .i64 g,.int .i64 h]] w (GB true w) := by
  obtain ⟨za,zb,zc,zd,ze,hz⟩ := canonV_form a b c d
  obtain ⟨bv,_,hs1,hs2⟩ := same_both a b c d e f g h
  have H1 : Hid (∀ w : World,Calls Tryz.prog 18 #[.agg #[.int .i64 a,.int .i64 b,.int .i64 c,.int .i64 d]] w (GV (.tuple #[.agg #[.int .i64 za,.int .i64 zb,.int .i64 zc,.int .i64 zd],.int .i64 ze]) w)) := Lib.hid (fun w => by rw [← hz];exact canon_any a b c d w)
  have H2 : Hid (∀ w : World,Calls Tryz.prog 27 #[.agg #[.int .i64 a,.int .i64 b,.int .i64 c,.int .i64 d]] w (GV (.tuple #[.agg #[.int .i64 za,.int .i64 zb,.int .i64 zc,.int .i64 zd],.int .i64 ze]) w)) := Lib.hid (fun w => by rw [← hz];exact rcanon_any a b c d w)
  have HS1 := Lib.hid hs1
  have HS2 := Lib.hid hs2
  have hqe : ∀ w,Sem.run Tryz.prog (binOp .eql 33 (.agg #[.int .i64 za,.int .i64 zb,.int .i64 zc,.int .i64 zd]) (.agg #[.int .i64 za,.int .i64 zb,.int .i64 zc,.int .i64 zd])) w = .ok (.bool true) w := fun w => by simp [go_sem]
  clear hz hs1 hs2
  have hB_0 : Below w.heap.size w w := Below.refl _ _
  go_enter Tryz.func6,Tryz.ntmps6
  go_wp2_with fail
  (with_reducible refine (known_true _).mono ?_)
  rintro e w1 ⟨rfl,hb1⟩
  obtain ⟨hA1,c0,d0⟩ := bx2 w rfl [.int .i64 a,.int .i64 b,.int .i64 c,.int .i64 d] 33 [.int .i64 e,.int .i64 f,.int .i64 g,.int .i64 h] 33
  have q0_1 := (c0.to hb1)
  obtain ⟨g0,j0,m0,p0⟩ := q0_1.cs4
  go_wp2_with fail
  (with_reducible refine (H1.out _).mono ?_)
  rintro e w2 ⟨rfl,hb2⟩
  have q0_2 := (q0_1.to hb2)
  obtain ⟨h0,k0,n0,q0⟩ := q0_2.cs4
  have t0 := (q0_2).1
  have q1_2 := ((d0.to hb1).to hb2)
  have v0 := (q1_2).1
  obtain ⟨hA2,e0⟩ := bx1 w2 rfl [.int .i64 za,.int .i64 zb,.int .i64 zc,.int .i64 zd] 33
  obtain ⟨i0,l0,o0,r0⟩ := (q0_2.to hA2).cs4
  go_wp2_with fail
  (with_reducible refine (H2.out _).mono ?_)
  rintro e w3 ⟨rfl,hb3⟩
  have q0_3 := ((q0_2.to hA2).to hb3)
  have u0 := (q0_3).1
  have q1_3 := ((q1_2.to hA2).to hb3)
  have w0 := (q1_3).1
  have a0 := (e0.to hb3)
  have s0 := (a0).1
  go_wp2_with fail
  obtain ⟨hA3,f0⟩ := bx1 w3 rfl [.int .i64 za,.int .i64 zb,.int .i64 zc,.int .i64 zd] 33
  have S0_5 := (AndS.mk ((a0.to hA3).drew).bs4 (AndS.mk (f0.drew).bs4 (AndS.mk ((q0_3.to hA3).drew).bs4 ((q1_3.to hA3).drew).bs4)))
  have tk1 : True := trivial
  have tk2 : True := trivial
  have tk3 : True := trivial
  have tk4 : True := trivial
  have tk5 : True := trivial
  have tk6 : True := trivial
  go_region_held3 (AndS (BS4 w2.heap.size (.int .i64 za) (.int .i64 zb) (.int .i64 zc) (.int .i64 zd)) (AndS (BS4 w3.heap.size (.int .i64 za) (.int .i64 zb) (.int .i64 zc) (.int .i64 zd)) (AndS (BS4 w.heap.size (.int .i64 a) (.int .i64 b) (.int .i64 c) (.int .i64 d)) (BS4 (w.heap.size + 1) (.int .i64 e) (.int .i64 f) (.int .i64 g) (.int .i64 h))))) (first | with_reducible exact S0_5 | with_reducible exact HeldK.go (AndS.hk BS4.hk (AndS.hk BS4.hk (AndS.hk BS4.hk BS4.hk))) (by assumption) (by assumption) | (simp;done))
    (first
      | (((have := tk1);clear tk1;go_at_call 28;(with_reducible refine (check_any a b c d _).mono ?_);rintro e w4 ⟨rfl,hb4⟩))
      | (((have := tk2);clear tk2;go_at_call 17;(with_reducible refine (rcheck_any a b c d _).mono ?_);rintro e w5 ⟨rfl,hb5⟩))
      | (((have := tk3);clear tk3;go_at_call 25;(with_reducible refine (HS1.out _).mono ?_);rintro e w6 ⟨rfl,hb6⟩))
      | (((have := tk4);clear tk4;go_at_call 29;(with_reducible refine (HS2.out _).mono ?_);rintro e w7 ⟨rfl,hb7⟩))
      | (((have := tk5);clear tk5;go_at_call 30;(with_reducible refine (flat_any a b c d _).mono ?_);rintro e w8 ⟨rfl,hb8⟩))
      | (((have := tk6);clear tk6;go_at_call 31;(with_reducible refine (rflat_any a b c d _).mono ?_);rintro e w9 ⟨rfl,hb9⟩)))
  have b0 := (Below.tr (Below.tr (Below.tr (Below.tr (Below.tr (Below.tr (Below.tr (Below.tr (Below.tr (Below.tr (Below.tr (Below.tr hB_0 hA1) hb1) hb2) hA2) hb3) hA3).drew hb4) hb5) hb6) hb7) hb8) hb9)
  go_wp2_with fail
  go_ret
  exact ⟨rfl,b0⟩
theorem forms_holds : Rows.RotationFormsSaid := rotationForms_frame (fun a b c d e f g h _ _ _ _ _ _ _ _ w => forms_walk a b c d e f g h w)
end Go.Proofs.YtidfgdchcpmnfaaGreat
