/-
  RotationBack holds: OfMatrix gives back the canonical quaternion of the matrix of every quaternion, or the code. Conditions: none beyond those of the given row.
-/
import Derived.Test.YtidfgdchcpmnfaaGreatZb11
import Derived.Test.YtidfgdchcpmnfaaGreatZb43
import Derived.Test.YtidfgdchcpmnfaaGreatZb47
import Derived.Test.YtidfgdchcpmnfaaGreatZb49
namespace Go.Proofs.YtidfgdchcpmnfaaGreat
open Go.RowKit
set_option maxRecDepth 100000
set_option maxHeartbeats 8000000
set_option linter.unusedSimpArgs false
set_option linter.unusedVariables false
theorem back_ok (a b c d : Int) (w : World) (hq : qcode a b c d = 0) :
    Calls Tryz.prog 4 #[.agg #[.int .i64 a,.int .i64 b,.int .i64 c,.int .i64 d]] w (GB true w) := by
  obtain ⟨e,f,g,h,hz⟩ := prim_rot_form hq
  have hne := (qcode_ok hq).1
  have HOM : Hid (∀ (v : Value) (w : World),MatQ w v 3 3 10 (rotQ a b c d) → Calls Tryz.prog 14 #[v] w (GV (.tuple #[.agg #[.int .i64 e,.int .i64 f,.int .i64 g,.int .i64 h],.int .i64 0]) w)) := Lib.hid (fun v w h => by rw [← hz];exact ofMatrix_rot v a b c d w hne h)
  have HCA : Hid (∀ w : World,Calls Tryz.prog 18 #[.agg #[.int .i64 a,.int .i64 b,.int .i64 c,.int .i64 d]] w (GV (.tuple #[.agg #[.int .i64 e,.int .i64 f,.int .i64 g,.int .i64 h],.int .i64 0]) w)) := Lib.hid (fun w => by have := canon_any a b c d w;unfold canonV at this;rw [if_pos hq,hz] at this;exact this)
  have HQ := Lib.hid hq
  have hqe : ∀ w,Sem.run Tryz.prog (binOp .eql 33 (.agg #[.int .i64 e,.int .i64 f,.int .i64 g,.int .i64 h]) (.agg #[.int .i64 e,.int .i64 f,.int .i64 g,.int .i64 h])) w = .ok (.bool true) w := fun w => by simp [go_sem]
  clear hz hne hq
  have hB_0 : Below w.heap.size w w := Below.refl _ _
  go_enter Tryz.func4,Tryz.ntmps4
  go_wp2_with fail
  (with_reducible refine (known_true _).mono ?_)
  rintro e w1 ⟨rfl,hb1⟩
  obtain ⟨hA1,k0⟩ := bx1 w rfl [.int .i64 a,.int .i64 b,.int .i64 c,.int .i64 d] 33
  have q0_1 := (k0.to hb1)
  obtain ⟨m0,p0,s0,v0⟩ := q0_1.cs4
  go_wp2_with fail
  (with_reducible refine (matrix_ok a b c d _ HQ.out).mono ?_)
  rintro e w2 ⟨v2,rfl,hm2,hb2⟩
  have hk2 := hm2
  obtain ⟨p2,c2,rfl,hl2,hmx2⟩ := hm2.form
  go_wp2_with fail
  (with_reducible refine (HOM.out _ _ hk2).mono ?_)
  rintro e w3 ⟨rfl,hb3⟩
  have q0_3 := ((q0_1.to hb2).to hb3)
  obtain ⟨n0,q0,t0,w0⟩ := q0_3.cs4
  have z0 := (q0_3).1
  obtain ⟨hA2,l0⟩ := bx1 w3 rfl [.int .i64 e,.int .i64 f,.int .i64 g,.int .i64 h] 33
  obtain ⟨o0,r0,u0,x0⟩ := (q0_3.to hA2).cs4
  go_wp2_with fail
  (with_reducible refine (HCA.out _).mono ?_)
  rintro e w4 ⟨rfl,hb4⟩
  have a0 := (l0.to hb4)
  obtain ⟨c0,e0,g0,i0⟩ := a0.cs4
  have q0_4 := ((q0_3.to hA2).to hb4)
  have a1 := (q0_4).1
  have y0 := (a0).1
  obtain ⟨hA3,b1⟩ := bx1 w4 rfl [.int .i64 e,.int .i64 f,.int .i64 g,.int .i64 h] 33
  obtain ⟨d0,f0,h0,j0⟩ := (a0.to hA3).cs4
  have b0 := (Below.tr (Below.tr (Below.tr (Below.tr (Below.tr (Below.tr hB_0 hA1) hb1) hb2) hb3) hA2) hb4)
  go_wp2_with fail
  go_ret
  exact ⟨rfl,(Below.tr b0 hA3)⟩
theorem back_no (a b c d : Int) (w : World) (hq : ¬ qcode a b c d = 0) :
    Calls Tryz.prog 4 #[.agg #[.int .i64 a,.int .i64 b,.int .i64 c,.int .i64 d]] w (GB true w) := by
  have HQ := Lib.hid hq
  have hqt : (qcode a b c d == 0) = false := by simpa using hq
  have hqt2 : (qcode a b c d != 0) = true := by simpa using hq
  clear hq
  have hB_0 : Below w.heap.size w w := Below.refl _ _
  go_enter Tryz.func4,Tryz.ntmps4
  go_wp2_with fail
  (with_reducible refine (known_true _).mono ?_)
  rintro e w1 ⟨rfl,hb1⟩
  obtain ⟨hA1,b0⟩ := bx1 w rfl [.int .i64 a,.int .i64 b,.int .i64 c,.int .i64 d] 33
  have q0_1 := (b0.to hb1)
  obtain ⟨c0,e0,g0,i0⟩ := q0_1.cs4
  go_wp2_with fail
  (with_reducible refine (matrix_no a b c d _ HQ.out).mono ?_)
  rintro e w2 ⟨rfl,hb2⟩
  have q0_2 := (q0_1.to hb2)
  obtain ⟨d0,f0,h0,j0⟩ := q0_2.cs4
  go_wp2_with fail
  (with_reducible refine (rcheck_any a b c d _).mono ?_)
  rintro e w3 ⟨rfl,hb3⟩
  have a0 := (Below.tr (Below.tr (Below.tr (Below.tr hB_0 hA1) hb1) hb2) hb3)
  go_wp2_with fail
  go_ret
  exact ⟨rfl,a0⟩
theorem back_holds : Rows.RotationBackSaid := rotationBack_frame (fun a b c d _ _ _ _ w => by
  by_cases hq : qcode a b c d = 0
  · exact back_ok a b c d w hq
  · exact back_no a b c d w hq)
end Go.Proofs.YtidfgdchcpmnfaaGreat
