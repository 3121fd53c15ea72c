/-
  Lemmas for the statements about rotations, part 46 of 51.
-/
import Derived.Test.YtidfgdchcpmnfaaGreatZb31
namespace Go.Proofs.YtidfgdchcpmnfaaGreat
open Go.RowKit
set_option maxRecDepth 100000
set_option maxHeartbeats 16000000
set_option linter.unusedSimpArgs false
set_option linter.unusedVariables false
def flatB (a b c d : Int) : Bool := decide (qcode a b c d = 0) && (decide (b = 0) && decide (d = 0))
theorem flat_n (a b c d : Int) (w : World) (hq : ¬ qcode a b c d = 0) :
    Calls Tryz.prog 30 #[.agg #[.int .i64 a,.int .i64 b,.int .i64 c,.int .i64 d]] w (GB (flatB a b c d) w) := by
  have HV : Hid (flatB a b c d = false) := Lib.hid (by unfold flatB;simp [hq])
  have hqt : (qcode a b c d == 0) = false := by simpa using hq
  clear hq
  have hB0 : Below w.heap.size w (w.alloc (.cells #[.int .i64 a,.int .i64 b,.int .i64 c,.int .i64 d] 33)) := (Below.refl _ _).alloc (Nat.le_refl _) _
  have xa : Bx (w.alloc (.cells #[.int .i64 a,.int .i64 b,.int .i64 c,.int .i64 d] 33)) w.heap.size [.int .i64 a,.int .i64 b,.int .i64 c,.int .i64 d] := by have := Bx.new w [.int .i64 a,.int .i64 b,.int .i64 c,.int .i64 d] 33;simpa using this
  go_enter Tryz.func30,Tryz.ntmps30
  go_wp2_with fail
  refine (check_any a b c d _).mono ?_
  rintro x w1 ⟨rfl,hb1⟩
  have ya := xa.to hb1
  have y0 := ya.c0
  have y1 := ya.c1
  have y2 := ya.c2
  have y3 := ya.c3
  go_wp2_with fail
  go_ret
  exact ⟨ret_bool HV.out.symm,Below.tr hB0 hb1⟩
theorem flat_b (a b c d : Int) (w : World) (hq : qcode a b c d = 0) (hb : ¬ b = 0) :
    Calls Tryz.prog 30 #[.agg #[.int .i64 a,.int .i64 b,.int .i64 c,.int .i64 d]] w (GB (flatB a b c d) w) := by
  have HV : Hid (flatB a b c d = false) := Lib.hid (by unfold flatB;simp [hq,hb])
  have hqt : (qcode a b c d == 0) = true := by simp [hq]
  clear hq
  have hbt : (b == 0) = false := by simpa using hb
  clear hb
  have hB0 : Below w.heap.size w (w.alloc (.cells #[.int .i64 a,.int .i64 b,.int .i64 c,.int .i64 d] 33)) := (Below.refl _ _).alloc (Nat.le_refl _) _
  have xa : Bx (w.alloc (.cells #[.int .i64 a,.int .i64 b,.int .i64 c,.int .i64 d] 33)) w.heap.size [.int .i64 a,.int .i64 b,.int .i64 c,.int .i64 d] := by have := Bx.new w [.int .i64 a,.int .i64 b,.int .i64 c,.int .i64 d] 33;simpa using this
  go_enter Tryz.func30,Tryz.ntmps30
  go_wp2_with fail
  refine (check_any a b c d _).mono ?_
  rintro x w1 ⟨rfl,hb1⟩
  have ya := xa.to hb1
  have y0 := ya.c0
  have y1 := ya.c1
  have y2 := ya.c2
  have y3 := ya.c3
  go_wp2_with fail
  go_ret
  exact ⟨ret_bool HV.out.symm,Below.tr hB0 hb1⟩
theorem flat_d (a b c d : Int) (w : World) (hq : qcode a b c d = 0) (hb : b = 0) (hd : ¬ d = 0) :
    Calls Tryz.prog 30 #[.agg #[.int .i64 a,.int .i64 b,.int .i64 c,.int .i64 d]] w (GB (flatB a b c d) w) := by
  have HV : Hid (flatB a b c d = false) := Lib.hid (by unfold flatB;simp [hq,hb,hd])
  have hqt : (qcode a b c d == 0) = true := by simp [hq]
  clear hq
  have hbt : (b == 0) = true := by simp [hb]
  have hdt : (d == 0) = false := by simpa using hd
  clear hb hd
  have hB0 : Below w.heap.size w (w.alloc (.cells #[.int .i64 a,.int .i64 b,.int .i64 c,.int .i64 d] 33)) := (Below.refl _ _).alloc (Nat.le_refl _) _
  have xa : Bx (w.alloc (.cells #[.int .i64 a,.int .i64 b,.int .i64 c,.int .i64 d] 33)) w.heap.size [.int .i64 a,.int .i64 b,.int .i64 c,.int .i64 d] := by have := Bx.new w [.int .i64 a,.int .i64 b,.int .i64 c,.int .i64 d] 33;simpa using this
  go_enter Tryz.func30,Tryz.ntmps30
  go_wp2_with fail
  refine (check_any a b c d _).mono ?_
  rintro x w1 ⟨rfl,hb1⟩
  have ya := xa.to hb1
  have y0 := ya.c0
  have y1 := ya.c1
  have y2 := ya.c2
  have y3 := ya.c3
  go_wp2_with fail
  go_ret
  exact ⟨ret_bool HV.out.symm,Below.tr hB0 hb1⟩
theorem flat_y (a b c d : Int) (w : World) (hq : qcode a b c d = 0) (hb : b = 0) (hd : d = 0) :
    Calls Tryz.prog 30 #[.agg #[.int .i64 a,.int .i64 b,.int .i64 c,.int .i64 d]] w (GB (flatB a b c d) w) := by
  have HV : Hid (flatB a b c d = true) := Lib.hid (by unfold flatB;rw [decide_eq_true hq,decide_eq_true hb,decide_eq_true hd];rfl)
  have hqt : (qcode a b c d == 0) = true := by simp [hq]
  clear hq
  have hbt : (b == 0) = true := by simp [hb]
  have hdt : (d == 0) = true := by simp [hd]
  clear hb hd
  have hB0 : Below w.heap.size w (w.alloc (.cells #[.int .i64 a,.int .i64 b,.int .i64 c,.int .i64 d] 33)) := (Below.refl _ _).alloc (Nat.le_refl _) _
  have xa : Bx (w.alloc (.cells #[.int .i64 a,.int .i64 b,.int .i64 c,.int .i64 d] 33)) w.heap.size [.int .i64 a,.int .i64 b,.int .i64 c,.int .i64 d] := by have := Bx.new w [.int .i64 a,.int .i64 b,.int .i64 c,.int .i64 d] 33;simpa using this
  go_enter Tryz.func30,Tryz.ntmps30
  go_wp2_with fail
  refine (check_any a b c d _).mono ?_
  rintro x w1 ⟨rfl,hb1⟩
  have ya := xa.to hb1
  have y0 := ya.c0
  have y1 := ya.c1
  have y2 := ya.c2
  have y3 := ya.c3
  go_wp2_with fail
  go_ret
  exact ⟨ret_bool HV.out.symm,Below.tr hB0 hb1⟩
theorem same_p (a b c d e f g h za zb zc zd ze ya yb yc yd ye : Int) (w : World) (hp : canonV a b c d = .tuple #[.agg #[.int .i64 za,.int .i64 zb,.int .i64 zc,.int .i64 zd],.int .i64 ze]) (hr : canonV e f g h = .tuple #[.agg #[.int .i64 ya,.int .i64 yb,.int .i64 yc,.int .i64 yd],.int .i64 ye]) (h0 : ¬ ze = 0) :
    Calls Tryz.prog 25 #[.agg #[.int .i64 a,.int .i64 b,.int .i64 c,.int .i64 d],.agg #[.int .i64 e,.int .i64 f,.int .i64 g,.int .i64 h]] w (GB (false) w) := by
  have hc1 := fun w => canon_any a b c d w
  have hc2 := fun w => canon_any e f g h w
  rw [hp] at hc1
  rw [hr] at hc2
  have H1 := Lib.hid hc1
  have H2 := Lib.hid hc2
  clear hc1 hc2 hp hr
  have hz0 : (ze == 0) = false := by simpa using h0
  clear h0
  have hB0 : Below w.heap.size w ((w.alloc (.cells #[.int .i64 a,.int .i64 b,.int .i64 c,.int .i64 d] 33)).alloc (.cells #[.int .i64 e,.int .i64 f,.int .i64 g,.int .i64 h] 33)) := Below.al ((Below.refl _ _).alloc (Nat.le_refl _) _) _
  have xb : Bx ((w.alloc (.cells #[.int .i64 a,.int .i64 b,.int .i64 c,.int .i64 d] 33)).alloc (.cells #[.int .i64 e,.int .i64 f,.int .i64 g,.int .i64 h] 33)) (w.heap.size + 1) [.int .i64 e,.int .i64 f,.int .i64 g,.int .i64 h] := by have := Bx.new (w.alloc (.cells #[.int .i64 a,.int .i64 b,.int .i64 c,.int .i64 d] 33)) [.int .i64 e,.int .i64 f,.int .i64 g,.int .i64 h] 33;simpa using this
  go_enter Tryz.func25,Tryz.ntmps25
  go_wp2_with fail
  refine (H1.out _).mono ?_
  rintro x w1 ⟨rfl,hb1⟩
  have xyb := xb.to hb1
  have yba := xyb.alloc (.cells #[.int .i64 za,.int .i64 zb,.int .i64 zc,.int .i64 zd] 33)
  have y0 := yba.c0
  have y1 := yba.c1
  have y2 := yba.c2
  have y3 := yba.c3
  have hB1 := Below.al (Below.tr hB0 hb1) (.cells #[.int .i64 za,.int .i64 zb,.int .i64 zc,.int .i64 zd] 33)
  have xp : Bx (w1.alloc (.cells #[.int .i64 za,.int .i64 zb,.int .i64 zc,.int .i64 zd] 33)) w1.heap.size [.int .i64 za,.int .i64 zb,.int .i64 zc,.int .i64 zd] := by have := Bx.new w1 [.int .i64 za,.int .i64 zb,.int .i64 zc,.int .i64 zd] 33;simpa using this
  go_wp2_with fail
  refine (H2.out _).mono ?_
  rintro x w2 ⟨rfl,hb2⟩
  have xp2 := (xp.to hb2).alloc (.cells #[.int .i64 ya,.int .i64 yb,.int .i64 yc,.int .i64 yd] 33)
  have z0 := xp2.c0
  have z1 := xp2.c1
  have z2 := xp2.c2
  have z3 := xp2.c3
  have hB2 := Below.al (Below.tr hB1 hb2) (.cells #[.int .i64 ya,.int .i64 yb,.int .i64 yc,.int .i64 yd] 33)
  go_wp2_with fail
  go_ret
  exact ⟨rfl,hB2⟩
theorem same_q (a b c d e f g h za zb zc zd ze ya yb yc yd ye : Int) (w : World) (hp : canonV a b c d = .tuple #[.agg #[.int .i64 za,.int .i64 zb,.int .i64 zc,.int .i64 zd],.int .i64 ze]) (hr : canonV e f g h = .tuple #[.agg #[.int .i64 ya,.int .i64 yb,.int .i64 yc,.int .i64 yd],.int .i64 ye]) (h0 : ze = 0) (h1 : ¬ ye = 0) :
    Calls Tryz.prog 25 #[.agg #[.int .i64 a,.int .i64 b,.int .i64 c,.int .i64 d],.agg #[.int .i64 e,.int .i64 f,.int .i64 g,.int .i64 h]] w (GB (false) w) := by
  have hc1 := fun w => canon_any a b c d w
  have hc2 := fun w => canon_any e f g h w
  rw [hp] at hc1
  rw [hr] at hc2
  have H1 := Lib.hid hc1
  have H2 := Lib.hid hc2
  clear hc1 hc2 hp hr
  have hz0 : (ze == 0) = true := by simp [h0]
  have hz1 : (ye == 0) = false := by simpa using h1
  clear h0 h1
  have hB0 : Below w.heap.size w ((w.alloc (.cells #[.int .i64 a,.int .i64 b,.int .i64 c,.int .i64 d] 33)).alloc (.cells #[.int .i64 e,.int .i64 f,.int .i64 g,.int .i64 h] 33)) := Below.al ((Below.refl _ _).alloc (Nat.le_refl _) _) _
  have xb : Bx ((w.alloc (.cells #[.int .i64 a,.int .i64 b,.int .i64 c,.int .i64 d] 33)).alloc (.cells #[.int .i64 e,.int .i64 f,.int .i64 g,.int .i64 h] 33)) (w.heap.size + 1) [.int .i64 e,.int .i64 f,.int .i64 g,.int .i64 h] := by have := Bx.new (w.alloc (.cells #[.int .i64 a,.int .i64 b,.int .i64 c,.int .i64 d] 33)) [.int .i64 e,.int .i64 f,.int .i64 g,.int .i64 h] 33;simpa using this
  go_enter Tryz.func25,Tryz.ntmps25
  go_wp2_with fail
  refine (H1.out _).mono ?_
  rintro x w1 ⟨rfl,hb1⟩
  have xyb := xb.to hb1
  have yba := xyb.alloc (.cells #[.int .i64 za,.int .i64 zb,.int .i64 zc,.int .i64 zd] 33)
  have y0 := yba.c0
  have y1 := yba.c1
  have y2 := yba.c2
  have y3 := yba.c3
  have hB1 := Below.al (Below.tr hB0 hb1) (.cells #[.int .i64 za,.int .i64 zb,.int .i64 zc,.int .i64 zd] 33)
  have xp : Bx (w1.alloc (.cells #[.int .i64 za,.int .i64 zb,.int .i64 zc,.int .i64 zd] 33)) w1.heap.size [.int .i64 za,.int .i64 zb,.int .i64 zc,.int .i64 zd] := by have := Bx.new w1 [.int .i64 za,.int .i64 zb,.int .i64 zc,.int .i64 zd] 33;simpa using this
  go_wp2_with fail
  refine (H2.out _).mono ?_
  rintro x w2 ⟨rfl,hb2⟩
  have xp2 := (xp.to hb2).alloc (.cells #[.int .i64 ya,.int .i64 yb,.int .i64 yc,.int .i64 yd] 33)
  have z0 := xp2.c0
  have z1 := xp2.c1
  have z2 := xp2.c2
  have z3 := xp2.c3
  have hB2 := Below.al (Below.tr hB1 hb2) (.cells #[.int .i64 ya,.int .i64 yb,.int .i64 yc,.int .i64 yd] 33)
  go_wp2_with fail
  go_ret
  exact ⟨rfl,hB2⟩
theorem same_n (a b c d e f g h za zb zc zd ze ya yb yc yd ye : Int) (w : World) (hp : canonV a b c d = .tuple #[.agg #[.int .i64 za,.int .i64 zb,.int .i64 zc,.int .i64 zd],.int .i64 ze]) (hr : canonV e f g h = .tuple #[.agg #[.int .i64 ya,.int .i64 yb,.int .i64 yc,.int .i64 yd],.int .i64 ye]) (h0 : ze = 0) (h1 : ye = 0) (h2 : ¬ (za = ya ∧ zb = yb ∧ zc = yc ∧ zd = yd)) :
    Calls Tryz.prog 25 #[.agg #[.int .i64 a,.int .i64 b,.int .i64 c,.int .i64 d],.agg #[.int .i64 e,.int .i64 f,.int .i64 g,.int .i64 h]] w (GB (false) w) := by
  have hc1 := fun w => canon_any a b c d w
  have hc2 := fun w => canon_any e f g h w
  rw [hp] at hc1
  rw [hr] at hc2
  have H1 := Lib.hid hc1
  have H2 := Lib.hid hc2
  clear hc1 hc2 hp hr
  have hz0 : (ze == 0) = true := by simp [h0]
  have hz1 : (ye == 0) = true := by simp [h1]
  have hne : ∀ w,Sem.run Tryz.prog (binOp .eql 33 (.agg #[.int .i64 za,.int .i64 zb,.int .i64 zc,.int .i64 zd]) (.agg #[.int .i64 ya,.int .i64 yb,.int .i64 yc,.int .i64 yd])) w = .ok (.bool false) w := fun w => by
    simp [go_sem]
    exact fun k0 k1 k2 k3 => h2 ⟨k0,k1,k2,k3⟩
  clear h0 h1 h2
  have hB0 : Below w.heap.size w ((w.alloc (.cells #[.int .i64 a,.int .i64 b,.int .i64 c,.int .i64 d] 33)).alloc (.cells #[.int .i64 e,.int .i64 f,.int .i64 g,.int .i64 h] 33)) := Below.al ((Below.refl _ _).alloc (Nat.le_refl _) _) _
  have xb : Bx ((w.alloc (.cells #[.int .i64 a,.int .i64 b,.int .i64 c,.int .i64 d] 33)).alloc (.cells #[.int .i64 e,.int .i64 f,.int .i64 g,.int .i64 h] 33)) (w.heap.size + 1) [.int .i64 e,.int .i64 f,.int .i64 g,.int .i64 h] := by have := Bx.new (w.alloc (.cells #[.int .i64 a,.int .i64 b,.int .i64 c,.int .i64 d] 33)) [.int .i64 e,.int .i64 f,.int .i64 g,.int .i64 h] 33;simpa using this
  go_enter Tryz.func25,Tryz.ntmps25
  go_wp2_with fail
  refine (H1.out _).mono ?_
  rintro x w1 ⟨rfl,hb1⟩
  have xyb := xb.to hb1
  have yba := xyb.alloc (.cells #[.int .i64 za,.int .i64 zb,.int .i64 zc,.int .i64 zd] 33)
  have y0 := yba.c0
  have y1 := yba.c1
  have y2 := yba.c2
  have y3 := yba.c3
  have hB1 := Below.al (Below.tr hB0 hb1) (.cells #[.int .i64 za,.int .i64 zb,.int .i64 zc,.int .i64 zd] 33)
  have xp : Bx (w1.alloc (.cells #[.int .i64 za,.int .i64 zb,.int .i64 zc,.int .i64 zd] 33)) w1.heap.size [.int .i64 za,.int .i64 zb,.int .i64 zc,.int .i64 zd] := by have := Bx.new w1 [.int .i64 za,.int .i64 zb,.int .i64 zc,.int .i64 zd] 33;simpa using this
  go_wp2_with fail
  refine (H2.out _).mono ?_
  rintro x w2 ⟨rfl,hb2⟩
  have xp2 := (xp.to hb2).alloc (.cells #[.int .i64 ya,.int .i64 yb,.int .i64 yc,.int .i64 yd] 33)
  have z0 := xp2.c0
  have z1 := xp2.c1
  have z2 := xp2.c2
  have z3 := xp2.c3
  have hB2 := Below.al (Below.tr hB1 hb2) (.cells #[.int .i64 ya,.int .i64 yb,.int .i64 yc,.int .i64 yd] 33)
  go_wp2_with fail
  go_ret
  exact ⟨rfl,hB2⟩
theorem same_y (a b c d e f g h za zb zc zd ze ye : Int) (w : World) (hp : canonV a b c d = .tuple #[.agg #[.int .i64 za,.int .i64 zb,.int .i64 zc,.int .i64 zd],.int .i64 ze]) (hr : canonV e f g h = .tuple #[.agg #[.int .i64 za,.int .i64 zb,.int .i64 zc,.int .i64 zd],.int .i64 ye]) (h0 : ze = 0) (h1 : ye = 0) :
    Calls Tryz.prog 25 #[.agg #[.int .i64 a,.int .i64 b,.int .i64 c,.int .i64 d],.agg #[.int .i64 e,.int .i64 f,.int .i64 g,.int .i64 h]] w (GB (true) w) := by
  have hc1 := fun w => canon_any a b c d w
  have hc2 := fun w => canon_any e f g h w
  rw [hp] at hc1
  rw [hr] at hc2
  have H1 := Lib.hid hc1
  have H2 := Lib.hid hc2
  clear hc1 hc2 hp hr
  have hz0 : (ze == 0) = true := by simp [h0]
  have hz1 : (ye == 0) = true := by simp [h1]
  have hne : ∀ w,Sem.run Tryz.prog (binOp .eql 33 (.agg #[.int .i64 za,.int .i64 zb,.int .i64 zc,.int .i64 zd]) (.agg #[.int .i64 za,.int .i64 zb,.int .i64 zc,.int .i64 zd])) w = .ok (.bool true) w := fun w => by simp [go_sem]
  clear h0 h1
  have hB0 : Below w.heap.size w ((w.alloc (.cells #[.int .i64 a,.int .i64 b,.int .i64 c,.int .i64 d] 33)).alloc (.cells #[.int .i64 e,.int .i64 f,.int .i64 g,.int .i64 h] 33)) := Below.al ((Below.refl _ _).alloc (Nat.le_refl _) _) _
  have xb : Bx ((w.alloc (.cells #[.int .i64 a,.int .i64 b,.int .i64 c,.int .i64 d] 33)).alloc (.cells #[.int .i64 e,.int .i64 f,.int .i64 g,.int .i64 h] 33)) (w.heap.size + 1) [.int .i64 e,.int .i64 f,.int .i64 g,.int .i64 h] := by have := Bx.new (w.alloc (.cells #[.int .i64 a,.int .i64 b,.int .i64 c,.int .i64 d] 33)) [.int .i64 e,.int .i64 f,.int .i64 g,.int .i64 h] 33;simpa using this
  go_enter Tryz.func25,Tryz.ntmps25
  go_wp2_with fail
  refine (H1.out _).mono ?_
  rintro x w1 ⟨rfl,hb1⟩
  have xyb := xb.to hb1
  have yba := xyb.alloc (.cells #[.int .i64 za,.int .i64 zb,.int .i64 zc,.int .i64 zd] 33)
  have y0 := yba.c0
  have y1 := yba.c1
  have y2 := yba.c2
  have y3 := yba.c3
  have hB1 := Below.al (Below.tr hB0 hb1) (.cells #[.int .i64 za,.int .i64 zb,.int .i64 zc,.int .i64 zd] 33)
  have xp : Bx (w1.alloc (.cells #[.int .i64 za,.int .i64 zb,.int .i64 zc,.int .i64 zd] 33)) w1.heap.size [.int .i64 za,.int .i64 zb,.int .i64 zc,.int .i64 zd] := by have := Bx.new w1 [.int .i64 za,.int .i64 zb,.int .i64 zc,.int .i64 zd] 33;simpa using this
  go_wp2_with fail
  refine (H2.out _).mono ?_
  rintro x w2 ⟨rfl,hb2⟩
  have xp2 := (xp.to hb2).alloc (.cells #[.int .i64 za,.int .i64 zb,.int .i64 zc,.int .i64 zd] 33)
  have z0 := xp2.c0
  have z1 := xp2.c1
  have z2 := xp2.c2
  have z3 := xp2.c3
  have hB2 := Below.al (Below.tr hB1 hb2) (.cells #[.int .i64 za,.int .i64 zb,.int .i64 zc,.int .i64 zd] 33)
  go_wp2_with fail
  go_ret
  exact ⟨rfl,hB2⟩
theorem flat_any (a b c d : Int) (w : World) : Calls Tryz.prog 30 #[.agg #[.int .i64 a,.int .i64 b,.int .i64 c,.int .i64 d]] w (GB (flatB a b c d) w) := by
  by_cases hq : qcode a b c d = 0
  · by_cases hb : b = 0
    · by_cases hd : d = 0
      · exact flat_y a b c d w hq hb hd
      · exact flat_d a b c d w hq hb hd
    · exact flat_b a b c d w hq hb
  · exact flat_n a b c d w hq
end Go.Proofs.YtidfgdchcpmnfaaGreat
