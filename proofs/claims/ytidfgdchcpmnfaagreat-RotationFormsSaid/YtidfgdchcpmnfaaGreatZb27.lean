/-
  Lemmas for the statements about rotations, part 27 of 51.
-/
import Derived.Handy
import Derived.Test.YtidfgdchcpmnfaaGreatZb11
import Derived.Test.YtidfgdchcpmnfaaGreatZb17
import Derived.Test.YtidfgdchcpmnfaaGreatZb19
import Derived.Test.YtidfgdchcpmnfaaGreatZb21
import Derived.Test.YtidfgdchcpmnfaaGreatZb26
namespace Go.Proofs.YtidfgdchcpmnfaaGreat
open Go.RowKit
set_option maxRecDepth 100000
set_option maxHeartbeats 8000000
set_option linter.unusedSimpArgs false
set_option linter.unusedVariables false
theorem indexQ_0 : ∀ (ya yb yc yd ye yf yg yh yi yj yk yl ym yn yo yp : Value) (w : World),Sem.run Tryz.prog (Instr.index 63 (.agg #[ya,yb,yc,yd,ye,yf,yg,yh,yi,yj,yk,yl,ym,yn,yo,yp]) (.int .i64 0)) w = .ok (.agg #[ya,yb,yc,yd]) w := fun ya yb yc yd ye yf yg yh yi yj yk yl ym yn yo yp w => by kernel_rfl
theorem indexQ_1 : ∀ (ya yb yc yd ye yf yg yh yi yj yk yl ym yn yo yp : Value) (w : World),Sem.run Tryz.prog (Instr.index 63 (.agg #[ya,yb,yc,yd,ye,yf,yg,yh,yi,yj,yk,yl,ym,yn,yo,yp]) (.int .i64 1)) w = .ok (.agg #[ye,yf,yg,yh]) w := fun ya yb yc yd ye yf yg yh yi yj yk yl ym yn yo yp w => by kernel_rfl
theorem indexQ_2 : ∀ (ya yb yc yd ye yf yg yh yi yj yk yl ym yn yo yp : Value) (w : World),Sem.run Tryz.prog (Instr.index 63 (.agg #[ya,yb,yc,yd,ye,yf,yg,yh,yi,yj,yk,yl,ym,yn,yo,yp]) (.int .i64 2)) w = .ok (.agg #[yi,yj,yk,yl]) w := fun ya yb yc yd ye yf yg yh yi yj yk yl ym yn yo yp w => by kernel_rfl
theorem indexQ_3 : ∀ (ya yb yc yd ye yf yg yh yi yj yk yl ym yn yo yp : Value) (w : World),Sem.run Tryz.prog (Instr.index 63 (.agg #[ya,yb,yc,yd,ye,yf,yg,yh,yi,yj,yk,yl,ym,yn,yo,yp]) (.int .i64 3)) w = .ok (.agg #[ym,yn,yo,yp]) w := fun ya yb yc yd ye yf yg yh yi yj yk yl ym yn yo yp w => by kernel_rfl
structure V4 (w : World) (ya yb yc yd ye yf yg yh yi yj yk yl ym yn yo yp : Value) (q : Nat → Rat) (K : Nat) : Prop where
  h0 : RQ w (.agg #[ya,yb,yc,yd]) (q 0)
  h1 : RQ w (.agg #[ye,yf,yg,yh]) (q 1)
  h2 : RQ w (.agg #[yi,yj,yk,yl]) (q 2)
  h3 : RQ w (.agg #[ym,yn,yo,yp]) (q 3)
  hK : ∀ k,k < 4 → rsz (q k) ≤ K
theorem V4.below {w w' : World} {ya yb yc yd ye yf yg yh yi yj yk yl ym yn yo yp : Value} {q : Nat → Rat} {K : Nat} (h : V4 w ya yb yc yd ye yf yg yh yi yj yk yl ym yn yo yp q K) (hb : Below w.heap.size w w') : V4 w' ya yb yc yd ye yf yg yh yi yj yk yl ym yn yo yp q K :=
  ⟨h.h0.below hb,h.h1.below hb,h.h2.below hb,h.h3.below hb,h.hK⟩
theorem indexQ_any {w : World} {ya yb yc yd ye yf yg yh yi yj yk yl ym yn yo yp : Value} {q : Nat → Rat} {K : Nat} (h : V4 w ya yb yc yd ye yf yg yh yi yj yk yl ym yn yo yp q K) {k : Nat} (hk : k < 4) :
    ∃ g p n c g' p' n' c',(∀ w,Sem.run Tryz.prog (Instr.index 63 (.agg #[ya,yb,yc,yd,ye,yf,yg,yh,yi,yj,yk,yl,ym,yn,yo,yp]) (.int .i64 (k : Nat))) w = .ok (.agg #[.bool g,.slice p n c,.bool g',.slice p' n' c']) w) ∧ RQ w (.agg #[.bool g,.slice p n c,.bool g',.slice p' n' c']) (q k) := by
  have : k = 0 ∨ k = 1 ∨ k = 2 ∨ k = 3 := by omega
  rcases this with rfl | rfl | rfl | rfl
  · obtain ⟨_,_,_,_,_,_,_,_,e⟩ := h.h0.form
    have hq := h.h0
    simp only [Value.agg.injEq,Array.mk.injEq,List.cons.injEq,and_true] at e
    obtain ⟨rfl,rfl,rfl,rfl⟩ := e
    exact ⟨_,_,_,_,_,_,_,_,indexQ_0 _ _ _ _ _ _ _ _ _ _ _ _ _ _ _ _,hq⟩
  · obtain ⟨_,_,_,_,_,_,_,_,e⟩ := h.h1.form
    have hq := h.h1
    simp only [Value.agg.injEq,Array.mk.injEq,List.cons.injEq,and_true] at e
    obtain ⟨rfl,rfl,rfl,rfl⟩ := e
    exact ⟨_,_,_,_,_,_,_,_,indexQ_1 _ _ _ _ _ _ _ _ _ _ _ _ _ _ _ _,hq⟩
  · obtain ⟨_,_,_,_,_,_,_,_,e⟩ := h.h2.form
    have hq := h.h2
    simp only [Value.agg.injEq,Array.mk.injEq,List.cons.injEq,and_true] at e
    obtain ⟨rfl,rfl,rfl,rfl⟩ := e
    exact ⟨_,_,_,_,_,_,_,_,indexQ_2 _ _ _ _ _ _ _ _ _ _ _ _ _ _ _ _,hq⟩
  · obtain ⟨_,_,_,_,_,_,_,_,e⟩ := h.h3.form
    have hq := h.h3
    simp only [Value.agg.injEq,Array.mk.injEq,List.cons.injEq,and_true] at e
    obtain ⟨rfl,rfl,rfl,rfl⟩ := e
    exact ⟨_,_,_,_,_,_,_,_,indexQ_3 _ _ _ _ _ _ _ _ _ _ _ _ _ _ _ _,hq⟩
def nzB (q : Nat → Rat) : Bool := !allB 4 (fun i => decide (q i = 0))
theorem nonzero_any (ya yb yc yd ye yf yg yh yi yj yk yl ym yn yo yp : Value) (q : Nat → Rat) (K : Nat) (w : World) (h : V4 w ya yb yc yd ye yf yg yh yi yj yk yl ym yn yo yp q K) (hK : K ≤ 400000000) :
    Calls Tryz.prog 57 #[.agg #[ya,yb,yc,yd,ye,yf,yg,yh,yi,yj,yk,yl,ym,yn,yo,yp]] w (GB (nzB q) w) := by
  have hB0 : Below w.heap.size w (w.alloc (.cells #[ya,yb,yc,yd,ye,yf,yg,yh,yi,yj,yk,yl,ym,yn,yo,yp] 63)) := (Below.refl _ _).alloc (Nat.le_refl _) _
  go_enter Tryz.func57,Tryz.ntmps57
  go_wp2_with fail
  go_loopw [6,4,7,8,9,10,11,12] (fun i _ _ _ _ _ _ _ wr => ∃ k : Nat,k ≤ 4 ∧ i = .int .i64 (k : Nat) ∧ Hid (∀ j,j < k → decide (q j = 0) = true) ∧ Below w.heap.size w wr) (fun i _ _ _ _ _ _ _ _ => 4 - (intOf i).toNat)
  case atStart => exact ⟨0,by omega,rfl,Lib.hid (fun j hj => by omega),hB0⟩
  case round =>
    obtain ⟨k,hk,rfl,HJ,hB⟩ := hrel
    by_cases hlt : k < 4
    · have hkd : decide ((k : Int) < 4) = true := by simp;omega
      obtain ⟨xg,xp,xn,xc,xh,xo,xm,xe,hix,hx⟩ := indexQ_any (h.below hB) hlt
      have lx := h.hK k hlt
      have hxa := hx.alloc (.cells #[.bool xg,.slice xp xn xc,.bool xh,.slice xo xm xe] 30)
      have hBa := Below.al hB (.cells #[.bool xg,.slice xp xn xc,.bool xh,.slice xo xm xe] 30)
      by_cases hx0 : q k = 0
      · have hsg : (sgn (q k).num == 0) = true := by rw [hx0];rfl
        have hsg2 : (sgn (q k).num != 0) = false := by rw [hx0];rfl
        have HX0 := Lib.hid hx0
        clear hx0
        go_wp2_with fail
        refine (signQ_any _ _ _ hxa (by omega)).mono ?_
        rintro x w1 ⟨rfl,hb1⟩
        go_wp2_with fail
        go_roundw
        case rel => exact ⟨k + 1,by omega,by go_num,Lib.hid (fun j hj => if e : j < k then HJ.out j e else by rw [show j = k by omega];simp [HX0.out]),Below.tr hBa hb1⟩
        case measure => simp [intOf];omega
      · have hsg : (sgn (q k).num == 0) = false := by have := sgn_ne (fun e => hx0 (Rat.num_eq_zero.1 e));simpa using this
        have hsg2 : (sgn (q k).num != 0) = true := by have := sgn_ne (fun e => hx0 (Rat.num_eq_zero.1 e));simpa using this
        have HN : Hid (nzB q = true) := Lib.hid (by unfold nzB;rw [allB_no hlt (by simp [hx0])];rfl)
        clear hx0
        go_wp2_with fail
        refine (signQ_any _ _ _ hxa (by omega)).mono ?_
        rintro x w1 ⟨rfl,hb1⟩
        go_wp2_with fail
        go_ret
        exact ⟨ret_bool HN.out.symm,Below.tr hBa hb1⟩
    · have he : k = 4 := by omega
      subst he
      have HN : Hid (nzB q = false) := Lib.hid (by unfold nzB;rw [allB_iff.2 HJ.out];rfl)
      go_wp2_with fail
      go_ret
      exact ⟨ret_bool HN.out.symm,hB⟩
theorem isz_fdiv_dvd {x y : Int} (hy : y ≠ 0) (h : y ∣ x) : isz (x.fdiv y) ≤ isz x := by
  obtain ⟨z,rfl⟩ := h
  rw [Int.mul_fdiv_cancel_left _ hy]
  exact isz_mono (by rw [Int.natAbs_mul];exact Nat.le_mul_of_pos_left _ (Int.natAbs_pos.2 hy))
def clearD (q : Nat → Rat) : Int := 1 * ((q 0).den : Int) * ((q 1).den : Int) * ((q 2).den : Int) * ((q 3).den : Int)
def clearXs (q : Nat → Rat) : Nat → Int := fun k => (q k).num * (clearD q).fdiv ((q k).den : Int)
theorem prim_yes (ya yb yc yd ye yf yg yh : Value) (xs : Nat → Int) (w : World) (h0 : Raw w (.agg #[ya,yb]) (xs 0)) (h1 : Raw w (.agg #[yc,yd]) (xs 1)) (h2 : Raw w (.agg #[ye,yf]) (xs 2)) (h3 : Raw w (.agg #[yg,yh]) (xs 3))
    (hl : ∀ j,j < 4 → isz (xs j) ≤ 400000000) (hne : ∃ j,j < 4 ∧ xs j ≠ 0) (hok : primOk xs) :
    Calls Tryz.prog 93 #[.agg #[ya,yb,yc,yd,ye,yf,yg,yh]] w fun e w' => e = .returned (.tuple #[.agg #[.int .i64 (primN xs 0),.int .i64 (primN xs 1),.int .i64 (primN xs 2),.int .i64 (primN xs 3)],.int .i64 0]) ∧ Below w.heap.size w w' := by
  have := prim_any ya yb yc yd ye yf yg yh xs w h0 h1 h2 h3 hl hne
  rw [primV_ok hok] at this
  exact this
theorem prim_bad (ya yb yc yd ye yf yg yh : Value) (xs : Nat → Int) (w : World) (h0 : Raw w (.agg #[ya,yb]) (xs 0)) (h1 : Raw w (.agg #[yc,yd]) (xs 1)) (h2 : Raw w (.agg #[ye,yf]) (xs 2)) (h3 : Raw w (.agg #[yg,yh]) (xs 3))
    (hl : ∀ j,j < 4 → isz (xs j) ≤ 400000000) (hne : ∃ j,j < 4 ∧ xs j ≠ 0) (hok : ¬ primOk xs) :
    Calls Tryz.prog 93 #[.agg #[ya,yb,yc,yd,ye,yf,yg,yh]] w fun e w' => e = .returned (.tuple #[.agg #[.int .i64 0,.int .i64 0,.int .i64 0,.int .i64 0],.int .i64 3]) ∧ Below w.heap.size w w' := by
  have := prim_any ya yb yc yd ye yf yg yh xs w h0 h1 h2 h3 hl hne
  unfold primV at this
  rw [if_neg hok] at this
  exact this
end Go.Proofs.YtidfgdchcpmnfaaGreat
namespace Go.Proofs.YtidfgdchcpmnfaaGreat
open Go.RowKit
set_option maxRecDepth 100000
set_option maxHeartbeats 8000000
set_option linter.unusedSimpArgs false
set_option linter.unusedVariables false
theorem primV_form (xs : Nat → Int) : ∃ a b c d e : Int,primV xs = .tuple #[.agg #[.int .i64 a,.int .i64 b,.int .i64 c,.int .i64 d],.int .i64 e] := by
  by_cases h : primOk xs
  · exact ⟨_,_,_,_,_,primV_ok h⟩
  · exact ⟨0,0,0,0,3,if_neg h⟩
theorem prim_f {za zb zc zd ze : Int} (ya yb yc yd ye yf yg yh : Value) (xs : Nat → Int) (w : World) (h0 : Raw w (.agg #[ya,yb]) (xs 0)) (h1 : Raw w (.agg #[yc,yd]) (xs 1)) (h2 : Raw w (.agg #[ye,yf]) (xs 2)) (h3 : Raw w (.agg #[yg,yh]) (xs 3))
    (hl : ∀ j,j < 4 → isz (xs j) ≤ 400000000) (hne : ∃ j,j < 4 ∧ xs j ≠ 0) (hz : primV xs = .tuple #[.agg #[.int .i64 za,.int .i64 zb,.int .i64 zc,.int .i64 zd],.int .i64 ze]) :
    Calls Tryz.prog 93 #[.agg #[ya,yb,yc,yd,ye,yf,yg,yh]] w fun e w' => e = .returned (.tuple #[.agg #[.int .i64 za,.int .i64 zb,.int .i64 zc,.int .i64 zd],.int .i64 ze]) ∧ Below w.heap.size w w' := by
  have := prim_any ya yb yc yd ye yf yg yh xs w h0 h1 h2 h3 hl hne
  rw [hz] at this
  exact this
def GV (v : Value) (w : World) (e : Ending) (w' : World) : Prop := e = .returned v ∧ Below w.heap.size w w'
theorem isz_word {x : Int} (h0 : -9223372036854775808 ≤ x) (h1 : x ≤ 9223372036854775807) : isz x ≤ 400000000 :=
  Nat.le_trans (isz_le (k := 3) (by rw [BB_eq];omega)) (by omega)
theorem reduced_any (a b c d : Int) (w : World) (ha0 : -9223372036854775808 ≤ a) (ha1 : a ≤ 9223372036854775807) (hb0 : -9223372036854775808 ≤ b) (hb1 : b ≤ 9223372036854775807) (hc0 : -9223372036854775808 ≤ c) (hc1 : c ≤ 9223372036854775807) (hd0 : -9223372036854775808 ≤ d) (hd1 : d ≤ 9223372036854775807) (hne : ¬ (a = 0 ∧ b = 0 ∧ c = 0 ∧ d = 0)) :
    Calls Tryz.prog 67 #[.int .i64 a,.int .i64 b,.int .i64 c,.int .i64 d] w (GV (primV (xs4 a b c d)) w) := by
  obtain ⟨za,zb,zc,zd,ze,hz⟩ := primV_form (xs4 a b c d)
  have HZ := Lib.hid hz
  have HLX : Hid (∀ j,j < 4 → isz (xs4 a b c d j) ≤ 400000000) := Lib.hid (fun j hj => by
    obtain rfl | rfl | rfl | rfl : j = 0 ∨ j = 1 ∨ j = 2 ∨ j = 3 := by omega
    · exact isz_word ha0 ha1
    · exact isz_word hb0 hb1
    · exact isz_word hc0 hc1
    · exact isz_word hd0 hd1)
  have HNX : Hid (∃ j,j < 4 ∧ xs4 a b c d j ≠ 0) := Lib.hid (by
    by_cases h1 : a = 0
    · by_cases h2 : b = 0
      · by_cases h3 : c = 0
        · exact ⟨3,by omega,fun e => hne ⟨h1,h2,h3,e⟩⟩
        · exact ⟨2,by omega,h3⟩
      · exact ⟨1,by omega,h2⟩
    · exact ⟨0,by omega,h1⟩)
  clear hz hne
  have hB_0 : Below w.heap.size w w := Below.refl _ _
  go_enter Tryz.func67,Tryz.ntmps67
  go_wp2_with fail
  (with_reducible refine (of_any _ _ (by omega) (by omega)).mono ?_)
  rintro e w1 ⟨v1,rfl,hi1,hb1⟩
  obtain ⟨g1,p1,n1,c1,rfl⟩ := hi1.form
  go_wp2_with fail
  (with_reducible refine (of_any _ _ (by omega) (by omega)).mono ?_)
  rintro e w2 ⟨v2,rfl,hi2,hb2⟩
  obtain ⟨g2,p2,n2,c2,rfl⟩ := hi2.form
  go_wp2_with fail
  (with_reducible refine (of_any _ _ (by omega) (by omega)).mono ?_)
  rintro e w3 ⟨v3,rfl,hi3,hb3⟩
  obtain ⟨g3,p3,n3,c3,rfl⟩ := hi3.form
  go_wp2_with fail
  (with_reducible refine (of_any _ _ (by omega) (by omega)).mono ?_)
  rintro e w4 ⟨v4,rfl,hi4,hb4⟩
  obtain ⟨g4,p4,n4,c4,rfl⟩ := hi4.form
  go_wp2_with fail
  have o0 := (((hi1.below hb2).below hb3).below hb4)
  have i0 := o0.raw
  have p0 := ((hi2.below hb3).below hb4)
  have j0 := p0.raw
  have q0 := (hi3.below hb4)
  have k0 := q0.raw
  have l0 := hi4.raw
  have hp0 : Raw _ _ (xs4 a b c d 0) := i0
  have hp1 : Raw _ _ (xs4 a b c d 1) := j0
  have hp2 : Raw _ _ (xs4 a b c d 2) := k0
  have hp3 : Raw _ _ (xs4 a b c d 3) := l0
  (with_reducible refine (prim_f _ _ _ _ _ _ _ _ (xs4 a b c d) _ hp0 hp1 hp2 hp3 HLX.out HNX.out HZ.out).mono ?_)
  rintro e w5 ⟨rfl,hb5⟩
  obtain ⟨hA1,n0⟩ := bx1 w rfl [.int .i64 0,.int .i64 0,.int .i64 0,.int .i64 0] 33
  have q0_5 := (((((n0.to hb1).to hb2).to hb3).to hb4).to hb5)
  obtain ⟨a0,e0,b0,f0,c0,g0,d0,h0⟩ := q0_5.cf4
  have m0 := (Below.tr (Below.tr (Below.tr (Below.tr (Below.tr (Below.tr hB_0 hA1) hb1) hb2) hb3) hb4) hb5)
  go_wp2_with fail
  exact bodyPost_ret (v := .tuple #[.agg #[.int .i64 za,.int .i64 zb,.int .i64 zc,.int .i64 zd],.int .i64 ze]) (by simp [results,Tryz.results67,go_sem,a0,e0,b0,f0,c0,g0,d0,h0]) rfl ⟨by rw [HZ.out],(Below.sets4 m0 (b := w.heap.size) (by omega) (.int .i64 za) (.int .i64 zb) (.int .i64 zc) (.int .i64 zd))⟩
def canonV (a b c d : Int) : Value := if qcode a b c d = 0 then primV (xs4 a b c d) else .tuple #[quatV 0 0 0 0,.int .i64 (qcode a b c d)]
theorem qcode_ok {a b c d : Int} (h : qcode a b c d = 0) : ¬ (a = 0 ∧ b = 0 ∧ c = 0 ∧ d = 0) ∧ okc a ∧ okc b ∧ okc c ∧ okc d := by
  unfold qcode at h
  by_cases h1 : a = 0 ∧ b = 0 ∧ c = 0 ∧ d = 0
  · rw [if_pos h1] at h;omega
  · rw [if_neg h1] at h
    by_cases h2 : okc a ∧ okc b ∧ okc c ∧ okc d
    · exact ⟨h1,h2⟩
    · rw [if_neg h2] at h;omega
def conjV (a b c d : Int) : Value := if qcode a b c d = 0 then primV (xs4 a (-b) (-c) (-d)) else .tuple #[quatV 0 0 0 0,.int .i64 (qcode a b c d)]
theorem canon_ok (a b c d : Int) (w : World) (hq : qcode a b c d = 0) :
    Calls Tryz.prog 18 #[.agg #[.int .i64 a,.int .i64 b,.int .i64 c,.int .i64 d]] w (GV (canonV a b c d) w) := by
  obtain ⟨za,zb,zc,zd,ze,hz⟩ := primV_form (xs4 a (b) (c) (d))
  obtain ⟨hne,oa,ob,oc,od⟩ := qcode_ok hq
  unfold okc at oa ob oc od
  have HV : Hid (canonV a b c d = .tuple #[.agg #[.int .i64 za,.int .i64 zb,.int .i64 zc,.int .i64 zd],.int .i64 ze]) := Lib.hid (by unfold canonV;rw [if_pos hq,hz])
  have HNE : Hid (¬ (a = 0 ∧ b = 0 ∧ c = 0 ∧ d = 0)) := Lib.hid (fun h => hne (by omega))
  have hred : ∀ w : World,Calls Tryz.prog 67 #[.int .i64 a,.int .i64 (b),.int .i64 (c),.int .i64 (d)] w (GV (.tuple #[.agg #[.int .i64 za,.int .i64 zb,.int .i64 zc,.int .i64 zd],.int .i64 ze]) w) := fun w => by
    rw [← hz]
    exact reduced_any _ _ _ _ w (by omega) (by omega) (by omega) (by omega) (by omega) (by omega) (by omega) (by omega) HNE.out
  have HRED := Lib.hid hred
  have hqt : (qcode a b c d == 0) = true := by simp [hq]
  have hqt2 : (qcode a b c d != 0) = false := by simp [hq]
  clear hz hne hred hq
  have hB_0 : Below w.heap.size w w := Below.refl _ _
  go_enter Tryz.func18,Tryz.ntmps18
  go_wp2_with fail
  (with_reducible refine (check_any _ _ _ _ _).mono ?_)
  rintro e w1 ⟨rfl,hb1⟩
  obtain ⟨hA1,j0,k0⟩ := bx2 w rfl [.int .i64 a,.int .i64 b,.int .i64 c,.int .i64 d] 33 [.int .i64 0,.int .i64 0,.int .i64 0,.int .i64 0] 33
  have q0_1 := (j0.to hb1)
  obtain ⟨l0,m0,n0,o0⟩ := q0_1.cs4
  go_wp2_with fail
  (with_reducible refine (HRED.out _).mono ?_)
  rintro e w2 ⟨rfl,hb2⟩
  have q1_2 := ((k0.to hb1).to hb2)
  obtain ⟨a0,e0,b0,f0,c0,g0,d0,h0⟩ := q1_2.cf4
  have i0 := (Below.tr (Below.tr (Below.tr hB_0 hA1) hb1) hb2)
  go_wp2_with fail
  exact bodyPost_ret (v := .tuple #[.agg #[.int .i64 za,.int .i64 zb,.int .i64 zc,.int .i64 zd],.int .i64 ze]) (by simp [results,Tryz.results18,go_sem,a0,e0,b0,f0,c0,g0,d0,h0]) rfl ⟨by rw [HV.out],(Below.sets4 i0 (b := w.heap.size + 1) (by omega) (.int .i64 za) (.int .i64 zb) (.int .i64 zc) (.int .i64 zd))⟩
theorem canon_no (a b c d : Int) (w : World) (hq : ¬ qcode a b c d = 0) :
    Calls Tryz.prog 18 #[.agg #[.int .i64 a,.int .i64 b,.int .i64 c,.int .i64 d]] w (GV (canonV a b c d) w) := by
  have HV : Hid (canonV a b c d = .tuple #[.agg #[.int .i64 0,.int .i64 0,.int .i64 0,.int .i64 0],.int .i64 (qcode a b c d)]) := Lib.hid (by unfold canonV;exact if_neg hq)
  have hqt : (qcode a b c d == 0) = false := by simpa using hq
  have hqt2 : (qcode a b c d != 0) = true := by simpa using hq
  clear hq
  have hB_0 : Below w.heap.size w w := Below.refl _ _
  go_enter Tryz.func18,Tryz.ntmps18
  go_wp2_with fail
  (with_reducible refine (check_any _ _ _ _ _).mono ?_)
  rintro e w1 ⟨rfl,hb1⟩
  obtain ⟨hA1,k0,j0⟩ := bx2 w rfl [.int .i64 a,.int .i64 b,.int .i64 c,.int .i64 d] 33 [.int .i64 0,.int .i64 0,.int .i64 0,.int .i64 0] 33
  have q1_1 := (j0.to hb1)
  obtain ⟨a0,e0,b0,f0,c0,g0,d0,h0⟩ := q1_1.cf4
  have i0 := (Below.tr (Below.tr hB_0 hA1) hb1)
  go_wp2_with fail
  exact bodyPost_ret (v := .tuple #[.agg #[.int .i64 0,.int .i64 0,.int .i64 0,.int .i64 0],.int .i64 (qcode a b c d)]) (by simp [results,Tryz.results18,go_sem,a0,e0,b0,f0,c0,g0,d0,h0]) rfl ⟨by rw [HV.out],(Below.sets4 i0 (b := w.heap.size + 1) (by omega) (.int .i64 0) (.int .i64 0) (.int .i64 0) (.int .i64 0))⟩
theorem conj_ok (a b c d : Int) (w : World) (hq : qcode a b c d = 0) :
    Calls Tryz.prog 33 #[.agg #[.int .i64 a,.int .i64 b,.int .i64 c,.int .i64 d]] w (GV (conjV a b c d) w) := by
  obtain ⟨za,zb,zc,zd,ze,hz⟩ := primV_form (xs4 a (-b) (-c) (-d))
  obtain ⟨hne,oa,ob,oc,od⟩ := qcode_ok hq
  unfold okc at oa ob oc od
  have HV : Hid (conjV a b c d = .tuple #[.agg #[.int .i64 za,.int .i64 zb,.int .i64 zc,.int .i64 zd],.int .i64 ze]) := Lib.hid (by unfold conjV;rw [if_pos hq,hz])
  have HNE : Hid (¬ (a = 0 ∧ -b = 0 ∧ -c = 0 ∧ -d = 0)) := Lib.hid (fun h => hne (by omega))
  have hred : ∀ w : World,Calls Tryz.prog 67 #[.int .i64 a,.int .i64 (-b),.int .i64 (-c),.int .i64 (-d)] w (GV (.tuple #[.agg #[.int .i64 za,.int .i64 zb,.int .i64 zc,.int .i64 zd],.int .i64 ze]) w) := fun w => by
    rw [← hz]
    exact reduced_any _ _ _ _ w (by omega) (by omega) (by omega) (by omega) (by omega) (by omega) (by omega) (by omega) HNE.out
  have HRED := Lib.hid hred
  have hqt : (qcode a b c d == 0) = true := by simp [hq]
  have hqt2 : (qcode a b c d != 0) = false := by simp [hq]
  clear hz hne hred hq
  have hB_0 : Below w.heap.size w w := Below.refl _ _
  go_enter Tryz.func33,Tryz.ntmps33
  go_wp2_with fail
  (with_reducible refine (check_any _ _ _ _ _).mono ?_)
  rintro e w1 ⟨rfl,hb1⟩
  obtain ⟨hA1,j0,k0⟩ := bx2 w rfl [.int .i64 a,.int .i64 b,.int .i64 c,.int .i64 d] 33 [.int .i64 0,.int .i64 0,.int .i64 0,.int .i64 0] 33
  have q0_1 := (j0.to hb1)
  obtain ⟨l0,m0,n0,o0⟩ := q0_1.cs4
  go_wp2_with fail
  (with_reducible refine (HRED.out _).mono ?_)
  rintro e w2 ⟨rfl,hb2⟩
  have q1_2 := ((k0.to hb1).to hb2)
  obtain ⟨a0,e0,b0,f0,c0,g0,d0,h0⟩ := q1_2.cf4
  have i0 := (Below.tr (Below.tr (Below.tr hB_0 hA1) hb1) hb2)
  go_wp2_with fail
  exact bodyPost_ret (v := .tuple #[.agg #[.int .i64 za,.int .i64 zb,.int .i64 zc,.int .i64 zd],.int .i64 ze]) (by simp [results,Tryz.results33,go_sem,a0,e0,b0,f0,c0,g0,d0,h0]) rfl ⟨by rw [HV.out],(Below.sets4 i0 (b := w.heap.size + 1) (by omega) (.int .i64 za) (.int .i64 zb) (.int .i64 zc) (.int .i64 zd))⟩
theorem conj_no (a b c d : Int) (w : World) (hq : ¬ qcode a b c d = 0) :
    Calls Tryz.prog 33 #[.agg #[.int .i64 a,.int .i64 b,.int .i64 c,.int .i64 d]] w (GV (conjV a b c d) w) := by
  have HV : Hid (conjV a b c d = .tuple #[.agg #[.int .i64 0,.int .i64 0,.int .i64 0,.int .i64 0],.int .i64 (qcode a b c d)]) := Lib.hid (by unfold conjV;exact if_neg hq)
  have hqt : (qcode a b c d == 0) = false := by simpa using hq
  have hqt2 : (qcode a b c d != 0) = true := by simpa using hq
  clear hq
  have hB_0 : Below w.heap.size w w := Below.refl _ _
  go_enter Tryz.func33,Tryz.ntmps33
  go_wp2_with fail
  (with_reducible refine (check_any _ _ _ _ _).mono ?_)
  rintro e w1 ⟨rfl,hb1⟩
  obtain ⟨hA1,k0,j0⟩ := bx2 w rfl [.int .i64 a,.int .i64 b,.int .i64 c,.int .i64 d] 33 [.int .i64 0,.int .i64 0,.int .i64 0,.int .i64 0] 33
  have q1_1 := (j0.to hb1)
  obtain ⟨a0,e0,b0,f0,c0,g0,d0,h0⟩ := q1_1.cf4
  have i0 := (Below.tr (Below.tr hB_0 hA1) hb1)
  go_wp2_with fail
  exact bodyPost_ret (v := .tuple #[.agg #[.int .i64 0,.int .i64 0,.int .i64 0,.int .i64 0],.int .i64 (qcode a b c d)]) (by simp [results,Tryz.results33,go_sem,a0,e0,b0,f0,c0,g0,d0,h0]) rfl ⟨by rw [HV.out],(Below.sets4 i0 (b := w.heap.size + 1) (by omega) (.int .i64 0) (.int .i64 0) (.int .i64 0) (.int .i64 0))⟩
theorem canon_any (a b c d : Int) (w : World) : Calls Tryz.prog 18 #[.agg #[.int .i64 a,.int .i64 b,.int .i64 c,.int .i64 d]] w (GV (canonV a b c d) w) := by
  by_cases hq : qcode a b c d = 0
  · exact canon_ok a b c d w hq
  · exact canon_no a b c d w hq
theorem conj_any (a b c d : Int) (w : World) : Calls Tryz.prog 33 #[.agg #[.int .i64 a,.int .i64 b,.int .i64 c,.int .i64 d]] w (GV (conjV a b c d) w) := by
  by_cases hq : qcode a b c d = 0
  · exact conj_ok a b c d w hq
  · exact conj_no a b c d w hq
end Go.Proofs.YtidfgdchcpmnfaaGreat
namespace Go.Proofs.YtidfgdchcpmnfaaGreat
open Go.RowKit
set_option maxRecDepth 100000
set_option maxHeartbeats 8000000
set_option linter.unusedSimpArgs false
set_option linter.unusedVariables false
theorem okc_mul {x y : Int} (hx : okc x) (hy : okc y) : -1099511627776 ≤ x * y ∧ x * y ≤ 1099511627776 := by
  unfold okc at hx hy
  have h1 : (x * y).natAbs ≤ 1048576 * 1048576 := by
    rw [Int.natAbs_mul]
    exact Nat.mul_le_mul (by omega) (by omega)
  omega
def normI (a b c d : Int) : Int := a * a + b * b + c * c + d * d
theorem norm_any (a b c d : Int) (w : World) (oa : okc a) (ob : okc b) (oc : okc c) (od : okc d) :
    Calls Tryz.prog 65 #[.agg #[.int .i64 a,.int .i64 b,.int .i64 c,.int .i64 d]] w (GI (normI a b c d) w) := by
  obtain ⟨p0,p1⟩ := okc_mul oa oa
  obtain ⟨p2,p3⟩ := okc_mul ob ob
  obtain ⟨p4,p5⟩ := okc_mul oc oc
  obtain ⟨p6,p7⟩ := okc_mul od od
  go_enter Tryz.func65,Tryz.ntmps65
  go_wp2_with fail
  go_ret
  exact ⟨rfl,(Below.refl _ _).alloc (Nat.le_refl _) _⟩
def qcode2 (a b c d e f g h : Int) : Int := if qcode a b c d = 0 then qcode e f g h else qcode a b c d
theorem checked_any (a b c d e f g h : Int) (B : Nat) (w : World) (hx : Bx w B [.int .i64 a,.int .i64 b,.int .i64 c,.int .i64 d,.int .i64 e,.int .i64 f,.int .i64 g,.int .i64 h]) :
    Calls Tryz.prog 68 #[.slice (some ⟨B,0,none⟩) 2 2] w (GI (qcode2 a b c d e f g h) w) := by
  have hlt := hx.1
  have hB0 : Below w.heap.size w w := Below.refl _ _
  have HX := Lib.hid hx
  have x0 := hx.c0
  have x1 := hx.c1
  have x2 := hx.c2
  have x3 := hx.c3
  have hBa := Below.al hB0 (.cells #[.int .i64 a,.int .i64 b,.int .i64 c,.int .i64 d] 33)
  by_cases hq : qcode a b c d = 0
  · have hqt : (qcode a b c d == 0) = true := by simp [hq]
    have hqt2 : (qcode a b c d != 0) = false := by simp [hq]
    have HQ : Hid (qcode2 a b c d e f g h = qcode e f g h) := Lib.hid (if_pos hq)
    clear hq
    go_enter Tryz.func68,Tryz.ntmps68
    go_wp2_with fail
    refine wp_loop_rounds 3 ?_
    rw [rounds_succ]
    go_wp2_with fail
    refine (check_any a b c d _).mono ?_
    rintro x w1 ⟨rfl,hb1⟩
    have hB1 := Below.tr hBa hb1
    have y0 := cellB hB1 hlt HX.out.c4
    have y1 := cellB hB1 hlt HX.out.c5
    have y2 := cellB hB1 hlt HX.out.c6
    have y3 := cellB hB1 hlt HX.out.c7
    have hlt1 : B < w1.heap.size := Nat.lt_of_lt_of_le hlt hB1.size
    have hBb := Below.al hB1 (.cells #[.int .i64 e,.int .i64 f,.int .i64 g,.int .i64 h] 33)
    go_wp2_with fail
    rw [rounds_succ]
    by_cases hr : qcode e f g h = 0
    · have hrt : (qcode e f g h == 0) = true := by simp [hr]
      have hrt2 : (qcode e f g h != 0) = false := by simp [hr]
      have HR := Lib.hid hr
      clear hr
      go_wp2_with fail
      refine (check_any e f g h _).mono ?_
      rintro x w2 ⟨rfl,hb2⟩
      go_wp2_with fail
      rw [rounds_succ]
      go_wp2_with fail
      go_ret
      exact ⟨ret_int (by rw [HQ.out,HR.out]),Below.tr hBb hb2⟩
    · have hrt : (qcode e f g h == 0) = false := by simpa using hr
      have hrt2 : (qcode e f g h != 0) = true := by simpa using hr
      clear hr
      go_wp2_with fail
      refine (check_any e f g h _).mono ?_
      rintro x w2 ⟨rfl,hb2⟩
      go_wp2_with fail
      go_ret
      exact ⟨ret_int (by rw [HQ.out]),Below.tr hBb hb2⟩
  · have hqt : (qcode a b c d == 0) = false := by simpa using hq
    have hqt2 : (qcode a b c d != 0) = true := by simpa using hq
    have HQ : Hid (qcode2 a b c d e f g h = qcode a b c d) := Lib.hid (if_neg hq)
    clear hq
    go_enter Tryz.func68,Tryz.ntmps68
    go_wp2_with fail
    refine wp_loop_rounds 3 ?_
    rw [rounds_succ]
    go_wp2_with fail
    refine (check_any a b c d _).mono ?_
    rintro x w1 ⟨rfl,hb1⟩
    go_wp2_with fail
    go_ret
    exact ⟨ret_int (by rw [HQ.out]),Below.tr hBa hb1⟩
end Go.Proofs.YtidfgdchcpmnfaaGreat
