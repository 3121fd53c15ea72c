/-
  Lemmas for the statements about rotations, part 29 of 51.
-/
import Derived.Test.YtidfgdchcpmnfaaGreatZb11
import Derived.Test.YtidfgdchcpmnfaaGreatZb27
namespace Go.Proofs.YtidfgdchcpmnfaaGreat
open Go.RowKit
set_option maxRecDepth 100000
set_option maxHeartbeats 8000000
set_option linter.unusedSimpArgs false
set_option linter.unusedVariables false
theorem clearD_dvd (q : Nat → Rat) {k : Nat} (hk : k < 4) : ((q k).den : Int) ∣ clearD q := by
  unfold clearD
  have : k = 0 ∨ k = 1 ∨ k = 2 ∨ k = 3 := by omega
  rcases this with rfl | rfl | rfl | rfl
  · exact Int.dvd_mul_of_dvd_left (Int.dvd_mul_of_dvd_left (Int.dvd_mul_of_dvd_left (Int.dvd_mul_left _ _)))
  · exact Int.dvd_mul_of_dvd_left (Int.dvd_mul_of_dvd_left (Int.dvd_mul_left _ _))
  · exact Int.dvd_mul_of_dvd_left (Int.dvd_mul_left _ _)
  · exact Int.dvd_mul_left _ _
theorem clearD_isz {q : Nat → Rat} {K : Nat} (h : ∀ k,k < 4 → rsz (q k) ≤ K) : isz (clearD q) ≤ 4 * K + 1 := by
  unfold clearD
  have h0 := h 0 (by omega)
  have h1 := h 1 (by omega)
  have h2 := h 2 (by omega)
  have h3 := h 3 (by omega)
  have d0 := rsz_den (q 0)
  have d1 := rsz_den (q 1)
  have d2 := rsz_den (q 2)
  have d3 := rsz_den (q 3)
  have m0 := isz_mul 1 ((q 0).den : Int)
  have m1 := isz_mul (1 * ((q 0).den : Int)) ((q 1).den : Int)
  have m2 := isz_mul (1 * ((q 0).den : Int) * ((q 1).den : Int)) ((q 2).den : Int)
  have m3 := isz_mul (1 * ((q 0).den : Int) * ((q 1).den : Int) * ((q 2).den : Int)) ((q 3).den : Int)
  have z : isz 1 ≤ 1 := by decide +kernel
  omega
theorem clearXs_isz {q : Nat → Rat} {K : Nat} (h : ∀ k,k < 4 → rsz (q k) ≤ K) {k : Nat} (hk : k < 4) : isz (clearXs q k) ≤ 5 * K + 1 := by
  unfold clearXs
  have h1 := isz_mul (q k).num ((clearD q).fdiv ((q k).den : Int))
  have h2 := isz_fdiv_dvd (x := clearD q) (y := ((q k).den : Int)) (by have := (q k).den_nz;omega) (clearD_dvd q hk)
  have h3 := clearD_isz h
  have h4 := rsz_num (q k)
  have h5 := h k hk
  omega
theorem clearD_ne (q : Nat → Rat) : clearD q ≠ 0 := by
  unfold clearD
  have h : ∀ k,((q k).den : Int) ≠ 0 := fun k => by have := (q k).den_nz;omega
  exact Int.mul_ne_zero (Int.mul_ne_zero (Int.mul_ne_zero (Int.mul_ne_zero (by omega) (h 0)) (h 1)) (h 2)) (h 3)
theorem clearXs_ne {q : Nat → Rat} {k : Nat} (hk : k < 4) (h : q k ≠ 0) : clearXs q k ≠ 0 := by
  unfold clearXs
  refine Int.mul_ne_zero (fun e => h (Rat.num_eq_zero.1 e)) (fun e => ?_)
  obtain ⟨z,hz⟩ := clearD_dvd q hk
  have hd : ((q k).den : Int) ≠ 0 := by have := (q k).den_nz;omega
  rw [hz,Int.mul_fdiv_cancel_left _ hd] at e
  rw [e,Int.mul_zero] at hz
  exact clearD_ne q hz
def denP (q : Nat → Rat) : Nat → Int
  | 0 => 1
  | k + 1 => denP q k * ((q k).den : Int)
theorem denP_4 (q : Nat → Rat) : denP q 4 = clearD q := rfl
theorem denP_isz {q : Nat → Rat} {K : Nat} (h : ∀ k,k < 4 → rsz (q k) ≤ K) : ∀ k,k ≤ 4 → isz (denP q k) ≤ k * K + 1
  | 0,_ => by
    show isz 1 ≤ _
    have : isz 1 ≤ 1 := by decide +kernel
    omega
  | k + 1,hk => by
    have ih := denP_isz h k (by omega)
    have m := isz_mul (denP q k) ((q k).den : Int)
    have a := h k (by omega)
    have b := rsz_den (q k)
    show isz (denP q k * ((q k).den : Int)) ≤ _
    rw [Nat.succ_mul]
    omega
def cells8 (f : Nat → Value) : List Value := [f 0,f 1,f 2,f 3,f 4,f 5,f 6,f 7]
def upd (f : Nat → Value) (i : Nat) (x : Value) : Nat → Value := fun j => if j = i then x else f j
theorem cells8_set (f : Nat → Value) (i : Nat) (x : Value) : (cells8 f).set i x = cells8 (upd f i x) := by
  unfold cells8 upd
  match i with
  | 0 => simp
  | 1 => simp
  | 2 => simp
  | 3 => simp
  | 4 => simp
  | 5 => simp
  | 6 => simp
  | 7 => simp
  | _ + 8 => simp
theorem cells8_get (f : Nat → Value) {i : Nat} (h : i < 8) : (cells8 f)[i]? = some (f i) := by
  unfold cells8
  match i,h with
  | 0,_ => rfl
  | 1,_ => rfl
  | 2,_ => rfl
  | 3,_ => rfl
  | 4,_ => rfl
  | 5,_ => rfl
  | 6,_ => rfl
  | 7,_ => rfl
theorem upd2_nu {f : Nat → Value} (h : ∀ i,i < 8 → notU32 (f i) = true) (a : Nat) (x y : Value) (hx : notU32 x = true) (hy : notU32 y = true) : ∀ i,i < 8 → notU32 (upd (upd f a x) (a + 1) y i) = true := by
  intro i hi
  unfold upd
  split
  · exact hy
  · split
    · exact hx
    · exact h i hi
theorem upd2_at (f : Nat → Value) (k : Nat) (x y : Value) : (.agg #[upd (upd f (k * 2) x) (k * 2 + 1) y (k * 2),upd (upd f (k * 2) x) (k * 2 + 1) y (k * 2 + 1)] : Value) = .agg #[x,y] := by
  unfold upd
  rw [if_neg (by omega),if_pos rfl,if_pos rfl]
theorem upd2_far (f : Nat → Value) {j k : Nat} (x y : Value) (h : ¬ j = k) : (.agg #[upd (upd f (k * 2) x) (k * 2 + 1) y (j * 2),upd (upd f (k * 2) x) (k * 2 + 1) y (j * 2 + 1)] : Value) = .agg #[f (j * 2),f (j * 2 + 1)] := by
  unfold upd
  rw [if_neg (by omega),if_neg (by omega),if_neg (by omega),if_neg (by omega)]
theorem upd2_form {f : Nat → Value} (h : ∀ j,j < 4 → ∃ b p n c,f (j * 2) = .bool b ∧ f (j * 2 + 1) = .slice p n c) (k : Nat) (b : Bool) (p : Option Addr) (n c : Nat) : ∀ j,j < 4 → ∃ b' p' n' c',upd (upd f (k * 2) (.bool b)) (k * 2 + 1) (.slice p n c) (j * 2) = .bool b' ∧ upd (upd f (k * 2) (.bool b)) (k * 2 + 1) (.slice p n c) (j * 2 + 1) = .slice p' n' c' := by
  intro j hj
  by_cases e : j = k
  · subst e
    refine ⟨b,p,n,c,?_,?_⟩ <;> unfold upd
    · rw [if_neg (by omega),if_pos rfl]
    · rw [if_pos rfl]
  · obtain ⟨b',p',n',c',e0,e1⟩ := h j hj
    refine ⟨b',p',n',c',?_,?_⟩ <;> unfold upd
    · rw [if_neg (by omega),if_neg (by omega)];exact e0
    · rw [if_neg (by omega),if_neg (by omega)];exact e1
theorem cleared_any (ya yb yc yd ye yf yg yh yi yj yk yl ym yn yo yp : Value) (q : Nat → Rat) (K : Nat) (w : World) (h : V4 w ya yb yc yd ye yf yg yh yi yj yk yl ym yn yo yp q K) (hK : K ≤ 50000000) (hne : ∃ j,j < 4 ∧ q j ≠ 0) :
    Calls Tryz.prog 58 #[.agg #[ya,yb,yc,yd,ye,yf,yg,yh,yi,yj,yk,yl,ym,yn,yo,yp]] w (GV (primV (clearXs q)) w) := by
  obtain ⟨yga,ypa,yna,yca,yha,yoa,yma,yea,hform⟩ := h.h0.form
  simp only [Value.agg.injEq,Array.mk.injEq,List.cons.injEq,and_true] at hform
  obtain ⟨rfl,rfl,rfl,rfl⟩ := hform
  obtain ⟨ygb,ypb,ynb,ycb,yhb,yob,ymb,yeb,hform⟩ := h.h1.form
  simp only [Value.agg.injEq,Array.mk.injEq,List.cons.injEq,and_true] at hform
  obtain ⟨rfl,rfl,rfl,rfl⟩ := hform
  obtain ⟨ygc,ypc,ync,ycc,yhc,yoc,ymc,yec,hform⟩ := h.h2.form
  simp only [Value.agg.injEq,Array.mk.injEq,List.cons.injEq,and_true] at hform
  obtain ⟨rfl,rfl,rfl,rfl⟩ := hform
  obtain ⟨ygd,ypd,ynd,ycd,yhd,yod,ymd,yed,hform⟩ := h.h3.form
  simp only [Value.agg.injEq,Array.mk.injEq,List.cons.injEq,and_true] at hform
  obtain ⟨rfl,rfl,rfl,rfl⟩ := hform
  have HLX : Hid (∀ j,j < 4 → isz (clearXs q j) ≤ 400000000) := Lib.hid (fun j hj => Nat.le_trans (clearXs_isz h.hK hj) (by omega))
  have HNX : Hid (∃ j,j < 4 ∧ clearXs q j ≠ 0) := Lib.hid (by obtain ⟨j,hj,hx⟩ := hne;exact ⟨j,hj,clearXs_ne hj hx⟩)
  obtain ⟨za,zb,zc,zd,ze,hz⟩ := primV_form (clearXs q)
  have HZ := Lib.hid hz
  clear hz hne
  have hB_0 : Below w.heap.size w w := Below.refl _ _
  go_enter Tryz.func58,Tryz.ntmps58
  go_wp2_with fail
  (with_reducible refine (of_any _ _ (by omega) (by omega)).mono ?_)
  rintro e w1 ⟨v1,rfl,hi1,hb1⟩
  obtain ⟨g1,p1,n1,c1,rfl⟩ := hi1.form
  obtain ⟨hA1,a0,u2⟩ := bx2 w rfl [.bool yga,.slice ypa yna yca,.bool yha,.slice yoa yma yea,.bool ygb,.slice ypb ynb ycb,.bool yhb,.slice yob ymb yeb,.bool ygc,.slice ypc ync ycc,.bool yhc,.slice yoc ymc yec,.bool ygd,.slice ypd ynd ycd,.bool yhd,.slice yod ymd yed] 63 [.int .i64 0,.int .i64 0,.int .i64 0,.int .i64 0] 33
  have q0_1 := (a0.to hb1)
  have w2 := q0_1.c0
  have y2 := q0_1.c1
  have a3 := q0_1.c2
  have d3 := q0_1.c3
  have f3 := q0_1.c4
  have i3 := q0_1.c5
  have k3 := q0_1.c6
  have m3 := q0_1.c7
  have o3 := q0_1.c8
  have r3 := q0_1.c9
  have f1 := q0_1.c10
  have j1 := q0_1.c11
  have l1 := q0_1.c12
  have o1 := q0_1.c13
  have r1 := q0_1.c14
  have t1 := q0_1.c15
  have d5 := (q0_1).1
  have q1_1 := (u2.to hb1)
  have e5 := (q1_1).1
  obtain ⟨hA2,v0⟩ := bx1 w1 rfl [.bool g1,.slice p1 n1 c1] 28
  have x2 := (q0_1.to hA2).c0
  have z2 := (q0_1.to hA2).c1
  have b3 := (q0_1.to hA2).c2
  have e3 := (q0_1.to hA2).c3
  have g3 := (q0_1.to hA2).c4
  have j3 := (q0_1.to hA2).c5
  have l3 := (q0_1.to hA2).c6
  have n3 := (q0_1.to hA2).c7
  have q3 := (q0_1.to hA2).c8
  have s3 := (q0_1.to hA2).c9
  have i1 := (q0_1.to hA2).c10
  have k1 := (q0_1.to hA2).c11
  have m1 := (q0_1.to hA2).c12
  have q1 := (q0_1.to hA2).c13
  have s1 := (q0_1.to hA2).c14
  have u1 := (q0_1.to hA2).c15
  have w0 := (Below.tr (Below.tr hB_0 hA1) hb1)
  go_wp2_with fail
  have hD1 : w.heap.size + 1 < w1.heap.size := by have a1 := hb1.size;simp only [World.size_alloc] at a1;omega
  go_loopw [15,6,16,17,18,19,20,21,22] (fun i _ _ _ _ _ _ _ _ wr => ∃ (k : Nat) (dg : Bool) (dp : Option Addr) (dn dc : Nat),k ≤ 4 ∧ i = .int .i64 (k : Nat) ∧ Bx wr w.heap.size [.bool yga,.slice ypa yna yca,.bool yha,.slice yoa yma yea,.bool ygb,.slice ypb ynb ycb,.bool yhb,.slice yob ymb yeb,.bool ygc,.slice ypc ync ycc,.bool yhc,.slice yoc ymc yec,.bool ygd,.slice ypd ynd ycd,.bool yhd,.slice yod ymd yed] ∧ Bx wr (w.heap.size + 1) [.int .i64 0,.int .i64 0,.int .i64 0,.int .i64 0] ∧ Bx wr (w1.heap.size) [.bool dg,.slice dp dn dc] ∧ RInt wr (.agg #[.bool dg,.slice dp dn dc]) (denP q k) ∧ Below w.heap.size w wr) (fun i _ _ _ _ _ _ _ _ _ => 4 - (intOf i).toNat)
  case atStart => exact ⟨0,_,_,_,_,by omega,rfl,(q0_1.to hA2),(q1_1.to hA2),v0,(hi1.below hA2),(Below.tr w0 hA2)⟩
  case round =>
    obtain ⟨k,dg,dp,dn,dc,hk4,rfl,hqa,hqr,hqd,hd,hB⟩ := hrel
    have hzB := hB.size
    have hlqa := hqa.1
    have hlqr := hqr.1
    have hlqd := hqd.1
    by_cases hk : k < 4
    · have hkd : decide ((k : Int) < 4) = true := by simp;omega
      obtain ⟨xg,xp,xn,xc,xh,xo,xm,xe,hix,hx⟩ := indexQ_any (h.below hB) hk
      have lx := h.hK k hk
      have ldx := rsz_den (q k)
      have lden : isz (denP q k) ≤ 200000001 := Nat.le_trans (denP_isz h.hK k (by omega)) (by have : k * K ≤ 4 * 50000000 := Nat.mul_le_mul (by omega) hK;omega)
      obtain ⟨d0,f0⟩ := hqd.cs2
      obtain ⟨hA1,a0⟩ := bx1 wr rfl [.bool xg,.slice xp xn xc,.bool xh,.slice xo xm xe] 30
      obtain ⟨e0,g0⟩ := (hqd.to hA1).cs2
      go_wp2_with fail
      have x0 := (hd.below hA1).raw
      have y0 := (hx.below hA1).den.raw
      (with_reducible refine (mul_any _ _ (denP q k) (((q k).den : Int)) _ x0 y0 (by omega) (by omega)).mono ?_)
      rintro e w11 ⟨v11,rfl,hi11,hb11⟩
      obtain ⟨g11,p11,n11,c11,rfl⟩ := hi11.form
      have qd_1 := ((hqd.to hA1).to hb11)
      obtain ⟨o4,q4,p4,r4⟩ := qd_1.cf2
      have qa_1 := ((hqa.to hA1).to hb11)
      have qr_1 := ((hqr.to hA1).to hb11)
      have hB_1 := (Below.tr (Below.tr hB hA1) hb11)
      go_wp2_with fail
      go_roundw
      case rel => exact ⟨k + 1,_,_,_,_,by omega,by go_num,(qa_1.other2 (b := w1.heap.size) (by omega) (.bool g11) (.slice p11 n11 c11)),(qr_1.other2 (b := w1.heap.size) (by omega) (.bool g11) (.slice p11 n11 c11)),(qd_1.store2 (.bool g11) (.slice p11 n11 c11)),(hi11.sets2 qd_1 rfl rfl (.bool g11) (.slice p11 n11 c11)),(Below.sets2 hB_1 (b := w1.heap.size) (by omega) (.bool g11) (.slice p11 n11 c11))⟩
      case measure => simp [intOf];omega
    · have he : k = 4 := by omega
      subst he
      rw [show ((4 : Nat) : Int) = 4 from rfl]
      rw [denP_4] at hd
      have t3 := hqa.c0
      have v3 := hqa.c1
      have x3 := hqa.c2
      have z3 := hqa.c3
      have b4 := hqa.c4
      have e4 := hqa.c5
      have g4 := hqa.c6
      have i4 := hqa.c7
      have k4 := hqa.c8
      have m4 := hqa.c9
      have g2 := hqa.c10
      have j2 := hqa.c11
      have l2 := hqa.c12
      have n2 := hqa.c13
      have q2 := hqa.c14
      have s2 := hqa.c15
      obtain ⟨hA1,a0⟩ := bx1 wr rfl [.bool false,.slice none 0 0,.bool false,.slice none 0 0,.bool false,.slice none 0 0,.bool false,.slice none 0 0] 96
      have u3 := (hqa.to hA1).c0
      have w3 := (hqa.to hA1).c1
      have y3 := (hqa.to hA1).c2
      have a4 := (hqa.to hA1).c3
      have d4 := (hqa.to hA1).c4
      have f4 := (hqa.to hA1).c5
      have h4 := (hqa.to hA1).c6
      have j4 := (hqa.to hA1).c7
      have l4 := (hqa.to hA1).c8
      have n4 := (hqa.to hA1).c9
      have i2 := (hqa.to hA1).c10
      have k2 := (hqa.to hA1).c11
      have m2 := (hqa.to hA1).c12
      have o2 := (hqa.to hA1).c13
      have r2 := (hqa.to hA1).c14
      have t2 := (hqa.to hA1).c15
      go_wp2_with fail
      obtain ⟨wo,rfl⟩ : ∃ wo : World,wo = wr := ⟨_,rfl⟩
      have hDO : w1.heap.size < wo.heap.size := hlqd
      go_loopw [24,8,9,10,11,12,25,26,27,28,29,30,31,32,33,34,35,36,37,38,39,40,41,42] (fun i _ _ _ _ _ _ _ _ _ _ _ _ _ _ _ _ _ _ _ _ _ _ _ wr => ∃ (k : Nat) (f : Nat → Value),k ≤ 4 ∧ i = .int .i64 (k : Nat) ∧ Bx wr (w.heap.size + 1) [.int .i64 0,.int .i64 0,.int .i64 0,.int .i64 0] ∧ Bx wr (w1.heap.size) [.bool dg,.slice dp dn dc] ∧ RInt wr (.agg #[.bool dg,.slice dp dn dc]) (clearD q) ∧ Bx wr (wo.heap.size) (cells8 f) ∧ Hid (∀ i,i < 8 → notU32 (f i) = true) ∧ Hid (∀ j,j < 4 → ∃ b p n c,f (j * 2) = .bool b ∧ f (j * 2 + 1) = .slice p n c) ∧ Hid (∀ j,j < k → RInt wr (.agg #[f (j * 2),f (j * 2 + 1)]) (clearXs q j)) ∧ Below w.heap.size w wr) (fun i _ _ _ _ _ _ _ _ _ _ _ _ _ _ _ _ _ _ _ _ _ _ _ _ => 4 - (intOf i).toNat)
      case atStart => exact ⟨0,(fun i => if i % 2 = 0 then Value.bool false else .slice none 0 0),by omega,rfl,(hqr.to hA1),(hqd.to hA1),(hd.below hA1),a0,Lib.hid (fun i hi => by dsimp only;split <;> rfl),Lib.hid (fun j hj => ⟨false,none,0,0,by dsimp only;rw [if_pos (by omega)],by dsimp only;rw [if_neg (by omega)]⟩),Lib.hid (fun j hj => by omega),(Below.tr hB hA1)⟩
      case round =>
        clear hqa hqr hqd hd hB
        obtain ⟨k,f,hk4,rfl,hqr,hqd,hd,hqo,HNU,HFO,HXS,hB⟩ := hrel
        have hzB := hB.size
        have hlqr := hqr.1
        have hlqd := hqd.1
        have hlqo := hqo.1
        by_cases hk : k < 4
        · have hkd : decide ((k : Int) < 4) = true := by simp;omega
          obtain ⟨xg,xp,xn,xc,xh,xo,xm,xe,hix,hx⟩ := indexQ_any (h.below hB) hk
          have lx := h.hK k hk
          have ldx := rsz_den (q k)
          have lnx := rsz_num (q k)
          have lden : isz (clearD q) ≤ 200000001 := Nat.le_trans (clearD_isz h.hK) (by omega)
          have HDN : Hid (((q k).den : Int) ≠ 0) := Lib.hid (by have := (q k).den_nz;omega)
          have lqt := isz_fdiv_dvd HDN.out (clearD_dvd q hk)
          obtain ⟨d0,f0⟩ := hqd.cs2
          obtain ⟨hA1,a0⟩ := bx1 wr rfl [.bool xg,.slice xp xn xc,.bool xh,.slice xo xm xe] 30
          obtain ⟨e0,g0⟩ := (hqd.to hA1).cs2
          go_wp2_with fail
          have z0 := (hd.below hA1).raw
          have b1 := (hx.below hA1).den.raw
          (with_reducible refine (divide_any _ _ (clearD q) (((q k).den : Int)) _ z0 b1 (by omega) (by omega) HDN.out).mono ?_)
          rintro e w21 ⟨v21,u21,rfl,hi21,hj21,hb21⟩
          obtain ⟨g21,p21,n21,c21,rfl⟩ := hi21.form
          obtain ⟨h21,o21,m21,e21,rfl⟩ := hj21.form
          have b0 := (a0.to hb21)
          obtain ⟨x1,z1,b2,e2⟩ := b0.cs4
          have qr_1 := ((hqr.to hA1).to hb21)
          have j5 := (qr_1).1
          have qd_1 := ((hqd.to hA1).to hb21)
          have f5 := (qd_1).1
          have qo_1 := ((hqo.to hA1).to hb21)
          have h5 := (qo_1).1
          have a5 := (b0).1
          obtain ⟨hA2,v0⟩ := bx1 w21 rfl [.bool false,.slice none 0 0] 28
          have k5 := ((qr_1.to hA2)).1
          have g5 := ((qd_1.to hA2)).1
          have i5 := ((qo_1.to hA2)).1
          have b5 := ((b0.to hA2)).1
          obtain ⟨hA3,l5,m5⟩ := bx2 w21 rfl [.bool g21,.slice p21 n21 c21] 28 [.bool h21,.slice o21 m21 e21] 28
          obtain ⟨y1,a2,d2,f2⟩ := (b0.to hA3).cs4
          go_wp2_with fail
          have hx_1 := ((hx.below hA1).below hb21)
          have d1 := (hx_1.below hA3).num.raw
          have e1 := (hi21.below hA3).raw
          (with_reducible refine (mul_any _ _ ((q k).num) (((clearD q)).fdiv ((((q k).den : Int)))) _ d1 e1 (by omega) (by omega)).mono ?_)
          rintro e w22 ⟨v22,rfl,hi22,hb22⟩
          obtain ⟨g22,p22,n22,c22,rfl⟩ := hi22.form
          have qo_2 := ((qo_1.to hA3).to hb22)
          obtain ⟨fb,fp,fn,fc,hf0,hf1⟩ := HFO.out k hk
          have hc0 := ((qo_2).2 (k * 2) _ (cells8_get f (by omega))).1
          have hz0 := ((qo_2).2 (k * 2) _ (cells8_get f (by omega))).2
          have hc1 := ((qo_2).2 (k * 2 + 1) _ (cells8_get f (by omega))).1
          have hz1 := ((qo_2).2 (k * 2 + 1) _ (cells8_get f (by omega))).2
          rw [hf0] at hc0
          rw [hf1] at hc1
          clear hf0 hf1
          have HC0 := Lib.hid hc0
          have HC1 := Lib.hid hc1
          have HC1b : Hid (((w22).setCell ⟨wo.heap.size,k * 2,none⟩ (.bool g22)).cell? ⟨wo.heap.size,k * 2 + 1,none⟩ = some (.slice fp fn fc)) := Lib.hid (by rw [World.cell?_setCell_other _ _ _ _ (by simp)];exact HC1.out)
          have HOLD : Hid (∀ v x,RInt wr v x → RInt (((w22).setCell ⟨wo.heap.size,k * 2,none⟩ (.bool g22)).setCell ⟨wo.heap.size,k * 2 + 1,none⟩ (.slice p22 n22 c22)) v x) := Lib.hid (by
            intro v x hxj
            have v2 := ((((hxj.below hA1).below hb21).below hA3).below hb22)
            exact (v2.setBox HC0.out rfl (.bool g22)).setBox HC1b.out rfl (.slice p22 n22 c22))
          have qr_2 := ((qr_1.to hA3).to hb22)
          have qd_2 := ((qd_1.to hA3).to hb22)
          have hd_2 := ((((hd.below hA1).below hb21).below hA3).below hb22)
          have hB_2 := (Below.tr (Below.tr (Below.tr (Below.tr hB hA1) hb21) hA3) hb22)
          have HNEW := Lib.hid (((hi22.setBox HC0.out rfl (.bool g22)).setBox HC1b.out rfl (.slice p22 n22 c22)))
          go_wp2_with fail
          go_roundw
          case rel => exact ⟨k + 1,(upd (upd f (k * 2) (.bool g22)) (k * 2 + 1) (.slice p22 n22 c22)),by omega,by go_num,((qr_2.otherAt (b := wo.heap.size) (by omega) (k * 2) (.bool g22)).otherAt (b := wo.heap.size) (by omega) (k * 2 + 1) (.slice p22 n22 c22)),((qd_2.otherAt (b := wo.heap.size) (by omega) (k * 2) (.bool g22)).otherAt (b := wo.heap.size) (by omega) (k * 2 + 1) (.slice p22 n22 c22)),((hd_2.setBox HC0.out rfl (.bool g22)).setBox HC1b.out rfl (.slice p22 n22 c22)),by rw [← cells8_set,← cells8_set];exact ((qo_2.setAt (k * 2) (.bool g22)).setAt (k * 2 + 1) (.slice p22 n22 c22)),Lib.hid (fun i hi => upd2_nu HNU.out (k * 2) _ _ rfl rfl i hi),Lib.hid (fun j hj => upd2_form HFO.out k _ _ _ _ j hj),Lib.hid (fun j hj => if e : j = k then (by rw [e,upd2_at];exact HNEW.out) else (by rw [upd2_far _ _ _ e];exact HOLD.out _ _ (HXS.out j (by omega)))),(Below.setCell (Below.setCell hB_2 (p := ⟨wo.heap.size,(k * 2),none⟩) (by dsimp only;omega) (.bool g22)) (p := ⟨wo.heap.size,(k * 2 + 1),none⟩) (by dsimp only;omega) (.slice p22 n22 c22))⟩
          case measure => simp [intOf];omega
        · have he : k = 4 := by omega
          subst he
          have p0 := HXS.out 0 (by omega)
          have p1 := HXS.out 1 (by omega)
          have p2 := HXS.out 2 (by omega)
          have p3 := HXS.out 3 (by omega)
          obtain ⟨sba,spa,sna,sca,ea0,ea1⟩ := HFO.out 0 (by omega)
          simp only [Nat.zero_mul,Nat.one_mul,Nat.zero_add,Nat.reduceMul,Nat.reduceAdd] at ea0 ea1 p0
          rw [ea0,ea1] at p0
          obtain ⟨sbb,spb,snb,scb,eb0,eb1⟩ := HFO.out 1 (by omega)
          simp only [Nat.zero_mul,Nat.one_mul,Nat.zero_add,Nat.reduceMul,Nat.reduceAdd] at eb0 eb1 p1
          rw [eb0,eb1] at p1
          obtain ⟨sbc,spc,snc,scc,ec0,ec1⟩ := HFO.out 2 (by omega)
          simp only [Nat.zero_mul,Nat.one_mul,Nat.zero_add,Nat.reduceMul,Nat.reduceAdd] at ec0 ec1 p2
          rw [ec0,ec1] at p2
          obtain ⟨sbd,spd,snd,scd,ed0,ed1⟩ := HFO.out 3 (by omega)
          simp only [Nat.zero_mul,Nat.one_mul,Nat.zero_add,Nat.reduceMul,Nat.reduceAdd] at ed0 ed1 p3
          rw [ed0,ed1] at p3
          unfold cells8 at hqo
          rw [ea0,ea1,eb0,eb1,ec0,ec1,ed0,ed1] at hqo
          clear ea0 ea1 eb0 eb1 ec0 ec1 ed0 ed1
          obtain ⟨s4,t4,u4,v4,w4,x4,y4,z4⟩ := hqo.cs8
          go_wp2_with fail
          have r0 := p0.raw
          have s0 := p1.raw
          have t0 := p2.raw
          have u0 := p3.raw
          have hp0 : Raw _ _ (clearXs q 0) := r0
          have hp1 : Raw _ _ (clearXs q 1) := s0
          have hp2 : Raw _ _ (clearXs q 2) := t0
          have hp3 : Raw _ _ (clearXs q 3) := u0
          (with_reducible refine (prim_f _ _ _ _ _ _ _ _ (clearXs q) _ hp0 hp1 hp2 hp3 HLX.out HNX.out HZ.out).mono ?_)
          rintro e w21 ⟨rfl,hb21⟩
          have qr_1 := (hqr.to hb21)
          obtain ⟨i0,m0,j0,n0,k0,o0,l0,q0⟩ := qr_1.cf4
          have hB_1 := (Below.tr hB hb21)
          go_wp2_with fail
          exact bodyPost_ret (v := .tuple #[.agg #[.int .i64 za,.int .i64 zb,.int .i64 zc,.int .i64 zd],.int .i64 ze]) (by simp [results,Tryz.results58,go_sem,i0,m0,j0,n0,k0,o0,l0,q0]) rfl ⟨by rw [HZ.out],(Below.sets4 hB_1 (b := w.heap.size + 1) (by omega) (.int .i64 za) (.int .i64 zb) (.int .i64 zc) (.int .i64 zd))⟩
end Go.Proofs.YtidfgdchcpmnfaaGreat
