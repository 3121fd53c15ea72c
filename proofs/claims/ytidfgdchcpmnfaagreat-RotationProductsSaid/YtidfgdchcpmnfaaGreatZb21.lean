/-
  Lemmas for the statements about rotations, part 21 of 51.
-/
import Derived.Test.YtidfgdchcpmnfaaGreatZb09
import Derived.Test.YtidfgdchcpmnfaaGreatZb11
import Derived.Test.YtidfgdchcpmnfaaGreatZb17
import Derived.Test.YtidfgdchcpmnfaaGreatZb18
import Derived.Test.YtidfgdchcpmnfaaGreatZb50
import Derived.Test.YtidfgdchcpmnfaaGreatZb51
namespace Go.Proofs.YtidfgdchcpmnfaaGreat
open Go.RowKit
set_option maxRecDepth 100000
set_option maxHeartbeats 8000000
set_option linter.unusedSimpArgs false
set_option linter.unusedVariables false
def dotQ (e f : Nat → Rat) : Nat → Rat
  | 0 => 0
  | k + 1 => dotQ e f k + e k * f k
theorem dotQ_rsz {e f : Nat → Rat} {K : Nat} : ∀ k,(∀ i,i < k → rsz (e i) ≤ K ∧ rsz (f i) ≤ K) → rsz (dotQ e f k) ≤ k * (2 * K + 1) + 1
  | 0,_ => by show rsz 0 ≤ _;rw [rsz_zero];omega
  | k + 1,h => by
    have ih := dotQ_rsz k (fun i hi => h i (by omega))
    have h1 := rsz_mul (e k) (f k)
    have h2 := rsz_add (dotQ e f k) (e k * f k)
    have h3 := h k (by omega)
    show rsz (dotQ e f k + e k * f k) ≤ _
    rw [Nat.succ_mul]
    omega
theorem dotQ_congr {e f e' f' : Nat → Rat} : ∀ n,(∀ i,i < n → e i = e' i ∧ f i = f' i) → dotQ e f n = dotQ e' f' n
  | 0,_ => rfl
  | n + 1,h => by
    show dotQ e f n + e n * f n = dotQ e' f' n + e' n * f' n
    rw [dotQ_congr n (fun i hi => h i (by omega)),(h n (by omega)).1,(h n (by omega)).2]
theorem num_ne {q : Rat} (h : q ≠ 0) : (sgn q.num == 0) = false := by
  have := sgn_ne (fun e => h (Rat.num_eq_zero.1 e));simpa using this
theorem num_ne' {q : Rat} (h : q ≠ 0) : (sgn q.num != 0) = true := by
  have := sgn_ne (fun e => h (Rat.num_eq_zero.1 e));simpa using this
theorem cellB {m : Nat} {w w' : World} {b o : Nat} {v : Value} (h : Below m w w') (hb : b < m) (hc : w.cell? ⟨b,o,none⟩ = some v) : w'.cell? ⟨b,o,none⟩ = some v := by
  rw [(bcell h).1 _ _ hb];exact hc
theorem dot_any (pa pb : Option Addr) (n ca cb K : Nat) (e f : Nat → Rat) (w : World) (ha : RowQ w (.slice pa n ca) n K e) (hb : RowQ w (.slice pb n cb) n K f) (hK : n * (2 * K + 1) + K ≤ 99999999) :
    Calls Tryz.prog 144 #[.slice pa n ca,.slice pb n cb] w (GQ (dotQ e f n) w) := by
  obtain ⟨_,_,he,h1,h2⟩ := ha.form
  cases he
  obtain ⟨_,_,he,h3,h4⟩ := hb.form
  cases he
  have HS : Hid (∀ k,k ≤ n → rsz (dotQ e f k) ≤ 100000000) := Lib.hid (fun k hk => by
    have hle : k * (2 * K + 1) ≤ n * (2 * K + 1) := Nat.mul_le_mul_right _ hk
    exact Nat.le_trans (dotQ_rsz k (fun i hi => ⟨(ha.rsz (by omega)),(hb.rsz (by omega))⟩)) (by omega))
  have hK2 : K ≤ 99999999 := by omega
  clear hK
  have hB_0 : Below w.heap.size w w := Below.refl _ _
  go_enter Tryz.func144,Tryz.ntmps144
  go_wp2_with fail
  (with_reducible refine (wholeQ_any _ _ (by omega) (by omega)).mono ?_)
  rintro e w1 ⟨v1,rfl,hi1,hb1⟩
  obtain ⟨g1,p1,n1,c1,h1,o1,m1,e1,rfl⟩ := hi1.form
  obtain ⟨hA1,b0⟩ := bx1 w rfl [.bool false,.slice none 0 0,.bool false,.slice none 0 0] 30
  have q0_1 := (b0.to hb1)
  have w2 := (q0_1).1
  obtain ⟨hA2,l1⟩ := bx1 w1 rfl [.bool g1,.slice p1 n1 c1,.bool h1,.slice o1 m1 e1] 30
  have l0 := (Below.tr (Below.tr hB_0 hA1) hb1)
  go_wp2_with fail
  have hQS : w.heap.size < w1.heap.size := by have a1 := hb1.size;simp only [World.size_alloc] at a1;omega
  go_loopw [11,6,7,12,13,14,15,16,17,18,19,20,21,22,23,24,25,26,27,28,29,30,31,32,33,34,35] (fun i _ _ _ _ _ _ _ _ _ _ _ _ _ _ _ _ _ _ _ _ _ _ _ _ _ _ wr => ∃ (k : Nat) (sg sh : Bool) (sp so : Option Addr) (sn sc sm se : Nat),k ≤ n ∧ i = .int .i64 (k : Nat) ∧ Bx wr w.heap.size [.bool false,.slice none 0 0,.bool false,.slice none 0 0] ∧ Bx wr (w1.heap.size) [.bool sg,.slice sp sn sc,.bool sh,.slice so sm se] ∧ RQ wr (.agg #[.bool sg,.slice sp sn sc,.bool sh,.slice so sm se]) (dotQ e f k) ∧ Below w.heap.size w wr) (fun i _ _ _ _ _ _ _ _ _ _ _ _ _ _ _ _ _ _ _ _ _ _ _ _ _ _ _ => n - (intOf i).toNat)
  case atStart => exact ⟨0,_,_,_,_,_,_,_,_,by omega,rfl,(q0_1.to hA2),l1,(hi1.below hA2),(Below.tr l0 hA2)⟩
  case round =>
    obtain ⟨k,sg,sh,sp,so,sn,sc,sm,se,hk,rfl,hqr,hqs,hs,hB⟩ := hrel
    have hzB := hB.size
    have hlqr := hqr.1
    have hlqs := hqs.1
    by_cases hlt : k < n
    · obtain ⟨ba,oa,xg,xp,xn,xc,xh,xo,xm,xe,rfl,hla,xc0,xc1,xc2,xc3,hxq,hxn⟩ := (ha.below hB).at_ hlt
      obtain ⟨bb,ob,yg,yp,yn,yc,yh,yo,ym,ye,rfl,hlb,yc0,yc1,yc2,yc3,hyq,hyn⟩ := (hb.below hB).at_ hlt
      have hW : Below wr.heap.size wr wr := Below.refl _ _
      have hx := hxq.rq
      have hy := hyq.rq
      have lx := hx.rsz_le hxn
      have ly := hy.rsz_le hyn
      have ls : rsz (dotQ e f k) ≤ 100000000 := HS.out k (by omega)
      have lxy := rsz_mul (e k) (f k)
      have hkd : decide (k < n) = true := by simpa using hlt
      by_cases hx0 : e k = 0
      · have HD : Hid (dotQ e f (k + 1) = dotQ e f k) := Lib.hid (by show dotQ e f k + e k * f k = _;rw [hx0];grind)
        have hsg : (sgn (e k).num == 0) = true := by rw [hx0];rfl
        have hsg2 : (sgn (e k).num != 0) = false := by rw [hx0];rfl
        have HX0 := Lib.hid hx0
        clear hx0
        go_wp2_with fail
        obtain ⟨hA1,b0⟩ := bx1 wr rfl [.bool xg,.slice xp xn xc,.bool xh,.slice xo xm xe] 30
        have a0 := (hx.below hA1)
        (with_reducible refine (signQ_any _ (e k) _ a0 (by omega)).mono ?_)
        rintro e w11 ⟨rfl,hb11⟩
        have qr_1 := ((hqr.to hA1).to hb11)
        have qs_1 := ((hqs.to hA1).to hb11)
        have hs_1 := ((hs.below hA1).below hb11)
        have hB_1 := (Below.tr (Below.tr hB hA1) hb11)
        go_wp2_with fail
        go_roundw
        case rel => exact ⟨k + 1,_,_,_,_,_,_,_,_,by omega,by go_num,qr_1,qs_1,by rw [HD.out];exact hs_1,hB_1⟩
        case measure => simp [intOf];omega
      · have hsg := num_ne hx0
        have hsg2 := num_ne' hx0
        have HX0 := Lib.hid hx0
        clear hx0
        by_cases hy0 : f k = 0
        · have HD : Hid (dotQ e f (k + 1) = dotQ e f k) := Lib.hid (by show dotQ e f k + e k * f k = _;rw [hy0];grind)
          have hsh : (sgn (f k).num == 0) = true := by rw [hy0];rfl
          have hsh2 : (sgn (f k).num != 0) = false := by rw [hy0];rfl
          have HY0 := Lib.hid hy0
          clear hy0
          go_wp2_with fail
          obtain ⟨hA1,b0⟩ := bx1 wr rfl [.bool xg,.slice xp xn xc,.bool xh,.slice xo xm xe] 30
          have a0 := (hx.below hA1)
          (with_reducible refine (signQ_any _ (e k) _ a0 (by omega)).mono ?_)
          rintro e w11 ⟨rfl,hb11⟩
          have hW_1 := (Below.tr (Below.tr hW hA1) hb11)
          have hKB1 := hW_1
          have q0 := cellB hKB1 hlb yc0
          have s0 := cellB hKB1 hlb yc1
          have u0 := cellB hKB1 hlb yc2
          have w0 := cellB hKB1 hlb yc3
          go_wp2_with fail
          have hy_1 := ((hy.below hA1).below hb11)
          have c0 := hy_1
          (with_reducible refine (signQ_any _ (f k) _ c0 (by omega)).mono ?_)
          rintro e w12 ⟨rfl,hb12⟩
          have hW_2 := (Below.tr hW_1 hb12)
          have hKB2 := hW_2
          have r0 := cellB hKB2 hlb yc0
          have t0 := cellB hKB2 hlb yc1
          have v0 := cellB hKB2 hlb yc2
          have x0 := cellB hKB2 hlb yc3
          have qr_2 := (((hqr.to hA1).to hb11).to hb12)
          have qs_2 := (((hqs.to hA1).to hb11).to hb12)
          have hs_2 := (((hs.below hA1).below hb11).below hb12)
          have hB_2 := (Below.tr (Below.tr (Below.tr hB hA1) hb11) hb12)
          go_wp2_with fail
          go_roundw
          case rel => exact ⟨k + 1,_,_,_,_,_,_,_,_,by omega,by go_num,qr_2,qs_2,by rw [HD.out];exact hs_2,hB_2⟩
          case measure => simp [intOf];omega
        · have hsh := num_ne hy0
          have hsh2 := num_ne' hy0
          have HY0 := Lib.hid hy0
          clear hy0
          go_wp2_with fail
          obtain ⟨hA1,b0⟩ := bx1 wr rfl [.bool xg,.slice xp xn xc,.bool xh,.slice xo xm xe] 30
          have a0 := (hx.below hA1)
          (with_reducible refine (signQ_any _ (e k) _ a0 (by omega)).mono ?_)
          rintro e w11 ⟨rfl,hb11⟩
          have hW_1 := (Below.tr (Below.tr hW hA1) hb11)
          have hKB1 := hW_1
          have q0 := cellB hKB1 hlb yc0
          have s0 := cellB hKB1 hlb yc1
          have u0 := cellB hKB1 hlb yc2
          have w0 := cellB hKB1 hlb yc3
          go_wp2_with fail
          have hy_1 := ((hy.below hA1).below hb11)
          have c0 := hy_1
          (with_reducible refine (signQ_any _ (f k) _ c0 (by omega)).mono ?_)
          rintro e w12 ⟨rfl,hb12⟩
          have hW_2 := (Below.tr hW_1 hb12)
          have hKB2 := hW_2
          have r0 := cellB hKB2 hlb yc0
          have t0 := cellB hKB2 hlb yc1
          have v0 := cellB hKB2 hlb yc2
          have x0 := cellB hKB2 hlb yc3
          go_wp2_with fail
          have qs_2 := (((hqs.to hA1).to hb11).to hb12)
          obtain ⟨s1,k2,y1,n2,c2,q2,g2,t2⟩ := qs_2.drew.cf4
          have q1 := ((b0.to hb11).to hb12)
          obtain ⟨y0,f1,z0,i1,b1,j1,d1,k1⟩ := q1.drew.cf4
          have tk1 : True := trivial
          have tk2 : True := trivial
          go_region_with
            (first
              | (((have := tk1);clear tk1;have hx_2 := (((hx.below hA1).below hb11).below hb12);have m0 := hx_2.drew;have hy_2 := (hy_1.below hb12);have n0 := hy_2.drew;go_at_call 53;(with_reducible refine (mulQ_any _ _ (e k) (f k) _ m0 n0 (by omega) (by omega)).mono ?_);rintro e w13 ⟨v13,rfl,hi13,hb13⟩;obtain ⟨g13,p13,n13,c13,h13,o13,m13,e13,rfl⟩ := hi13.form;have qs_3 := (qs_2.drew.to hb13);obtain ⟨t1,l2,z1,o2,d2,r2,i2,u2⟩ := qs_3.cf4))
              | (((have := tk2);clear tk2;have hs_3 := ((((hs.below hA1).below hb11).below hb12).drew.below hb13);have o0 := hs_3;have p0 := hi13;go_at_call 52;(with_reducible refine (addQ_any _ _ (dotQ e f k) ((e k) * (f k)) _ o0 p0 (by omega) (by omega)).mono ?_);rintro e w14 ⟨v14,rfl,hi14,hb14⟩;obtain ⟨g14,p14,n14,c14,h14,o14,m14,e14,rfl⟩ := hi14.form;have qs_4 := (qs_3.to hb14);obtain ⟨u1,m2,a2,p2,e2,s2,j2,v2⟩ := qs_4.cf4)))
          all_goals
            skip
            have qr_4 := (((((hqr.to hA1).to hb11).to hb12).drew.to hb13).to hb14)
            have hB_4 := (Below.tr (Below.tr (Below.tr (Below.tr (Below.tr hB hA1) hb11) hb12).drew hb13) hb14)
            go_wp2_with fail
            go_roundw
            case rel => exact ⟨k + 1,_,_,_,_,_,_,_,_,by omega,by go_num,(qr_4.other4 (b := w1.heap.size) (by omega) (.bool g14) (.slice p14 n14 c14) (.bool h14) (.slice o14 m14 e14)),(qs_4.store4 (.bool g14) (.slice p14 n14 c14) (.bool h14) (.slice o14 m14 e14)),(hi14.sets4 qs_4 rfl rfl rfl rfl (.bool g14) (.slice p14 n14 c14) (.bool h14) (.slice o14 m14 e14)),(Below.sets4 hB_4 (b := w1.heap.size) (by omega) (.bool g14) (.slice p14 n14 c14) (.bool h14) (.slice o14 m14 e14))⟩
            case measure => simp [intOf];omega
    · have he : k = n := by omega
      subst he
      have hkd : decide (k < k) = false := by simp
      obtain ⟨r1,x1,b2,f2⟩ := hqs.cs4
      obtain ⟨d0,h0,e0,i0,f0,j0,g0,k0⟩ := hqr.cf4
      go_wp2_with fail
      exact bodyPost_ret (v := .agg #[.bool sg,.slice sp sn sc,.bool sh,.slice so sm se]) (by simp [results,Tryz.results144,go_sem,d0,h0,e0,i0,f0,j0,g0,k0]) rfl ⟨_,rfl,(hs.sets4 hqr rfl rfl rfl rfl (.bool sg) (.slice sp sn sc) (.bool sh) (.slice so sm se)),(Below.sets4 hB (b := w.heap.size) (by omega) (.bool sg) (.slice sp sn sc) (.bool sh) (.slice so sm se))⟩
end Go.Proofs.YtidfgdchcpmnfaaGreat
namespace Go.Proofs.YtidfgdchcpmnfaaGreat
open Go.RowKit
set_option maxRecDepth 100000
set_option maxHeartbeats 8000000
set_option linter.unusedSimpArgs false
set_option linter.unusedVariables false
theorem MatQ.rsz {w : World} {v : Value} {R C K : Nat} {e : Nat → Nat → Rat} (h : MatQ w v R C K e) {i j : Nat} (hi : i < R) (hj : j < C) : Go.Proofs.YtidfgdchcpmnfaaGreat.rsz (e i j) ≤ K := by
  obtain ⟨p,c,rfl,_,_⟩ := h.form
  obtain ⟨b,o,q,d,_,_,_,hr⟩ := h.at_ hi
  exact hr.rsz hj
theorem MatO.base {w : World} {base base' b R C K m : Nat} {rb : Nat → Nat} {e : Nat → Nat → Rat} (h : MatO w base b R C K m rb e) (hb : base' ≤ base) : MatO w base' b R C K m rb e :=
  ⟨h.outer,Nat.le_trans hb h.hb,h.rows,fun i hi => ⟨Nat.le_trans hb (h.hrb i hi).1,(h.hrb i hi).2⟩,h.inj⟩
theorem copiedC_any (B b o R C c K i j : Nat) (e : Nat → Nat → Rat) (w : World) (hB : w.cell? ⟨B,0,none⟩ = some (.slice (some ⟨b,o,none⟩) R c)) (hBl : B < w.heap.size) (h : MatQ w (.slice (some ⟨b,o,none⟩) R c) R C K e) (hi : i < R) (hj : j < C) :
    Calls Tryz.prog 167 #[.int .i64 (i : Nat),.int .i64 (j : Nat),.pointer (some ⟨B,0,none⟩)] w (GQ (e i j) w) := by
  obtain ⟨_,_,he,h1,h2⟩ := h.form
  cases he
  obtain ⟨_,_,q,d,he,hbl,c0,hr⟩ := h.at_ hi
  cases he
  obtain ⟨_,_,he,h3,h4⟩ := hr.form
  cases he
  obtain ⟨rb,ro,g,p,n,cc,g',p',n',c',he,hrl,d0,d1,d2,d3,hq,hn⟩ := hr.at_ hj
  subst he
  have hx := hq.rq
  go_enter Tryz.func167,Tryz.ntmps167
  go_wp2_with fail
  exact bodyPost_ret (v := .agg #[.bool g,.slice p n cc,.bool g',.slice p' n' c']) (by simp [results,Tryz.results167,go_sem]) rfl ⟨_,rfl,hx.alloc _,(Below.refl _ _).alloc (Nat.le_refl _) _⟩
theorem turnedC_any (B b o R C c K i j : Nat) (e : Nat → Nat → Rat) (w : World) (hB : w.cell? ⟨B,0,none⟩ = some (.slice (some ⟨b,o,none⟩) R c)) (hBl : B < w.heap.size) (h : MatQ w (.slice (some ⟨b,o,none⟩) R c) R C K e) (hi : j < R) (hj : i < C) :
    Calls Tryz.prog 166 #[.int .i64 (i : Nat),.int .i64 (j : Nat),.pointer (some ⟨B,0,none⟩)] w (GQ (e j i) w) := by
  obtain ⟨_,_,he,h1,h2⟩ := h.form
  cases he
  obtain ⟨_,_,q,d,he,hbl,c0,hr⟩ := h.at_ hi
  cases he
  obtain ⟨_,_,he,h3,h4⟩ := hr.form
  cases he
  obtain ⟨rb,ro,g,p,n,cc,g',p',n',c',he,hrl,d0,d1,d2,d3,hq,hn⟩ := hr.at_ hj
  subst he
  have hx := hq.rq
  go_enter Tryz.func166,Tryz.ntmps166
  go_wp2_with fail
  exact bodyPost_ret (v := .agg #[.bool g,.slice p n cc,.bool g',.slice p' n' c']) (by simp [results,Tryz.results166,go_sem]) rfl ⟨_,rfl,hx.alloc _,(Below.refl _ _).alloc (Nat.le_refl _) _⟩
theorem copied_any (v : Value) (R C K : Nat) (e : Nat → Nat → Rat) (w : World) (h : MatQ w v R C K e) (hR : 0 < R) (hR2 : R ≤ 1000000) (hC2 : C ≤ 1000000) :
    Calls Tryz.prog 146 #[v] w (GMatO w.heap.size R C K e w) := by
  obtain ⟨p,c,rfl,h1,h2⟩ := h.form
  obtain ⟨b,o,q,d,rfl,hbl,c0,hr⟩ := h.at_ hR
  obtain ⟨_,_,he,h3,h4⟩ := hr.form
  cases he
  rw [Nat.add_zero] at c0
  have hB1 : Below w.heap.size w (w.alloc (.cells #[.slice (some ⟨b,o,none⟩) R c] 23)) := (Below.refl _ _).alloc (Nat.le_refl _) _
  have hM := h.below hB1
  have hcB : (w.alloc (.cells #[.slice (some ⟨b,o,none⟩) R c] 23)).cell? ⟨w.heap.size,0,none⟩ = some (.slice (some ⟨b,o,none⟩) R c) := by rw [World.cell?_alloc_at _ _ _ _ rfl];rfl
  have c1 : (w.alloc (.cells #[.slice (some ⟨b,o,none⟩) R c] 23)).cell? ⟨b,o,none⟩ = some (.slice q C d) := cellB hB1 hbl c0
  have hsz : w.heap.size < (w.alloc (.cells #[.slice (some ⟨b,o,none⟩) R c] 23)).heap.size := by simp
  have S0 : (fun w' : World => w'.cell? ⟨w.heap.size,0,none⟩ = some (.slice (some ⟨b,o,none⟩) R c) ∧ w'.cell? ⟨b,o,none⟩ = some (.slice q C d) ∧ w.heap.size < w'.heap.size) (w.alloc (.cells #[.slice (some ⟨b,o,none⟩) R c] 23)).drew := ⟨hcB,c1,hsz⟩
  have KK : ∀ A B : World,(fun w' : World => w'.cell? ⟨w.heap.size,0,none⟩ = some (.slice (some ⟨b,o,none⟩) R c) ∧ w'.cell? ⟨b,o,none⟩ = some (.slice q C d) ∧ w.heap.size < w'.heap.size) A → Below A.heap.size A B → (fun w' : World => w'.cell? ⟨w.heap.size,0,none⟩ = some (.slice (some ⟨b,o,none⟩) R c) ∧ w'.cell? ⟨b,o,none⟩ = some (.slice q C d) ∧ w.heap.size < w'.heap.size) B := by
    rintro A B ⟨k0,k1,k2⟩ hb
    have hs := hb.size
    exact ⟨cellB hb (by omega) k0,cellB hb (by omega) k1,by omega⟩
  have hbl1 : b < (w.alloc (.cells #[.slice (some ⟨b,o,none⟩) R c] 23)).heap.size := by simp;omega
  have hF : ∀ (i j : Nat) (w' : World),i < R → j < C → Below (w.alloc (.cells #[.slice (some ⟨b,o,none⟩) R c] 23)).drew.heap.size (w.alloc (.cells #[.slice (some ⟨b,o,none⟩) R c] 23)).drew w' → Calls Tryz.prog 167 #[.int .i64 (i : Nat),.int .i64 (j : Nat),.pointer (some ⟨w.heap.size,0,none⟩)] w' (GQ (e i j) w') := fun i j w' hi hj hb =>
    copiedC_any w.heap.size b o R C c K i j e w' (cellB hb hsz hcB) (Nat.lt_of_lt_of_le hsz hb.size) ((hM.below (Below.refl _ _).drew).below hb) hi hj
  have hT := made1_any R C K 167 (.pointer (some ⟨w.heap.size,0,none⟩)) e (w.alloc (.cells #[.slice (some ⟨b,o,none⟩) R c] 23)).drew (by omega) (by omega) (fun i j hi hj => h.rsz hi hj) (fun _ _ _ _ => rfl) hF
  have HT := Lib.hid hT
  clear hF hT
  have HcB := Lib.hid hcB
  have Hc1 := Lib.hid c1
  clear hcB c1
  go_enter Tryz.func146,Tryz.ntmps146
  go_wp2_with fail
  have tk1 : True := trivial
  go_region_held3 (fun w' : World => w'.cell? ⟨w.heap.size,0,none⟩ = some (.slice (some ⟨b,o,none⟩) R c) ∧ w'.cell? ⟨b,o,none⟩ = some (.slice q C d) ∧ w.heap.size < w'.heap.size) (first | with_reducible exact S0 | with_reducible exact KK _ _ (by assumption) (by assumption) | (simp;done))
    (first
      | (((have := tk1;clear tk1;(with_reducible refine HT.out.mono ?_);rintro e w1 ⟨b1,rb1,rfl,hM1,hb1⟩)))
    )
  go_wp2_with fail
  go_ret
  exact ⟨_,_,rfl,hM1.base (by simp),Below.tr hB1.drew (by simpa using hb1)⟩
theorem turned_any (v : Value) (R C K : Nat) (e : Nat → Nat → Rat) (w : World) (h : MatQ w v R C K e) (hR : 0 < R) (hR2 : R ≤ 1000000) (hC2 : C ≤ 1000000) :
    Calls Tryz.prog 140 #[v] w (GMatO w.heap.size C R K (fun i j => e j i) w) := by
  obtain ⟨p,c,rfl,h1,h2⟩ := h.form
  obtain ⟨b,o,q,d,rfl,hbl,c0,hr⟩ := h.at_ hR
  obtain ⟨_,_,he,h3,h4⟩ := hr.form
  cases he
  rw [Nat.add_zero] at c0
  have hB1 : Below w.heap.size w (w.alloc (.cells #[.slice (some ⟨b,o,none⟩) R c] 23)) := (Below.refl _ _).alloc (Nat.le_refl _) _
  have hM := h.below hB1
  have hcB : (w.alloc (.cells #[.slice (some ⟨b,o,none⟩) R c] 23)).cell? ⟨w.heap.size,0,none⟩ = some (.slice (some ⟨b,o,none⟩) R c) := by rw [World.cell?_alloc_at _ _ _ _ rfl];rfl
  have c1 : (w.alloc (.cells #[.slice (some ⟨b,o,none⟩) R c] 23)).cell? ⟨b,o,none⟩ = some (.slice q C d) := cellB hB1 hbl c0
  have hsz : w.heap.size < (w.alloc (.cells #[.slice (some ⟨b,o,none⟩) R c] 23)).heap.size := by simp
  have S0 : (fun w' : World => w'.cell? ⟨w.heap.size,0,none⟩ = some (.slice (some ⟨b,o,none⟩) R c) ∧ w'.cell? ⟨b,o,none⟩ = some (.slice q C d) ∧ w.heap.size < w'.heap.size) (w.alloc (.cells #[.slice (some ⟨b,o,none⟩) R c] 23)).drew := ⟨hcB,c1,hsz⟩
  have KK : ∀ A B : World,(fun w' : World => w'.cell? ⟨w.heap.size,0,none⟩ = some (.slice (some ⟨b,o,none⟩) R c) ∧ w'.cell? ⟨b,o,none⟩ = some (.slice q C d) ∧ w.heap.size < w'.heap.size) A → Below A.heap.size A B → (fun w' : World => w'.cell? ⟨w.heap.size,0,none⟩ = some (.slice (some ⟨b,o,none⟩) R c) ∧ w'.cell? ⟨b,o,none⟩ = some (.slice q C d) ∧ w.heap.size < w'.heap.size) B := by
    rintro A B ⟨k0,k1,k2⟩ hb
    have hs := hb.size
    exact ⟨cellB hb (by omega) k0,cellB hb (by omega) k1,by omega⟩
  have hbl1 : b < (w.alloc (.cells #[.slice (some ⟨b,o,none⟩) R c] 23)).heap.size := by simp;omega
  have hF : ∀ (i j : Nat) (w' : World),i < C → j < R → Below (w.alloc (.cells #[.slice (some ⟨b,o,none⟩) R c] 23)).drew.heap.size (w.alloc (.cells #[.slice (some ⟨b,o,none⟩) R c] 23)).drew w' → Calls Tryz.prog 166 #[.int .i64 (i : Nat),.int .i64 (j : Nat),.pointer (some ⟨w.heap.size,0,none⟩)] w' (GQ ((fun i j => e j i) i j) w') := fun i j w' hi hj hb =>
    turnedC_any w.heap.size b o R C c K i j e w' (cellB hb hsz hcB) (Nat.lt_of_lt_of_le hsz hb.size) ((hM.below (Below.refl _ _).drew).below hb) hj hi
  have hT := made1_any C R K 166 (.pointer (some ⟨w.heap.size,0,none⟩)) (fun i j => e j i) (w.alloc (.cells #[.slice (some ⟨b,o,none⟩) R c] 23)).drew (by omega) (by omega) (fun i j hi hj => h.rsz hj hi) (fun _ _ _ _ => rfl) hF
  have HT := Lib.hid hT
  clear hF hT
  have HcB := Lib.hid hcB
  have Hc1 := Lib.hid c1
  clear hcB c1
  go_enter Tryz.func140,Tryz.ntmps140
  go_wp2_with fail
  have tk1 : True := trivial
  go_region_held3 (fun w' : World => w'.cell? ⟨w.heap.size,0,none⟩ = some (.slice (some ⟨b,o,none⟩) R c) ∧ w'.cell? ⟨b,o,none⟩ = some (.slice q C d) ∧ w.heap.size < w'.heap.size) (first | with_reducible exact S0 | with_reducible exact KK _ _ (by assumption) (by assumption) | (simp;done))
    (first
      | (((have := tk1;clear tk1;(with_reducible refine HT.out.mono ?_);rintro e w1 ⟨b1,rb1,rfl,hM1,hb1⟩)))
    )
  go_wp2_with fail
  go_ret
  exact ⟨_,_,rfl,hM1.base (by simp),Below.tr hB1.drew (by simpa using hb1)⟩
end Go.Proofs.YtidfgdchcpmnfaaGreat
namespace Go.Proofs.YtidfgdchcpmnfaaGreat
open Go.RowKit
set_option linter.unusedSimpArgs false
set_option linter.unusedVariables false
set_option maxRecDepth 20000
def NU (w : World) (g : Nat) : Prop := ∀ i u,w.cell? ⟨g,i,none⟩ = some u → notU32 u = true
theorem Rd.grown {w w' : World} {s : Value} {l : List Nat} (h : Rd w s l) {g : Nat} (hg : w.grownBy w' (some g)) (hn : NU w g) : Rd w' s l := by
  rcases h with h | ⟨b,o,c,h1,h2,h3,h4,h5⟩
  · exact .inl h
  · refine .inr ⟨b,o,c,h1,h2,h3,Nat.lt_of_lt_of_le h4 hg.size,fun i hi => ?_⟩
    have hc := h5 i hi
    have hne : b ≠ g := fun e => by
      subst e
      have := hn _ _ hc
      simp [notU32] at this
    rw [World.cell?_of_block (w := w) (hg.block b h4 (by simpa using hne))]
    exact hc
theorem RawV.grown {w w' : World} {v : Value} {ok : Bool} {x : Int} (h : RawV w v ok x) {g : Nat} (hg : w.grownBy w' (some g)) (hn : NU w g) : RawV w' v ok x := by
  obtain ⟨neg,s,l,k1,k2,k3,k4⟩ := h;exact ⟨neg,s,l,k1,k2.grown hg hn,k3,k4⟩
theorem RInt.grown {w w' : World} {v : Value} {x : Int} (h : RInt w v x) {g : Nat} (hg : w.grownBy w' (some g)) (hn : NU w g) : RInt w' v x := by
  obtain ⟨s,k1,k2⟩ := h;exact ⟨s,k1,k2.grown hg hn⟩
theorem RQ.grown {w w' : World} {v : Value} {q : Rat} (h : RQ w v q) {g : Nat} (hg : w.grownBy w' (some g)) (hn : NU w g) : RQ w' v q := by
  obtain ⟨b,s,c,t,e,k1,k2⟩ := h;exact ⟨b,s,c,t,e,k1.grown hg hn,k2.grown hg hn⟩
theorem QRaw.grown {w w' : World} {v : Value} {ok : Bool} {q : Rat} (h : QRaw w v ok q) {g : Nat} (hg : w.grownBy w' (some g)) (hn : NU w g) : QRaw w' v ok q := by
  obtain ⟨b,s,c,t,o1,o2,m,d,e,k1,k2,k3⟩ := h;exact ⟨b,s,c,t,o1,o2,m,d,e,k1.grown hg hn,k2.grown hg hn,k3⟩
theorem QC.grown {w w' : World} {u0 u1 u2 u3 : Value} {K : Nat} {ok : Bool} {q : Rat} (h : QC w u0 u1 u2 u3 K ok q) {g : Nat} (hg : w.grownBy w' (some g)) (hn : NU w g) : QC w' u0 u1 u2 u3 K ok q := by
  obtain ⟨g',p,n,c,h,p',n',c',e0,e1,e2,e3,hq,k⟩ := h
  exact ⟨g',p,n,c,h,p',n',c',e0,e1,e2,e3,hq.grown hg hn,k⟩
theorem RowO.nu {w : World} {b n K : Nat} {ok : Nat → Bool} {e : Nat → Rat} (h : RowO w b n K ok e) : NU w b := by
  obtain ⟨f,h1,h2⟩ := h
  intro i u hc
  obtain ⟨c,hb,hs,hcs⟩ := h1
  have hi : i < n * 4 := by
    rcases Nat.lt_or_ge i (n * 4) with h | h
    · exact h
    · exfalso
      simp [World.cell?,hb,Array.getElem?_eq_none (by omega : c.size ≤ i)] at hc
  have h1 : w.cell? ⟨b,i,none⟩ = some (f i) := by simp [World.cell?,hb,hcs i hi]
  rw [h1] at hc
  cases hc
  have N := (h2 (i / 4) (by omega)).nu
  obtain e | e | e | e : i = i / 4 * 4 ∨ i = i / 4 * 4 + 1 ∨ i = i / 4 * 4 + 2 ∨ i = i / 4 * 4 + 3 := by omega
  · rw [e];exact N.1
  · rw [e];exact N.2.1
  · rw [e];exact N.2.2.1
  · rw [e];exact N.2.2.2
theorem RowO.grown {w w' : World} {b n K : Nat} {ok : Nat → Bool} {e : Nat → Rat} (h : RowO w b n K ok e) {g : Nat} (hne : b ≠ g) (hg : w.grownBy w' (some g)) (hn : NU w g) : RowO w' b n K ok e := by
  obtain ⟨f,h1,h2⟩ := h
  exact ⟨f,h1.of_block (hg.block b h1.lt (by simpa using hne)),fun j hj => (h2 j hj).grown hg hn⟩
theorem RowO.mono {w : World} {b n K K' : Nat} {ok : Nat → Bool} {e : Nat → Rat} (h : RowO w b n K ok e) (hK : K ≤ K') : RowO w b n K' ok e := by
  obtain ⟨f,h1,h2⟩ := h
  exact ⟨f,h1,fun j hj => (h2 j hj).mono hK⟩
theorem grown_below {w w1 w2 : World} {g : Nat} (h : w.grownBy w1 (some g)) (hb : Below w1.heap.size w1 w2) : w.grownBy w2 (some g) :=
  ⟨hb.os.trans h.os,hb.tape.trans h.tape,hb.output.trans h.output,Nat.le_trans h.size hb.size,fun k hk hne => (hb.block k (Nat.lt_of_lt_of_le hk h.size)).trans (h.block k hk hne)⟩
theorem grown_refl (w : World) (g : Nat) : w.grownBy w (some g) := ⟨rfl,rfl,rfl,Nat.le_refl _,fun _ _ _ => rfl⟩
theorem grown_set {w w1 : World} {g : Nat} (h : w.grownBy w1 (some g)) (o : Nat) (x : Value) : w.grownBy (w1.setCell ⟨g,o,none⟩ x) (some g) :=
  ⟨h.os,h.tape,h.output,by simpa [World.setCell] using h.size,fun k hk hne => (Below.heap_setCell w1 _ x k (fun e => hne (by rw [e]))).trans (h.block k hk hne)⟩
theorem grown_set4 {w w1 : World} {g : Nat} (h : w.grownBy w1 (some g)) (o : Nat) (x0 x1 x2 x3 : Value) : w.grownBy (st4 w1 g o x0 x1 x2 x3) (some g) :=
  grown_set (grown_set (grown_set (grown_set h _ _) _ _) _ _) _ _
theorem MatO.mono {w : World} {base b R C K K' m : Nat} {rb : Nat → Nat} {e : Nat → Nat → Rat} (h : MatO w base b R C K m rb e) (hK : K ≤ K') : MatO w base b R C K' m rb e :=
  ⟨h.outer,h.hb,fun i hi => (h.rows i hi).mono hK,h.hrb,h.inj⟩
theorem MatO.row {w w' : World} {base b R C K : Nat} {rb : Nat → Nat} {e : Nat → Nat → Rat} (h : MatO w base b R C K R rb e) {i : Nat} (hi : i < R) (hg : w.grownBy w' (some (rb i))) {x : Nat → Rat} (hr : RowO w' (rb i) C K (fun _ => true) x) : MatO w' base b R C K R rb (fun r => if r = i then x else e r) := by
  have hn := (h.rows i hi).nu
  refine ⟨h.outer.of_block (hg.block b h.outer.lt (fun e1 => (h.hrb i hi).2 (by simpa using e1.symm))),h.hb,fun r hr' => ?_,h.hrb,h.inj⟩
  by_cases e1 : r = i
  · subst e1;simp only [if_true];exact hr
  · simp only [if_neg e1]
    exact (h.rows r hr').grown (fun e2 => e1 (h.inj r i hr' hi e2)) hg hn
end Go.Proofs.YtidfgdchcpmnfaaGreat
namespace Go.Proofs.YtidfgdchcpmnfaaGreat
set_option linter.unusedSimpArgs false
set_option linter.unusedVariables false
def find (p : Nat → Bool) : Nat → Nat → Nat
  | 0,k => k
  | f + 1,k => if p k then k else find p f (k + 1)
def pv (n : Nat) (e : Nat → Nat → Rat) (j : Nat) : Nat := find (fun k => decide (e k j ≠ 0)) (n - j) j
def swp (e : Nat → Nat → Rat) (a b : Nat) : Nat → Nat → Rat := fun r c => if r = a then e b c else if r = b then e a c else e r c
def clr (e : Nat → Nat → Rat) (j : Nat) : Nat → Nat → Rat := fun r c => if j < r ∧ j ≤ c then e r c - e r j / e j j * e j c else e r c
def detGo (n : Nat) : Nat → Nat → (Nat → Nat → Rat) → Rat → Rat
  | 0,_,_,d => d
  | f + 1,j,e,d => if pv n e j = n then 0 else detGo n f (j + 1) (clr (swp e j (pv n e j)) j) ((if pv n e j = j then d else -d) * swp e j (pv n e j) j j)
def det (n : Nat) (e : Nat → Nat → Rat) : Rat := detGo n n 0 e 1
theorem pv3_0 (e : Nat → Nat → Rat) : pv 3 e 0 = if e 0 0 ≠ 0 then 0 else if e 1 0 ≠ 0 then 1 else if e 2 0 ≠ 0 then 2 else 3 := by
  simp [pv,find]
theorem pv3_1 (e : Nat → Nat → Rat) : pv 3 e 1 = if e 1 1 ≠ 0 then 1 else if e 2 1 ≠ 0 then 2 else 3 := by
  simp [pv,find]
theorem pv3_2 (e : Nat → Nat → Rat) : pv 3 e 2 = if e 2 2 ≠ 0 then 2 else 3 := by
  simp [pv,find]
theorem det3_last (e : Nat → Nat → Rat) (d : Rat) : detGo 3 1 2 e d = d * e 2 2 := by
  unfold detGo detGo
  rw [pv3_2]
  by_cases h : e 2 2 = 0
  · simp [h]
  · simp [h,swp]
theorem det3_mid (e : Nat → Nat → Rat) (d : Rat) : detGo 3 2 1 e d = d * (e 1 1 * e 2 2 - e 1 2 * e 2 1) := by
  unfold detGo
  rw [pv3_1]
  by_cases h : e 1 1 = 0
  · by_cases h2 : e 2 1 = 0
    · simp [h,h2]
      try grind
    · simp only [h,h2,ne_eq,not_true_eq_false,not_false_eq_true,if_true,if_false]
      rw [if_neg (by omega),det3_last]
      simp [swp,clr,h]
      grind
  · simp only [h,ne_eq,not_true_eq_false,not_false_eq_true,if_true,if_false]
    rw [if_neg (by omega),det3_last]
    simp [swp,clr]
    grind
theorem det3 (e : Nat → Nat → Rat) : det 3 e = e 0 0 * (e 1 1 * e 2 2 - e 1 2 * e 2 1) + e 0 1 * (e 1 2 * e 2 0 - e 1 0 * e 2 2) + e 0 2 * (e 1 0 * e 2 1 - e 1 1 * e 2 0) := by
  unfold det detGo
  rw [pv3_0]
  by_cases h : e 0 0 = 0
  · by_cases h1 : e 1 0 = 0
    · by_cases h2 : e 2 0 = 0
      · simp [h,h1,h2]
        try grind
      · simp only [h,h1,h2,ne_eq,not_true_eq_false,not_false_eq_true,if_true,if_false]
        rw [if_neg (by omega),det3_mid]
        simp [swp,clr,h,h1]
        grind
    · simp only [h,h1,ne_eq,not_true_eq_false,not_false_eq_true,if_true,if_false]
      rw [if_neg (by omega),det3_mid]
      simp [swp,clr,h]
      grind
  · simp only [h,ne_eq,not_true_eq_false,not_false_eq_true,if_true,if_false]
    rw [if_neg (by omega),det3_mid]
    simp [swp,clr]
    grind
theorem find_le (p : Nat → Bool) : ∀ f k,k ≤ find p f k ∧ find p f k ≤ k + f
  | 0,k => ⟨Nat.le_refl _,Nat.le_refl _⟩
  | f + 1,k => by
    unfold find
    by_cases h : p k = true
    · rw [if_pos h];omega
    · rw [if_neg h];have := find_le p f (k + 1);omega
theorem find_yes {p : Nat → Bool} {f k : Nat} (h : p k = true) (hf : 0 < f) : find p f k = k := by
  cases f with
  | zero => omega
  | succ f => unfold find;rw [if_pos h]
theorem find_no {p : Nat → Bool} {n k : Nat} (h : p k = false) (hk : k < n) : find p (n - k) k = find p (n - (k + 1)) (k + 1) := by
  obtain ⟨f,hf⟩ : ∃ f,n - k = f + 1 := ⟨n - k - 1,by omega⟩
  rw [hf,show n - (k + 1) = f by omega]
  conv => lhs;unfold find
  rw [h];rfl
theorem swp_self (e : Nat → Nat → Rat) (j : Nat) : swp e j j = e := by
  funext r c;unfold swp;by_cases h : r = j
  · rw [if_pos h,h]
  · rw [if_neg h,if_neg h]
def clrTo (e : Nat → Nat → Rat) (j i : Nat) : Nat → Nat → Rat := fun r c => if j < r ∧ r < i ∧ j ≤ c then e r c - e r j / e j j * e j c else e r c
theorem clrTo_start (e : Nat → Nat → Rat) (j : Nat) : clrTo e j (j + 1) = e := by
  funext r c;unfold clrTo;rw [if_neg (by omega)]
theorem clrTo_end (e : Nat → Nat → Rat) (j n r c : Nat) (hr : r < n) : clrTo e j n r c = clr e j r c := by
  unfold clrTo clr
  by_cases h : j < r ∧ j ≤ c
  · rw [if_pos ⟨h.1,hr,h.2⟩,if_pos h]
  · rw [if_neg (by omega),if_neg h]
theorem clrTo_at (e : Nat → Nat → Rat) (j i c : Nat) : clrTo e j i i c = e i c := by unfold clrTo;rw [if_neg (by omega)]
theorem clrTo_piv (e : Nat → Nat → Rat) (j i c : Nat) : clrTo e j i j c = e j c := by unfold clrTo;rw [if_neg (by omega)]
theorem clrTo_skip {e : Nat → Nat → Rat} {j i : Nat} (h : e i j = 0) : clrTo e j (i + 1) = clrTo e j i := by
  funext r c;unfold clrTo
  by_cases h1 : r = i
  · subst h1
    rw [if_neg (show ¬ (j < r ∧ r < r ∧ j ≤ c) by omega),h]
    split
    · grind
    · rfl
  · by_cases h2 : j < r ∧ r < i ∧ j ≤ c
    · rw [if_pos h2,if_pos ⟨h2.1,by omega,h2.2.2⟩]
    · rw [if_neg h2,if_neg (by omega)]
theorem detGo_no {n j : Nat} {e : Nat → Nat → Rat} {d : Rat} (hj : j < n) (h : pv n e j = n) : detGo n (n - j) j e d = 0 := by
  obtain ⟨f,hf⟩ : ∃ f,n - j = f + 1 := ⟨n - j - 1,by omega⟩
  rw [hf];unfold detGo;rw [if_pos h]
theorem detGo_yes {n j k : Nat} {e : Nat → Nat → Rat} {d : Rat} (hj : j < n) (hk : k < n) (h : pv n e j = k) : detGo n (n - j) j e d = detGo n (n - (j + 1)) (j + 1) (clr (swp e j k) j) ((if k = j then d else -d) * swp e j k j j) := by
  obtain ⟨f,hf⟩ : ∃ f,n - j = f + 1 := ⟨n - j - 1,by omega⟩
  rw [hf,show n - (j + 1) = f by omega]
  conv => lhs;unfold detGo
  rw [h,if_neg (by omega)]
theorem rsz_swp {e : Nat → Nat → Rat} {n B : Nat} (h : ∀ r c,r < n → c < n → rsz (e r c) ≤ B) {j k : Nat} (hj : j < n) (hk : k < n) : ∀ r c,r < n → c < n → rsz (swp e j k r c) ≤ B := by
  intro r c hr hc
  unfold swp
  split
  · exact h k c hk hc
  · split
    · exact h j c hj hc
    · exact h r c hr hc
theorem rsz_clr {e : Nat → Nat → Rat} {n B : Nat} (h : ∀ r c,r < n → c < n → rsz (e r c) ≤ B) (hB : 1 ≤ B) {j : Nat} (hj : j < n) (hp : e j j ≠ 0) : ∀ r c,r < n → c < n → rsz (clr e j r c) ≤ 5 * B := by
  intro r c hr hc
  have a1 := h r c hr hc
  have a2 := h r j hr hj
  have a3 := h j j hj hj
  have a4 := h j c hj hc
  unfold clr
  split
  · have b1 := rsz_div (e r j) (e j j) hp
    have b2 := rsz_mul (e r j / e j j) (e j c)
    have b3 := rsz_sub (e r c) (e r j / e j j * e j c)
    omega
  · omega
end Go.Proofs.YtidfgdchcpmnfaaGreat
