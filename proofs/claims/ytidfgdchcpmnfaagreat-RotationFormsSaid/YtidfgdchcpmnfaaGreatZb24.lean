/-
  Lemmas for the statements about rotations, part 24 of 51.
-/
import Derived.Test.YtidfgdchcpmnfaaGreatZb23
namespace Go.Proofs.YtidfgdchcpmnfaaGreat
open Go.RowKit
set_option maxRecDepth 100000
set_option maxHeartbeats 8000000
set_option linter.unusedSimpArgs false
set_option linter.unusedVariables false
def idE (i j : Nat) : Rat := if i = j then 1 else 0
def turnOk (e : Nat → Nat → Rat) (i j : Nat) : Bool := decide (dotQ (e i) (e j) 3 = idE i j)
def turnB (e : Nat → Nat → Rat) : Bool := allB 3 (fun i => allB 3 (turnOk e i)) && decide (det 3 e = 1)
theorem cmpQ_zero (x y : Rat) : cmpQ x y = 0 ↔ x = y := by
  unfold cmpQ
  by_cases h1 : x < y
  · rw [if_pos h1];constructor
    · intro h;simp at h
    · intro h;rw [h] at h1;exact absurd h1 (Rat.lt_irrefl)
  · rw [if_neg h1]
    by_cases h2 : y < x
    · rw [if_pos h2];constructor
      · intro h;simp at h
      · intro h;rw [h] at h2;exact absurd h2 (Rat.lt_irrefl)
    · rw [if_neg h2];exact ⟨fun _ => Rat.le_antisymm (Rat.not_lt.1 h2) (Rat.not_lt.1 h1),fun _ => rfl⟩
theorem rsz_det3 {e : Nat → Nat → Rat} {K : Nat} (h : ∀ i j,i < 3 → j < 3 → rsz (e i j) ≤ K) : rsz (det 3 e) ≤ 15 * K + 5 := by
  rw [det3]
  have m := fun a b => rsz_mul a b
  have h00 := h 0 0 (by omega) (by omega)
  have h01 := h 0 1 (by omega) (by omega)
  have h02 := h 0 2 (by omega) (by omega)
  have h10 := h 1 0 (by omega) (by omega)
  have h11 := h 1 1 (by omega) (by omega)
  have h12 := h 1 2 (by omega) (by omega)
  have h20 := h 2 0 (by omega) (by omega)
  have h21 := h 2 1 (by omega) (by omega)
  have h22 := h 2 2 (by omega) (by omega)
  have a1 := rsz_mul (e 1 1) (e 2 2)
  have a2 := rsz_mul (e 1 2) (e 2 1)
  have a3 := rsz_sub (e 1 1 * e 2 2) (e 1 2 * e 2 1)
  have a4 := rsz_mul (e 0 0) (e 1 1 * e 2 2 - e 1 2 * e 2 1)
  have b1 := rsz_mul (e 1 2) (e 2 0)
  have b2 := rsz_mul (e 1 0) (e 2 2)
  have b3 := rsz_sub (e 1 2 * e 2 0) (e 1 0 * e 2 2)
  have b4 := rsz_mul (e 0 1) (e 1 2 * e 2 0 - e 1 0 * e 2 2)
  have c1 := rsz_mul (e 1 0) (e 2 1)
  have c2 := rsz_mul (e 1 1) (e 2 0)
  have c3 := rsz_sub (e 1 0 * e 2 1) (e 1 1 * e 2 0)
  have c4 := rsz_mul (e 0 2) (e 1 0 * e 2 1 - e 1 1 * e 2 0)
  have d1 := rsz_add (e 0 0 * (e 1 1 * e 2 2 - e 1 2 * e 2 1)) (e 0 1 * (e 1 2 * e 2 0 - e 1 0 * e 2 2))
  have d2 := rsz_add (e 0 0 * (e 1 1 * e 2 2 - e 1 2 * e 2 1) + e 0 1 * (e 1 2 * e 2 0 - e 1 0 * e 2 2)) (e 0 2 * (e 1 0 * e 2 1 - e 1 1 * e 2 0))
  omega
theorem turning_any (v : Value) (K : Nat) (e : Nat → Nat → Rat) (w : World) (h : MatQ w v 3 3 K e) (hK1 : 1 ≤ K) (hK : K ≤ 700000) :
    Calls Tryz.prog 49 #[v] w (GB (turnB e) w) := by
  obtain ⟨p,c,rfl,hl1,hl2⟩ := h.form
  go_enter Tryz.func49,Tryz.ntmps49
  go_wp2_with fail
  refine (transpose_any _ 3 3 K e _ h (by omega) (by omega) (by omega) (by omega) (by omega)).mono ?_
  rintro x w1 ⟨b1,rb1,rfl,hM1,hb1⟩
  have ht := hM1.toR (by omega) (by omega)
  go_wp2_with fail
  refine (mmul_any _ _ 3 3 3 K e (fun i j => e j i) _ (h.below hb1) ht (by omega) (by omega) (by omega) (by omega) (by omega) (by omega) (by omega)).mono ?_
  rintro x w2 ⟨b2,rb2,rfl,hM2,hb2⟩
  have hp := hM2.toR (by omega) (by omega)
  have hB2 := Below.tr hb1 hb2
  have hBr : Below w2.heap.size w2 w2 := Below.refl _ _
  obtain ⟨g,hg⟩ : ∃ g : Nat → Nat → Rat,g = fun i j => dotQ (e i) (fun k => (fun i j => e j i) k j) 3 := ⟨_,rfl⟩
  rw [← hg] at hp
  have hpsz : ∀ i j,i < 3 → j < 3 → rsz (g i j) ≤ 400000000 := fun i j hi hj => by have := hp.rsz hi hj;omega
  have HPS := Lib.hid hpsz
  have HGG : Hid (∀ i j,g i j = dotQ (e i) (e j) 3) := Lib.hid (fun i j => by rw [hg])
  clear hpsz hg hM2
  go_wp2_with fail
  go_loopw [27,7,8,9,10,11,28,29,30,31,32,33,34,35,36,37,38,39,40,41,42,43,44,45,46,47,48] (fun i _ _ _ _ _ _ _ _ _ _ _ _ _ _ _ _ _ _ _ _ _ _ _ _ _ _ wr => ∃ k : Nat,k ≤ 3 ∧ i = .int .i64 (k : Nat) ∧ Hid (∀ i,i < k → allB 3 (turnOk e i) = true) ∧ Below w.heap.size w wr ∧ Below w2.heap.size w2 wr) (fun i _ _ _ _ _ _ _ _ _ _ _ _ _ _ _ _ _ _ _ _ _ _ _ _ _ _ _ => 3 - (intOf i).toNat)
  case atStart => exact ⟨0,by omega,rfl,Lib.hid (fun j hj => by omega),hB2,hBr⟩
  case round =>
    obtain ⟨k,hk,rfl,HI,hBw,hBp⟩ := hrel
    by_cases hk3 : k < 3
    · have hkd : decide ((k : Int) < 3) = true := by simp;omega
      obtain ⟨_,_,q,d,he,hlb,c0,hr⟩ := (hp.below hBp).at_ hk3
      cases he
      rw [Nat.zero_add] at c0
      go_wp2_with fail
      obtain ⟨wo,rfl⟩ : ∃ wo : World,wo = wr := ⟨_,rfl⟩
      have hBo0 : Below wo.heap.size wo wo := Below.refl _ _
      go_loopw [34,9,10,11,35,36,37,38,39,40,41,42,43,44,45,46,47] (fun i _ _ _ _ _ _ _ _ _ _ _ _ _ _ _ _ wr => ∃ l : Nat,l ≤ 3 ∧ i = .int .i64 (l : Nat) ∧ Hid (∀ j,j < l → turnOk e k j = true) ∧ Below wo.heap.size wo wr) (fun i _ _ _ _ _ _ _ _ _ _ _ _ _ _ _ _ _ => 3 - (intOf i).toNat)
      case atStart => exact ⟨0,by omega,rfl,Lib.hid (fun j hj => by omega),hBo0⟩
      case round =>
        obtain ⟨l,hl,rfl,HJ,hBo⟩ := hrel
        by_cases hl3 : l < 3
        · have hld : decide ((l : Int) < 3) = true := by simp;omega
          obtain ⟨ba,oa,xg,xp,xn,xc,xh,xo,xm,xe,he,hla,y0,y1,y2,y3,hxq,hxn⟩ := (hr.below hBo).at_ hl3
          subst he
          have hx := hxq.rq
          have hgs := HPS.out k l hk3 hl3
          by_cases hkl : k = l
          · subst hkl
            have hwsx : rsz (((1 : Int)) : Rat) ≤ 400000000 := by decide +kernel
            have qx : Bx (wr.alloc (.cells #[.bool xg,.slice xp xn xc,.bool xh,.slice xo xm xe] 30)) (wr.heap.size) [.bool xg,.slice xp xn xc,.bool xh,.slice xo xm xe] := by have := Bx.new wr [.bool xg,.slice xp xn xc,.bool xh,.slice xo xm xe] 30;simpa using this
            have xx := (hx.alloc (.cells #[.bool xg,.slice xp xn xc,.bool xh,.slice xo xm xe] 30)).drew
            have Sx : (fun w' : World => w'.cell? ⟨wr.heap.size,0,none⟩ = some (.bool xg) ∧ w'.cell? ⟨wr.heap.size,1,none⟩ = some (.slice xp xn xc) ∧ w'.cell? ⟨wr.heap.size,2,none⟩ = some (.bool xh) ∧ w'.cell? ⟨wr.heap.size,3,none⟩ = some (.slice xo xm xe) ∧ wr.heap.size < w'.heap.size) (wr.alloc (.cells #[.bool xg,.slice xp xn xc,.bool xh,.slice xo xm xe] 30)).drew := ⟨qx.c0,qx.c1,qx.c2,qx.c3,qx.1⟩
            have Kx : ∀ A B : World,(fun w' : World => w'.cell? ⟨wr.heap.size,0,none⟩ = some (.bool xg) ∧ w'.cell? ⟨wr.heap.size,1,none⟩ = some (.slice xp xn xc) ∧ w'.cell? ⟨wr.heap.size,2,none⟩ = some (.bool xh) ∧ w'.cell? ⟨wr.heap.size,3,none⟩ = some (.slice xo xm xe) ∧ wr.heap.size < w'.heap.size) A → Below A.heap.size A B → (fun w' : World => w'.cell? ⟨wr.heap.size,0,none⟩ = some (.bool xg) ∧ w'.cell? ⟨wr.heap.size,1,none⟩ = some (.slice xp xn xc) ∧ w'.cell? ⟨wr.heap.size,2,none⟩ = some (.bool xh) ∧ w'.cell? ⟨wr.heap.size,3,none⟩ = some (.slice xo xm xe) ∧ wr.heap.size < w'.heap.size) B := by
              rintro A B ⟨a0,a1,a2,a3,a4⟩ hb
              have hs := hb.size
              exact ⟨cellB hb a4 a0,cellB hb a4 a1,cellB hb a4 a2,cellB hb a4 a3,by omega⟩
            go_wp2_with fail
            have tk1 : True := trivial
            have tk2 : True := trivial
            go_region_held3 (fun w' : World => w'.cell? ⟨wr.heap.size,0,none⟩ = some (.bool xg) ∧ w'.cell? ⟨wr.heap.size,1,none⟩ = some (.slice xp xn xc) ∧ w'.cell? ⟨wr.heap.size,2,none⟩ = some (.bool xh) ∧ w'.cell? ⟨wr.heap.size,3,none⟩ = some (.slice xo xm xe) ∧ wr.heap.size < w'.heap.size) (first | with_reducible exact Sx | with_reducible exact Kx _ _ (by assumption) (by assumption) | (simp;done))
              (first
                | (((have := tk1;clear tk1;(with_reducible refine (wholeQ_any 1 _ (by omega) (by omega)).mono ?_);rintro x wx1 ⟨v1,rfl,hwx,hbx1⟩;have xxx := xx.below hbx1)))
                | (((have := tk2;clear tk2;(with_reducible refine (compareQ_any _ _ _ _ _ xxx hwx (by omega) hwsx).mono ?_);rintro x wx2 ⟨rfl,hbx2⟩))))
            have hBlx : Below wo.heap.size wo wx2 := Below.tr (Below.tr (Below.al hBo (.cells #[.bool xg,.slice xp xn xc,.bool xh,.slice xo xm xe] 30)).drew hbx1) hbx2
            have HBx := Lib.hid hBlx
            have hgl : g k k = dotQ (e k) (e k) 3 := HGG.out k k
            have hcz := cmpQ_zero (g k k) (1 : Rat)
            have hid : idE k k = (1 : Rat) := by unfold idE;rw [if_pos rfl]
            have hiff : turnOk e k k = true ↔ cmpQ (g k k) (1 : Rat) = 0 := by rw [hcz,hgl];unfold turnOk;rw [hid];simp
            clear hcz hid hgl
            by_cases hok : turnOk e k k = true
            · have hc0 : (cmpQ (g k k) (1 : Rat) == 0) = true := by simpa using hiff.1 hok
              have hc1 : (cmpQ (g k k) (1 : Rat) != 0) = false := by simpa using hiff.1 hok
              have HC := Lib.hid hok
              clear hok hiff
              go_wp2_with fail
              go_roundw
              case rel => exact ⟨k + 1,by omega,by go_num,Lib.hid (fun j hj => if e : j < k then HJ.out j e else by rw [show j = k by omega];exact HC.out),HBx.out⟩
              case measure => simp [intOf];omega
            · have hok2 : turnOk e k k = false := by simpa using hok
              have hc0 : (cmpQ (g k k) (1 : Rat) == 0) = false := by simpa using mt hiff.2 hok
              have hc1 : (cmpQ (g k k) (1 : Rat) != 0) = true := by simpa using mt hiff.2 hok
              have HN : Hid (turnB e = false) := Lib.hid (by unfold turnB;rw [allB_no (ok := fun i => allB 3 (turnOk e i)) hk3 (allB_no hl3 hok2)];rfl)
              clear hok hiff hok2
              go_wp2_with fail
              go_ret
              exact ⟨ret_bool HN.out.symm,Below.tr hBw HBx.out⟩
          · have hki : ¬ ((k : Int) = (l : Int)) := by omega
            have hkn : (k == l) = false := by simpa using hkl
            have hkl := Lib.hid hkl
            have hwsx : rsz (((0 : Int)) : Rat) ≤ 400000000 := by decide +kernel
            have qx : Bx (wr.alloc (.cells #[.bool xg,.slice xp xn xc,.bool xh,.slice xo xm xe] 30)) (wr.heap.size) [.bool xg,.slice xp xn xc,.bool xh,.slice xo xm xe] := by have := Bx.new wr [.bool xg,.slice xp xn xc,.bool xh,.slice xo xm xe] 30;simpa using this
            have xx := (hx.alloc (.cells #[.bool xg,.slice xp xn xc,.bool xh,.slice xo xm xe] 30)).drew
            have Sx : (fun w' : World => w'.cell? ⟨wr.heap.size,0,none⟩ = some (.bool xg) ∧ w'.cell? ⟨wr.heap.size,1,none⟩ = some (.slice xp xn xc) ∧ w'.cell? ⟨wr.heap.size,2,none⟩ = some (.bool xh) ∧ w'.cell? ⟨wr.heap.size,3,none⟩ = some (.slice xo xm xe) ∧ wr.heap.size < w'.heap.size) (wr.alloc (.cells #[.bool xg,.slice xp xn xc,.bool xh,.slice xo xm xe] 30)).drew := ⟨qx.c0,qx.c1,qx.c2,qx.c3,qx.1⟩
            have Kx : ∀ A B : World,(fun w' : World => w'.cell? ⟨wr.heap.size,0,none⟩ = some (.bool xg) ∧ w'.cell? ⟨wr.heap.size,1,none⟩ = some (.slice xp xn xc) ∧ w'.cell? ⟨wr.heap.size,2,none⟩ = some (.bool xh) ∧ w'.cell? ⟨wr.heap.size,3,none⟩ = some (.slice xo xm xe) ∧ wr.heap.size < w'.heap.size) A → Below A.heap.size A B → (fun w' : World => w'.cell? ⟨wr.heap.size,0,none⟩ = some (.bool xg) ∧ w'.cell? ⟨wr.heap.size,1,none⟩ = some (.slice xp xn xc) ∧ w'.cell? ⟨wr.heap.size,2,none⟩ = some (.bool xh) ∧ w'.cell? ⟨wr.heap.size,3,none⟩ = some (.slice xo xm xe) ∧ wr.heap.size < w'.heap.size) B := by
              rintro A B ⟨a0,a1,a2,a3,a4⟩ hb
              have hs := hb.size
              exact ⟨cellB hb a4 a0,cellB hb a4 a1,cellB hb a4 a2,cellB hb a4 a3,by omega⟩
            go_wp2_with fail
            have tk1 : True := trivial
            have tk2 : True := trivial
            go_region_held3 (fun w' : World => w'.cell? ⟨wr.heap.size,0,none⟩ = some (.bool xg) ∧ w'.cell? ⟨wr.heap.size,1,none⟩ = some (.slice xp xn xc) ∧ w'.cell? ⟨wr.heap.size,2,none⟩ = some (.bool xh) ∧ w'.cell? ⟨wr.heap.size,3,none⟩ = some (.slice xo xm xe) ∧ wr.heap.size < w'.heap.size) (first | with_reducible exact Sx | with_reducible exact Kx _ _ (by assumption) (by assumption) | (simp;done))
              (first
                | (((have := tk1;clear tk1;(with_reducible refine (wholeQ_any 0 _ (by omega) (by omega)).mono ?_);rintro x wx1 ⟨v1,rfl,hwx,hbx1⟩;have xxx := xx.below hbx1)))
                | (((have := tk2;clear tk2;(with_reducible refine (compareQ_any _ _ _ _ _ xxx hwx (by omega) hwsx).mono ?_);rintro x wx2 ⟨rfl,hbx2⟩))))
            have hBlx : Below wo.heap.size wo wx2 := Below.tr (Below.tr (Below.al hBo (.cells #[.bool xg,.slice xp xn xc,.bool xh,.slice xo xm xe] 30)).drew hbx1) hbx2
            have HBx := Lib.hid hBlx
            have hgl : g k l = dotQ (e k) (e l) 3 := HGG.out k l
            have hcz := cmpQ_zero (g k l) (0 : Rat)
            have hid : idE k l = (0 : Rat) := by unfold idE;rw [if_neg hkl.out]
            have hiff : turnOk e k l = true ↔ cmpQ (g k l) (0 : Rat) = 0 := by rw [hcz,hgl];unfold turnOk;rw [hid];simp
            clear hcz hid hgl
            by_cases hok : turnOk e k l = true
            · have hc0 : (cmpQ (g k l) (0 : Rat) == 0) = true := by simpa using hiff.1 hok
              have hc1 : (cmpQ (g k l) (0 : Rat) != 0) = false := by simpa using hiff.1 hok
              have HC := Lib.hid hok
              clear hok hiff
              go_wp2_with fail
              go_roundw
              case rel => exact ⟨l + 1,by omega,by go_num,Lib.hid (fun j hj => if e : j < l then HJ.out j e else by rw [show j = l by omega];exact HC.out),HBx.out⟩
              case measure => simp [intOf];omega
            · have hok2 : turnOk e k l = false := by simpa using hok
              have hc0 : (cmpQ (g k l) (0 : Rat) == 0) = false := by simpa using mt hiff.2 hok
              have hc1 : (cmpQ (g k l) (0 : Rat) != 0) = true := by simpa using mt hiff.2 hok
              have HN : Hid (turnB e = false) := Lib.hid (by unfold turnB;rw [allB_no (ok := fun i => allB 3 (turnOk e i)) hk3 (allB_no hl3 hok2)];rfl)
              clear hok hiff hok2
              go_wp2_with fail
              go_ret
              exact ⟨ret_bool HN.out.symm,Below.tr hBw HBx.out⟩
        · have he : l = 3 := by omega
          subst he
          have HA : Hid (allB 3 (turnOk e k) = true) := Lib.hid (allB_iff.2 HJ.out)
          go_wp2_with fail
          go_roundw
          case rel => exact ⟨k + 1,by omega,by go_num,Lib.hid (fun j hj => if e : j < k then HI.out j e else by rw [show j = k by omega];exact HA.out),Below.tr hBw hBo,Below.tr hBp hBo⟩
          case measure => simp [intOf];omega
    · have he : k = 3 := by omega
      subst he
      have HA : Hid (allB 3 (fun i => allB 3 (turnOk e i)) = true) := Lib.hid (allB_iff.2 HI.out)
      go_wp2_with fail
      refine (determinant_any _ 3 K e _ (h.below hBw) (by omega) (by omega) hK1 (by show K * 125 ≤ 99999999;omega)).mono ?_
      rintro x w5 ⟨v5,rfl,hi5,hb5⟩
      obtain ⟨dg,dp,dn,dc,dh,do_,dm,de,rfl⟩ := hi5.form
      have hdz := rsz_det3 (e := e) (K := K) (fun i j hi hj => h.rsz hi hj)
      have hB5 := Below.tr hBw hb5
      have hwsd : rsz (((1 : Int)) : Rat) ≤ 400000000 := by decide +kernel
      have qd : Bx (w5.alloc (.cells #[.bool dg,.slice dp dn dc,.bool dh,.slice do_ dm de] 30)) (w5.heap.size) [.bool dg,.slice dp dn dc,.bool dh,.slice do_ dm de] := by have := Bx.new w5 [.bool dg,.slice dp dn dc,.bool dh,.slice do_ dm de] 30;simpa using this
      have xd := (hi5.alloc (.cells #[.bool dg,.slice dp dn dc,.bool dh,.slice do_ dm de] 30)).drew
      have Sd : (fun w' : World => w'.cell? ⟨w5.heap.size,0,none⟩ = some (.bool dg) ∧ w'.cell? ⟨w5.heap.size,1,none⟩ = some (.slice dp dn dc) ∧ w'.cell? ⟨w5.heap.size,2,none⟩ = some (.bool dh) ∧ w'.cell? ⟨w5.heap.size,3,none⟩ = some (.slice do_ dm de) ∧ w5.heap.size < w'.heap.size) (w5.alloc (.cells #[.bool dg,.slice dp dn dc,.bool dh,.slice do_ dm de] 30)).drew := ⟨qd.c0,qd.c1,qd.c2,qd.c3,qd.1⟩
      have Kd : ∀ A B : World,(fun w' : World => w'.cell? ⟨w5.heap.size,0,none⟩ = some (.bool dg) ∧ w'.cell? ⟨w5.heap.size,1,none⟩ = some (.slice dp dn dc) ∧ w'.cell? ⟨w5.heap.size,2,none⟩ = some (.bool dh) ∧ w'.cell? ⟨w5.heap.size,3,none⟩ = some (.slice do_ dm de) ∧ w5.heap.size < w'.heap.size) A → Below A.heap.size A B → (fun w' : World => w'.cell? ⟨w5.heap.size,0,none⟩ = some (.bool dg) ∧ w'.cell? ⟨w5.heap.size,1,none⟩ = some (.slice dp dn dc) ∧ w'.cell? ⟨w5.heap.size,2,none⟩ = some (.bool dh) ∧ w'.cell? ⟨w5.heap.size,3,none⟩ = some (.slice do_ dm de) ∧ w5.heap.size < w'.heap.size) B := by
        rintro A B ⟨a0,a1,a2,a3,a4⟩ hb
        have hs := hb.size
        exact ⟨cellB hb a4 a0,cellB hb a4 a1,cellB hb a4 a2,cellB hb a4 a3,by omega⟩
      go_wp2_with fail
      have tk1 : True := trivial
      have tk2 : True := trivial
      go_region_held3 (fun w' : World => w'.cell? ⟨w5.heap.size,0,none⟩ = some (.bool dg) ∧ w'.cell? ⟨w5.heap.size,1,none⟩ = some (.slice dp dn dc) ∧ w'.cell? ⟨w5.heap.size,2,none⟩ = some (.bool dh) ∧ w'.cell? ⟨w5.heap.size,3,none⟩ = some (.slice do_ dm de) ∧ w5.heap.size < w'.heap.size) (first | with_reducible exact Sd | with_reducible exact Kd _ _ (by assumption) (by assumption) | (simp;done))
        (first
          | (((have := tk1;clear tk1;(with_reducible refine (wholeQ_any 1 _ (by omega) (by omega)).mono ?_);rintro x wd1 ⟨v1,rfl,hwd,hbd1⟩;have xxd := xd.below hbd1)))
          | (((have := tk2;clear tk2;(with_reducible refine (compareQ_any _ _ _ _ _ xxd hwd (by omega) hwsd).mono ?_);rintro x wd2 ⟨rfl,hbd2⟩))))
      have hBld : Below w.heap.size w wd2 := Below.tr (Below.tr (Below.al hB5 (.cells #[.bool dg,.slice dp dn dc,.bool dh,.slice do_ dm de] 30)).drew hbd1) hbd2
      have hcz := cmpQ_zero (det 3 e) (1 : Rat)
      have HT : Hid ((cmpQ (det 3 e) (1 : Rat) == 0) = turnB e) := Lib.hid (by
        unfold turnB
        rw [HA.out,Bool.true_and,Bool.eq_iff_iff]
        simp only [beq_iff_eq,decide_eq_true_eq]
        exact hcz)
      have HBd := Lib.hid hBld
      clear hcz hBld
      go_wp2_with fail
      go_ret
      exact ⟨ret_bool HT.out,HBd.out⟩
end Go.Proofs.YtidfgdchcpmnfaaGreat
