/-
  Lemmas for the statements about rotations, part 28 of 51.
-/
import Derived.Test.YtidfgdchcpmnfaaGreatZb11
import Derived.Test.YtidfgdchcpmnfaaGreatZb16
import Derived.Test.YtidfgdchcpmnfaaGreatZb24
import Derived.Test.YtidfgdchcpmnfaaGreatZb27
namespace Go.Proofs.YtidfgdchcpmnfaaGreat
open Go.RowKit
set_option maxRecDepth 100000
set_option maxHeartbeats 8000000
set_option linter.unusedSimpArgs false
set_option linter.unusedVariables false
theorem omPlus_any (B b o c K i j : Nat) (e : Nat → Nat → Rat) (w : World) (hB : w.cell? ⟨B,0,none⟩ = some (.slice (some ⟨b,o,none⟩) 3 c)) (hBl : B < w.heap.size) (h : MatQ w (.slice (some ⟨b,o,none⟩) 3 c) 3 3 K e) (hi : i < 3) (hj : j < 3) (hK : K ≤ 100000000) :
    Calls Tryz.prog 54 #[.int .i64 (i : Nat),.int .i64 (j : Nat),.pointer (some ⟨B,0,none⟩)] w (GQ (e i j + e j i) w) := by
  obtain ⟨_,_,he,h1,h2⟩ := h.form
  cases he
  obtain ⟨_,_,qa,da,he,hl,ca,hra⟩ := h.at_ hi
  cases he
  obtain ⟨_,_,qb,db,he,_,cb,hrb⟩ := h.at_ hj
  cases he
  obtain ⟨ba,oa,xg,xp,xn,xc,xh,xo,xm,xe,he,hal,x0,x1,x2,x3,hxq,hxn⟩ := hra.at_ hj
  subst he
  obtain ⟨bb,ob,yg,yp,yn,yc,yh,yo,ym,ye,he,hbl,y0,y1,y2,y3,hyq,hyn⟩ := hrb.at_ hi
  subst he
  obtain ⟨_,_,he,hf1,hf2⟩ := hra.form
  cases he
  obtain ⟨_,_,he,hg1,hg2⟩ := hrb.form
  cases he
  have hx := hxq.rq
  have hy := hyq.rq
  have lx := hx.rsz_le hxn
  have ly := hy.rsz_le hyn
  have hW : Below w.heap.size w (w.alloc (.cells #[.bool false,.slice none 0 0,.bool false,.slice none 0 0] 30)) := (Below.refl _ _).alloc (Nat.le_refl _) _
  have hsz : w.heap.size < (w.alloc (.cells #[.bool false,.slice none 0 0,.bool false,.slice none 0 0] 30)).heap.size := by simp
  have S0 : (fun w' : World => w'.cell? ⟨B,0,none⟩ = some (.slice (some ⟨b,o,none⟩) 3 c) ∧ w'.cell? ⟨b,o + i,none⟩ = some (.slice (some ⟨ba,oa,none⟩) 3 da) ∧ w'.cell? ⟨b,o + j,none⟩ = some (.slice (some ⟨bb,ob,none⟩) 3 db) ∧ w'.cell? ⟨ba,oa + j * 4,none⟩ = some (.bool xg) ∧ w'.cell? ⟨ba,oa + j * 4 + 1,none⟩ = some (.slice xp xn xc) ∧ w'.cell? ⟨ba,oa + j * 4 + 2,none⟩ = some (.bool xh) ∧ w'.cell? ⟨ba,oa + j * 4 + 3,none⟩ = some (.slice xo xm xe) ∧ w'.cell? ⟨bb,ob + i * 4,none⟩ = some (.bool yg) ∧ w'.cell? ⟨bb,ob + i * 4 + 1,none⟩ = some (.slice yp yn yc) ∧ w'.cell? ⟨bb,ob + i * 4 + 2,none⟩ = some (.bool yh) ∧ w'.cell? ⟨bb,ob + i * 4 + 3,none⟩ = some (.slice yo ym ye) ∧ w.heap.size < w'.heap.size) (w.alloc (.cells #[.bool false,.slice none 0 0,.bool false,.slice none 0 0] 30)).drew := ⟨cellB hW.drew hBl hB,cellB hW.drew hl ca,cellB hW.drew hl cb,cellB hW.drew hal x0,cellB hW.drew hal x1,cellB hW.drew hal x2,cellB hW.drew hal x3,cellB hW.drew hbl y0,cellB hW.drew hbl y1,cellB hW.drew hbl y2,cellB hW.drew hbl y3,hsz⟩
  have KK : ∀ P Q : World,(fun w' : World => w'.cell? ⟨B,0,none⟩ = some (.slice (some ⟨b,o,none⟩) 3 c) ∧ w'.cell? ⟨b,o + i,none⟩ = some (.slice (some ⟨ba,oa,none⟩) 3 da) ∧ w'.cell? ⟨b,o + j,none⟩ = some (.slice (some ⟨bb,ob,none⟩) 3 db) ∧ w'.cell? ⟨ba,oa + j * 4,none⟩ = some (.bool xg) ∧ w'.cell? ⟨ba,oa + j * 4 + 1,none⟩ = some (.slice xp xn xc) ∧ w'.cell? ⟨ba,oa + j * 4 + 2,none⟩ = some (.bool xh) ∧ w'.cell? ⟨ba,oa + j * 4 + 3,none⟩ = some (.slice xo xm xe) ∧ w'.cell? ⟨bb,ob + i * 4,none⟩ = some (.bool yg) ∧ w'.cell? ⟨bb,ob + i * 4 + 1,none⟩ = some (.slice yp yn yc) ∧ w'.cell? ⟨bb,ob + i * 4 + 2,none⟩ = some (.bool yh) ∧ w'.cell? ⟨bb,ob + i * 4 + 3,none⟩ = some (.slice yo ym ye) ∧ w.heap.size < w'.heap.size) P → Below P.heap.size P Q → (fun w' : World => w'.cell? ⟨B,0,none⟩ = some (.slice (some ⟨b,o,none⟩) 3 c) ∧ w'.cell? ⟨b,o + i,none⟩ = some (.slice (some ⟨ba,oa,none⟩) 3 da) ∧ w'.cell? ⟨b,o + j,none⟩ = some (.slice (some ⟨bb,ob,none⟩) 3 db) ∧ w'.cell? ⟨ba,oa + j * 4,none⟩ = some (.bool xg) ∧ w'.cell? ⟨ba,oa + j * 4 + 1,none⟩ = some (.slice xp xn xc) ∧ w'.cell? ⟨ba,oa + j * 4 + 2,none⟩ = some (.bool xh) ∧ w'.cell? ⟨ba,oa + j * 4 + 3,none⟩ = some (.slice xo xm xe) ∧ w'.cell? ⟨bb,ob + i * 4,none⟩ = some (.bool yg) ∧ w'.cell? ⟨bb,ob + i * 4 + 1,none⟩ = some (.slice yp yn yc) ∧ w'.cell? ⟨bb,ob + i * 4 + 2,none⟩ = some (.bool yh) ∧ w'.cell? ⟨bb,ob + i * 4 + 3,none⟩ = some (.slice yo ym ye) ∧ w.heap.size < w'.heap.size) Q := by
    rintro P Q ⟨k0,k1,k2,k3,k4,k5,k6,k7,k8,k9,k10,k11⟩ hb
    have hs := hb.size
    exact ⟨cellB hb (by omega) k0,cellB hb (by omega) k1,cellB hb (by omega) k2,cellB hb (by omega) k3,cellB hb (by omega) k4,cellB hb (by omega) k5,cellB hb (by omega) k6,cellB hb (by omega) k7,cellB hb (by omega) k8,cellB hb (by omega) k9,cellB hb (by omega) k10,by omega⟩
  have KS : ∀ (A : World) (x0 x1 x2 x3 : Value),(fun w' : World => w'.cell? ⟨B,0,none⟩ = some (.slice (some ⟨b,o,none⟩) 3 c) ∧ w'.cell? ⟨b,o + i,none⟩ = some (.slice (some ⟨ba,oa,none⟩) 3 da) ∧ w'.cell? ⟨b,o + j,none⟩ = some (.slice (some ⟨bb,ob,none⟩) 3 db) ∧ w'.cell? ⟨ba,oa + j * 4,none⟩ = some (.bool xg) ∧ w'.cell? ⟨ba,oa + j * 4 + 1,none⟩ = some (.slice xp xn xc) ∧ w'.cell? ⟨ba,oa + j * 4 + 2,none⟩ = some (.bool xh) ∧ w'.cell? ⟨ba,oa + j * 4 + 3,none⟩ = some (.slice xo xm xe) ∧ w'.cell? ⟨bb,ob + i * 4,none⟩ = some (.bool yg) ∧ w'.cell? ⟨bb,ob + i * 4 + 1,none⟩ = some (.slice yp yn yc) ∧ w'.cell? ⟨bb,ob + i * 4 + 2,none⟩ = some (.bool yh) ∧ w'.cell? ⟨bb,ob + i * 4 + 3,none⟩ = some (.slice yo ym ye) ∧ w.heap.size < w'.heap.size) A → (fun w' : World => w'.cell? ⟨B,0,none⟩ = some (.slice (some ⟨b,o,none⟩) 3 c) ∧ w'.cell? ⟨b,o + i,none⟩ = some (.slice (some ⟨ba,oa,none⟩) 3 da) ∧ w'.cell? ⟨b,o + j,none⟩ = some (.slice (some ⟨bb,ob,none⟩) 3 db) ∧ w'.cell? ⟨ba,oa + j * 4,none⟩ = some (.bool xg) ∧ w'.cell? ⟨ba,oa + j * 4 + 1,none⟩ = some (.slice xp xn xc) ∧ w'.cell? ⟨ba,oa + j * 4 + 2,none⟩ = some (.bool xh) ∧ w'.cell? ⟨ba,oa + j * 4 + 3,none⟩ = some (.slice xo xm xe) ∧ w'.cell? ⟨bb,ob + i * 4,none⟩ = some (.bool yg) ∧ w'.cell? ⟨bb,ob + i * 4 + 1,none⟩ = some (.slice yp yn yc) ∧ w'.cell? ⟨bb,ob + i * 4 + 2,none⟩ = some (.bool yh) ∧ w'.cell? ⟨bb,ob + i * 4 + 3,none⟩ = some (.slice yo ym ye) ∧ w.heap.size < w'.heap.size) ((((A.setCell ⟨w.heap.size,0,none⟩ x0).setCell ⟨w.heap.size,1,none⟩ x1).setCell ⟨w.heap.size,2,none⟩ x2).setCell ⟨w.heap.size,3,none⟩ x3) := by
    rintro A x0 x1 x2 x3 ⟨k0,k1,k2,k3,k4,k5,k6,k7,k8,k9,k10,k11⟩
    have far : ∀ (b o : Nat) (v : Value),b < w.heap.size → A.cell? ⟨b,o,none⟩ = some v → ((((A.setCell ⟨w.heap.size,0,none⟩ x0).setCell ⟨w.heap.size,1,none⟩ x1).setCell ⟨w.heap.size,2,none⟩ x2).setCell ⟨w.heap.size,3,none⟩ x3).cell? ⟨b,o,none⟩ = some v := by
      intro b o v hb hc
      have hne : w.heap.size ≠ b := by omega
      rw [World.cell?_setCell_far _ _ _ _ (by simpa using hne),World.cell?_setCell_far _ _ _ _ (by simpa using hne),World.cell?_setCell_far _ _ _ _ (by simpa using hne),World.cell?_setCell_far _ _ _ _ (by simpa using hne)]
      exact hc
    exact ⟨far _ _ _ hBl k0,far _ _ _ hl k1,far _ _ _ hl k2,far _ _ _ hal k3,far _ _ _ hal k4,far _ _ _ hal k5,far _ _ _ hal k6,far _ _ _ hbl k7,far _ _ _ hbl k8,far _ _ _ hbl k9,far _ _ _ hbl k10,by simpa using k11⟩
  have hz0 : Bx (w.alloc (.cells #[.bool false,.slice none 0 0,.bool false,.slice none 0 0] 30)) w.heap.size [.bool false,.slice none 0 0,.bool false,.slice none 0 0] := by have := Bx.new w [.bool false,.slice none 0 0,.bool false,.slice none 0 0] 30;simpa using this
  have HD := Lib.hid (addQ_any _ _ _ _ _ (hx.below hW).drew (hy.below hW).drew (by omega) (by omega))
  have hB0 := hW.drew
  have hi' : (0 : Int) ≤ (i : Int) := by omega
  have hj' : (0 : Int) ≤ (j : Int) := by omega
  have hi3 : (i : Int) < 3 := by omega
  have hj3 : (j : Int) < 3 := by omega
  clear hB ca cb x0 x1 x2 x3 y0 y1 y2 y3
  go_enter Tryz.func54,Tryz.ntmps54
  go_wp2_with fail
  have tk1 : True := trivial
  go_region_held3 (fun w' : World => w'.cell? ⟨B,0,none⟩ = some (.slice (some ⟨b,o,none⟩) 3 c) ∧ w'.cell? ⟨b,o + i,none⟩ = some (.slice (some ⟨ba,oa,none⟩) 3 da) ∧ w'.cell? ⟨b,o + j,none⟩ = some (.slice (some ⟨bb,ob,none⟩) 3 db) ∧ w'.cell? ⟨ba,oa + j * 4,none⟩ = some (.bool xg) ∧ w'.cell? ⟨ba,oa + j * 4 + 1,none⟩ = some (.slice xp xn xc) ∧ w'.cell? ⟨ba,oa + j * 4 + 2,none⟩ = some (.bool xh) ∧ w'.cell? ⟨ba,oa + j * 4 + 3,none⟩ = some (.slice xo xm xe) ∧ w'.cell? ⟨bb,ob + i * 4,none⟩ = some (.bool yg) ∧ w'.cell? ⟨bb,ob + i * 4 + 1,none⟩ = some (.slice yp yn yc) ∧ w'.cell? ⟨bb,ob + i * 4 + 2,none⟩ = some (.bool yh) ∧ w'.cell? ⟨bb,ob + i * 4 + 3,none⟩ = some (.slice yo ym ye) ∧ w.heap.size < w'.heap.size) (first | with_reducible exact S0 | with_reducible exact KK _ _ (by assumption) (by assumption) | with_reducible exact KS _ _ _ _ _ (by assumption) | (simp;done))
    (first
      | (((have := tk1;clear tk1;(with_reducible refine HD.out.mono ?_);rintro x w1 ⟨v1,rfl,hi1,hb1⟩;obtain ⟨g1,p1,n1,c1,h1,o1,m1,e1,rfl⟩ := hi1.form;have hx1 := hz0.drew.to hb1;have d0 := hx1.c0;have d1 := hx1.c1;have d2 := hx1.c2;have d3 := hx1.c3;have f0 := hx1.f0;have f1 := hx1.f1;have f2 := hx1.f2;have f3 := hx1.f3)))
    )
  go_wp2_with fail
  exact bodyPost_ret (v := .agg #[.bool g1,.slice p1 n1 c1,.bool h1,.slice o1 m1 e1]) (by simp [results,Tryz.results54,go_sem,d0,d1,d2,d3,f0,f1,f2,f3]) rfl ⟨_,rfl,hi1.sets4 hx1 rfl rfl rfl rfl _ _ _ _,Below.sets4 (Below.tr hB0 hb1) (b := w.heap.size) (Nat.le_refl _) _ _ _ _⟩
theorem omMinus_any (B b o c K i j : Nat) (e : Nat → Nat → Rat) (w : World) (hB : w.cell? ⟨B,0,none⟩ = some (.slice (some ⟨b,o,none⟩) 3 c)) (hBl : B < w.heap.size) (h : MatQ w (.slice (some ⟨b,o,none⟩) 3 c) 3 3 K e) (hi : i < 3) (hj : j < 3) (hK : K ≤ 100000000) :
    Calls Tryz.prog 55 #[.int .i64 (i : Nat),.int .i64 (j : Nat),.pointer (some ⟨B,0,none⟩)] w (GQ (e i j - e j i) w) := by
  obtain ⟨_,_,he,h1,h2⟩ := h.form
  cases he
  obtain ⟨_,_,qa,da,he,hl,ca,hra⟩ := h.at_ hi
  cases he
  obtain ⟨_,_,qb,db,he,_,cb,hrb⟩ := h.at_ hj
  cases he
  obtain ⟨ba,oa,xg,xp,xn,xc,xh,xo,xm,xe,he,hal,x0,x1,x2,x3,hxq,hxn⟩ := hra.at_ hj
  subst he
  obtain ⟨bb,ob,yg,yp,yn,yc,yh,yo,ym,ye,he,hbl,y0,y1,y2,y3,hyq,hyn⟩ := hrb.at_ hi
  subst he
  obtain ⟨_,_,he,hf1,hf2⟩ := hra.form
  cases he
  obtain ⟨_,_,he,hg1,hg2⟩ := hrb.form
  cases he
  have hx := hxq.rq
  have hy := hyq.rq
  have lx := hx.rsz_le hxn
  have ly := hy.rsz_le hyn
  have hW : Below w.heap.size w (w.alloc (.cells #[.bool false,.slice none 0 0,.bool false,.slice none 0 0] 30)) := (Below.refl _ _).alloc (Nat.le_refl _) _
  have hsz : w.heap.size < (w.alloc (.cells #[.bool false,.slice none 0 0,.bool false,.slice none 0 0] 30)).heap.size := by simp
  have S0 : (fun w' : World => w'.cell? ⟨B,0,none⟩ = some (.slice (some ⟨b,o,none⟩) 3 c) ∧ w'.cell? ⟨b,o + i,none⟩ = some (.slice (some ⟨ba,oa,none⟩) 3 da) ∧ w'.cell? ⟨b,o + j,none⟩ = some (.slice (some ⟨bb,ob,none⟩) 3 db) ∧ w'.cell? ⟨ba,oa + j * 4,none⟩ = some (.bool xg) ∧ w'.cell? ⟨ba,oa + j * 4 + 1,none⟩ = some (.slice xp xn xc) ∧ w'.cell? ⟨ba,oa + j * 4 + 2,none⟩ = some (.bool xh) ∧ w'.cell? ⟨ba,oa + j * 4 + 3,none⟩ = some (.slice xo xm xe) ∧ w'.cell? ⟨bb,ob + i * 4,none⟩ = some (.bool yg) ∧ w'.cell? ⟨bb,ob + i * 4 + 1,none⟩ = some (.slice yp yn yc) ∧ w'.cell? ⟨bb,ob + i * 4 + 2,none⟩ = some (.bool yh) ∧ w'.cell? ⟨bb,ob + i * 4 + 3,none⟩ = some (.slice yo ym ye) ∧ w.heap.size < w'.heap.size) (w.alloc (.cells #[.bool false,.slice none 0 0,.bool false,.slice none 0 0] 30)).drew := ⟨cellB hW.drew hBl hB,cellB hW.drew hl ca,cellB hW.drew hl cb,cellB hW.drew hal x0,cellB hW.drew hal x1,cellB hW.drew hal x2,cellB hW.drew hal x3,cellB hW.drew hbl y0,cellB hW.drew hbl y1,cellB hW.drew hbl y2,cellB hW.drew hbl y3,hsz⟩
  have KK : ∀ P Q : World,(fun w' : World => w'.cell? ⟨B,0,none⟩ = some (.slice (some ⟨b,o,none⟩) 3 c) ∧ w'.cell? ⟨b,o + i,none⟩ = some (.slice (some ⟨ba,oa,none⟩) 3 da) ∧ w'.cell? ⟨b,o + j,none⟩ = some (.slice (some ⟨bb,ob,none⟩) 3 db) ∧ w'.cell? ⟨ba,oa + j * 4,none⟩ = some (.bool xg) ∧ w'.cell? ⟨ba,oa + j * 4 + 1,none⟩ = some (.slice xp xn xc) ∧ w'.cell? ⟨ba,oa + j * 4 + 2,none⟩ = some (.bool xh) ∧ w'.cell? ⟨ba,oa + j * 4 + 3,none⟩ = some (.slice xo xm xe) ∧ w'.cell? ⟨bb,ob + i * 4,none⟩ = some (.bool yg) ∧ w'.cell? ⟨bb,ob + i * 4 + 1,none⟩ = some (.slice yp yn yc) ∧ w'.cell? ⟨bb,ob + i * 4 + 2,none⟩ = some (.bool yh) ∧ w'.cell? ⟨bb,ob + i * 4 + 3,none⟩ = some (.slice yo ym ye) ∧ w.heap.size < w'.heap.size) P → Below P.heap.size P Q → (fun w' : World => w'.cell? ⟨B,0,none⟩ = some (.slice (some ⟨b,o,none⟩) 3 c) ∧ w'.cell? ⟨b,o + i,none⟩ = some (.slice (some ⟨ba,oa,none⟩) 3 da) ∧ w'.cell? ⟨b,o + j,none⟩ = some (.slice (some ⟨bb,ob,none⟩) 3 db) ∧ w'.cell? ⟨ba,oa + j * 4,none⟩ = some (.bool xg) ∧ w'.cell? ⟨ba,oa + j * 4 + 1,none⟩ = some (.slice xp xn xc) ∧ w'.cell? ⟨ba,oa + j * 4 + 2,none⟩ = some (.bool xh) ∧ w'.cell? ⟨ba,oa + j * 4 + 3,none⟩ = some (.slice xo xm xe) ∧ w'.cell? ⟨bb,ob + i * 4,none⟩ = some (.bool yg) ∧ w'.cell? ⟨bb,ob + i * 4 + 1,none⟩ = some (.slice yp yn yc) ∧ w'.cell? ⟨bb,ob + i * 4 + 2,none⟩ = some (.bool yh) ∧ w'.cell? ⟨bb,ob + i * 4 + 3,none⟩ = some (.slice yo ym ye) ∧ w.heap.size < w'.heap.size) Q := by
    rintro P Q ⟨k0,k1,k2,k3,k4,k5,k6,k7,k8,k9,k10,k11⟩ hb
    have hs := hb.size
    exact ⟨cellB hb (by omega) k0,cellB hb (by omega) k1,cellB hb (by omega) k2,cellB hb (by omega) k3,cellB hb (by omega) k4,cellB hb (by omega) k5,cellB hb (by omega) k6,cellB hb (by omega) k7,cellB hb (by omega) k8,cellB hb (by omega) k9,cellB hb (by omega) k10,by omega⟩
  have KS : ∀ (A : World) (x0 x1 x2 x3 : Value),(fun w' : World => w'.cell? ⟨B,0,none⟩ = some (.slice (some ⟨b,o,none⟩) 3 c) ∧ w'.cell? ⟨b,o + i,none⟩ = some (.slice (some ⟨ba,oa,none⟩) 3 da) ∧ w'.cell? ⟨b,o + j,none⟩ = some (.slice (some ⟨bb,ob,none⟩) 3 db) ∧ w'.cell? ⟨ba,oa + j * 4,none⟩ = some (.bool xg) ∧ w'.cell? ⟨ba,oa + j * 4 + 1,none⟩ = some (.slice xp xn xc) ∧ w'.cell? ⟨ba,oa + j * 4 + 2,none⟩ = some (.bool xh) ∧ w'.cell? ⟨ba,oa + j * 4 + 3,none⟩ = some (.slice xo xm xe) ∧ w'.cell? ⟨bb,ob + i * 4,none⟩ = some (.bool yg) ∧ w'.cell? ⟨bb,ob + i * 4 + 1,none⟩ = some (.slice yp yn yc) ∧ w'.cell? ⟨bb,ob + i * 4 + 2,none⟩ = some (.bool yh) ∧ w'.cell? ⟨bb,ob + i * 4 + 3,none⟩ = some (.slice yo ym ye) ∧ w.heap.size < w'.heap.size) A → (fun w' : World => w'.cell? ⟨B,0,none⟩ = some (.slice (some ⟨b,o,none⟩) 3 c) ∧ w'.cell? ⟨b,o + i,none⟩ = some (.slice (some ⟨ba,oa,none⟩) 3 da) ∧ w'.cell? ⟨b,o + j,none⟩ = some (.slice (some ⟨bb,ob,none⟩) 3 db) ∧ w'.cell? ⟨ba,oa + j * 4,none⟩ = some (.bool xg) ∧ w'.cell? ⟨ba,oa + j * 4 + 1,none⟩ = some (.slice xp xn xc) ∧ w'.cell? ⟨ba,oa + j * 4 + 2,none⟩ = some (.bool xh) ∧ w'.cell? ⟨ba,oa + j * 4 + 3,none⟩ = some (.slice xo xm xe) ∧ w'.cell? ⟨bb,ob + i * 4,none⟩ = some (.bool yg) ∧ w'.cell? ⟨bb,ob + i * 4 + 1,none⟩ = some (.slice yp yn yc) ∧ w'.cell? ⟨bb,ob + i * 4 + 2,none⟩ = some (.bool yh) ∧ w'.cell? ⟨bb,ob + i * 4 + 3,none⟩ = some (.slice yo ym ye) ∧ w.heap.size < w'.heap.size) ((((A.setCell ⟨w.heap.size,0,none⟩ x0).setCell ⟨w.heap.size,1,none⟩ x1).setCell ⟨w.heap.size,2,none⟩ x2).setCell ⟨w.heap.size,3,none⟩ x3) := by
    rintro A x0 x1 x2 x3 ⟨k0,k1,k2,k3,k4,k5,k6,k7,k8,k9,k10,k11⟩
    have far : ∀ (b o : Nat) (v : Value),b < w.heap.size → A.cell? ⟨b,o,none⟩ = some v → ((((A.setCell ⟨w.heap.size,0,none⟩ x0).setCell ⟨w.heap.size,1,none⟩ x1).setCell ⟨w.heap.size,2,none⟩ x2).setCell ⟨w.heap.size,3,none⟩ x3).cell? ⟨b,o,none⟩ = some v := by
      intro b o v hb hc
      have hne : w.heap.size ≠ b := by omega
      rw [World.cell?_setCell_far _ _ _ _ (by simpa using hne),World.cell?_setCell_far _ _ _ _ (by simpa using hne),World.cell?_setCell_far _ _ _ _ (by simpa using hne),World.cell?_setCell_far _ _ _ _ (by simpa using hne)]
      exact hc
    exact ⟨far _ _ _ hBl k0,far _ _ _ hl k1,far _ _ _ hl k2,far _ _ _ hal k3,far _ _ _ hal k4,far _ _ _ hal k5,far _ _ _ hal k6,far _ _ _ hbl k7,far _ _ _ hbl k8,far _ _ _ hbl k9,far _ _ _ hbl k10,by simpa using k11⟩
  have hz0 : Bx (w.alloc (.cells #[.bool false,.slice none 0 0,.bool false,.slice none 0 0] 30)) w.heap.size [.bool false,.slice none 0 0,.bool false,.slice none 0 0] := by have := Bx.new w [.bool false,.slice none 0 0,.bool false,.slice none 0 0] 30;simpa using this
  have HD := Lib.hid (subQ_any _ _ _ _ _ (hx.below hW).drew (hy.below hW).drew (by omega) (by omega))
  have hB0 := hW.drew
  have hi' : (0 : Int) ≤ (i : Int) := by omega
  have hj' : (0 : Int) ≤ (j : Int) := by omega
  have hi3 : (i : Int) < 3 := by omega
  have hj3 : (j : Int) < 3 := by omega
  clear hB ca cb x0 x1 x2 x3 y0 y1 y2 y3
  go_enter Tryz.func55,Tryz.ntmps55
  go_wp2_with fail
  have tk1 : True := trivial
  go_region_held3 (fun w' : World => w'.cell? ⟨B,0,none⟩ = some (.slice (some ⟨b,o,none⟩) 3 c) ∧ w'.cell? ⟨b,o + i,none⟩ = some (.slice (some ⟨ba,oa,none⟩) 3 da) ∧ w'.cell? ⟨b,o + j,none⟩ = some (.slice (some ⟨bb,ob,none⟩) 3 db) ∧ w'.cell? ⟨ba,oa + j * 4,none⟩ = some (.bool xg) ∧ w'.cell? ⟨ba,oa + j * 4 + 1,none⟩ = some (.slice xp xn xc) ∧ w'.cell? ⟨ba,oa + j * 4 + 2,none⟩ = some (.bool xh) ∧ w'.cell? ⟨ba,oa + j * 4 + 3,none⟩ = some (.slice xo xm xe) ∧ w'.cell? ⟨bb,ob + i * 4,none⟩ = some (.bool yg) ∧ w'.cell? ⟨bb,ob + i * 4 + 1,none⟩ = some (.slice yp yn yc) ∧ w'.cell? ⟨bb,ob + i * 4 + 2,none⟩ = some (.bool yh) ∧ w'.cell? ⟨bb,ob + i * 4 + 3,none⟩ = some (.slice yo ym ye) ∧ w.heap.size < w'.heap.size) (first | with_reducible exact S0 | with_reducible exact KK _ _ (by assumption) (by assumption) | with_reducible exact KS _ _ _ _ _ (by assumption) | (simp;done))
    (first
      | (((have := tk1;clear tk1;(with_reducible refine HD.out.mono ?_);rintro x w1 ⟨v1,rfl,hi1,hb1⟩;obtain ⟨g1,p1,n1,c1,h1,o1,m1,e1,rfl⟩ := hi1.form;have hx1 := hz0.drew.to hb1;have d0 := hx1.c0;have d1 := hx1.c1;have d2 := hx1.c2;have d3 := hx1.c3;have f0 := hx1.f0;have f1 := hx1.f1;have f2 := hx1.f2;have f3 := hx1.f3)))
    )
  go_wp2_with fail
  exact bodyPost_ret (v := .agg #[.bool g1,.slice p1 n1 c1,.bool h1,.slice o1 m1 e1]) (by simp [results,Tryz.results55,go_sem,d0,d1,d2,d3,f0,f1,f2,f3]) rfl ⟨_,rfl,hi1.sets4 hx1 rfl rfl rfl rfl _ _ _ _,Below.sets4 (Below.tr hB0 hb1) (b := w.heap.size) (Nat.le_refl _) _ _ _ _⟩
end Go.Proofs.YtidfgdchcpmnfaaGreat
namespace Go.Proofs.YtidfgdchcpmnfaaGreat
open Go.RowKit
set_option maxRecDepth 100000
set_option maxHeartbeats 8000000
set_option linter.unusedSimpArgs false
set_option linter.unusedVariables false
def omSum (s : Nat → Int) (e : Nat → Nat → Rat) : Nat → Rat
  | 0 => ((1 : Int) : Rat)
  | k + 1 => omSum s e k + ((s k : Int) : Rat) * e k k
theorem omSum_rsz {s : Nat → Int} {e : Nat → Nat → Rat} {K : Nat} (hs : ∀ k,k < 3 → rsz ((s k : Int) : Rat) ≤ 1) (he : ∀ k,k < 3 → rsz (e k k) ≤ K) : ∀ k,k ≤ 3 → rsz (omSum s e k) ≤ k * (K + 2) + 1
  | 0,_ => by
    show rsz ((1 : Int) : Rat) ≤ _
    have : rsz ((1 : Int) : Rat) ≤ 1 := by decide +kernel
    omega
  | k + 1,hk => by
    have ih := omSum_rsz hs he k (by omega)
    have a := rsz_mul ((s k : Int) : Rat) (e k k)
    have b := rsz_add (omSum s e k) (((s k : Int) : Rat) * e k k)
    have c := hs k (by omega)
    have d := he k (by omega)
    show rsz (omSum s e k + ((s k : Int) : Rat) * e k k) ≤ _
    rw [Nat.succ_mul]
    omega
theorem index3_0 : ∀ (a b c : Value) (w : World),Sem.run Tryz.prog (Instr.index 68 (.agg #[a,b,c]) (.int .i64 0)) w = .ok a w := fun a b c w => by kernel_rfl
theorem index3_1 : ∀ (a b c : Value) (w : World),Sem.run Tryz.prog (Instr.index 68 (.agg #[a,b,c]) (.int .i64 1)) w = .ok b w := fun a b c w => by kernel_rfl
theorem index3_2 : ∀ (a b c : Value) (w : World),Sem.run Tryz.prog (Instr.index 68 (.agg #[a,b,c]) (.int .i64 2)) w = .ok c w := fun a b c w => by kernel_rfl
theorem index3_any (s : Nat → Int) {k : Nat} (hk : k < 3) : ∀ w : World,Sem.run Tryz.prog (Instr.index 68 (.agg #[.int .i64 (s 0),.int .i64 (s 1),.int .i64 (s 2)]) (.int .i64 (k : Nat))) w = .ok (.int .i64 (s k)) w := fun w => by
  have : k = 0 ∨ k = 1 ∨ k = 2 := by omega
  rcases this with rfl | rfl | rfl
  · exact index3_0 _ _ _ w
  · exact index3_1 _ _ _ w
  · exact index3_2 _ _ _ w
theorem omSum_any (B b o c K : Nat) (s : Nat → Int) (e : Nat → Nat → Rat) (w : World) (hcB : w.cell? ⟨B,0,none⟩ = some (.slice (some ⟨b,o,none⟩) 3 c)) (hBl : B < w.heap.size) (h : MatQ w (.slice (some ⟨b,o,none⟩) 3 c) 3 3 K e) (hK : K ≤ 10000000) (hs1 : ∀ k,k < 3 → s k = 1 ∨ s k = -1) :
    Calls Tryz.prog 50 #[.agg #[.int .i64 (s 0),.int .i64 (s 1),.int .i64 (s 2)],.pointer (some ⟨B,0,none⟩)] w (GQ (omSum s e 3) w) := by
  obtain ⟨_,_,he,hf1,hf2⟩ := h.form
  cases he
  have HCB := Lib.hid hcB
  have hmix : Tryz.prog.follows .mixedOrders = true := by kernel_rfl
  have hsz : ∀ k,k < 3 → rsz ((s k : Int) : Rat) ≤ 1 := fun k hk => by rcases hs1 k hk with e | e <;> rw [e] <;> decide +kernel
  have HS1 := Lib.hid hs1
  have HSZ := Lib.hid hsz
  have HSUM : Hid (∀ k,k ≤ 3 → rsz (omSum s e k) ≤ 30000007) := Lib.hid (fun k hk => Nat.le_trans (omSum_rsz hsz (fun k hk => h.rsz hk hk) k hk) (by have : k * (K + 2) ≤ 3 * 10000002 := Nat.mul_le_mul hk (by omega);omega))
  clear hcB hs1 hsz
  have hB_0 : Below w.heap.size w w := Below.refl _ _
  go_enter Tryz.func50,Tryz.ntmps50
  go_wp2_with fail
  (with_reducible refine (wholeQ_any _ _ (by omega) (by omega)).mono ?_)
  rintro e w1 ⟨v1,rfl,hi1,hb1⟩
  obtain ⟨g1,p1,n1,c1,h1,o1,m1,e1,rfl⟩ := hi1.form
  obtain ⟨hA1,b1,d1⟩ := bx2 w rfl [.int .i64 (s 0),.int .i64 (s 1),.int .i64 (s 2)] 68 [.bool false,.slice none 0 0,.bool false,.slice none 0 0] 30
  have q0_1 := (b1.to hb1)
  have j1 := q0_1.c0
  have k1 := q0_1.c1
  have l1 := q0_1.c2
  have h2 := (q0_1).1
  have q1_1 := (d1.to hb1)
  have i2 := (q1_1).1
  obtain ⟨hA2,i1⟩ := bx1 w1 rfl [.bool g1,.slice p1 n1 c1,.bool h1,.slice o1 m1 e1] 30
  have y0 := (Below.tr (Below.tr hB_0 hA1) hb1)
  go_wp2_with fail
  have hD1 : w.heap.size + 1 < w1.heap.size := by have a1 := hb1.size;simp only [World.size_alloc] at a1;omega
  go_loopw [9,5,6,10,11,12,13,14,15,16,17,18,19,20,21,22,23,24,25] (fun i _ _ _ _ _ _ _ _ _ _ _ _ _ _ _ _ _ _ wr => ∃ (k : Nat) (sg sh : Bool) (sp so : Option Addr) (sn sc sm se : Nat),k ≤ 3 ∧ i = .int .i64 (k : Nat) ∧ Bx wr (w.heap.size + 1) [.bool false,.slice none 0 0,.bool false,.slice none 0 0] ∧ Bx wr w1.heap.size [.bool sg,.slice sp sn sc,.bool sh,.slice so sm se] ∧ RQ wr (.agg #[.bool sg,.slice sp sn sc,.bool sh,.slice so sm se]) (omSum s e k) ∧ Below w.heap.size w wr) (fun i _ _ _ _ _ _ _ _ _ _ _ _ _ _ _ _ _ _ _ => 3 - (intOf i).toNat)
  case atStart => exact ⟨0,_,_,_,_,_,_,_,_,by omega,rfl,(q1_1.to hA2),i1,(hi1.below hA2),(Below.tr y0 hA2)⟩
  case round =>
    obtain ⟨k,sg,sh,sp,so,sn,sc,sm,se,hk,rfl,hqr,hqs,hs,hB⟩ := hrel
    have hlqs := hqs.1
    by_cases hlt : k < 3
    · have hkd : decide ((k : Int) < 3) = true := by simp;omega
      have hix := index3_any s hlt
      obtain ⟨_,_,qa,da,he,hl,ca,hra⟩ := h.at_ hlt
      cases he
      obtain ⟨ba,oa,xg,xp,xn,xc,xh,xo,xm,xe,he,hal,x0,x1,x2,x3,hxq,hxn⟩ := hra.at_ hlt
      subst he
      obtain ⟨_,_,he,hf1,hf2⟩ := hra.form
      cases he
      have hx := hxq.rq
      have lx := hx.rsz_le hxn
      have hk0 : (0 : Int) ≤ (k : Int) := by omega
      have hk3 : (k : Int) < 3 := by omega
      have lw := HSZ.out k hlt
      have ls := HSUM.out k (by omega)
      have lm := rsz_mul ((s k : Int) : Rat) (e k k)
      have hsk : -1 ≤ s k ∧ s k ≤ 1 := by have := HS1.out k hlt;omega
      have hsk1 := hsk.1
      have hsk2 := hsk.2
      have hW : Below wr.heap.size wr wr := Below.refl _ _
      have hbB := Nat.lt_of_lt_of_le hBl hB.size
      have hbb := Nat.lt_of_lt_of_le hl hB.size
      have hba := Nat.lt_of_lt_of_le hal hB.size
      have zB := cellB hB hBl HCB.out
      have zb := cellB hB hl ca
      have z0 := cellB hB hal x0
      have z1 := cellB hB hal x1
      have z2 := cellB hB hal x2
      have z3 := cellB hB hal x3
      have hxw := hx.below hB
      clear x0 x1 x2 x3 ca hsk
      go_wp2_with fail
      have w0 := hqs
      have m0 := BC.of hW hbB zB
      have n0 := BC.of hW hbb zb
      have o0 := BC.of hW hba z0
      have p0 := BC.of hW hba z1
      have q0 := BC.of hW hba z2
      have t0 := BC.of hW hba z3
      have u0 := hs
      have v0 := hxw
      refine region_taill 12 13 rfl (by decide) hmix wr [some 13,some 14,some 15,some 16,some 17,some 18,some 19,some 20,some 21,some 22,some 23,some 24,none] [.rq (omSum s e k),.eq (.int .i64 (s k)),.rq (((s k) : Rat)),.eq (.slice (some ⟨b,o,none⟩) 3 c),.eq (.int .i64 (k : Nat)),.eq (.pointer (some ⟨b,o + k,none⟩)),.eq (.slice (some ⟨ba,oa,none⟩) 3 da),.eq (.int .i64 (k : Nat)),.eq (.pointer (some ⟨ba,oa + k * 4,none⟩)),.rq (e k k),.rq ((((s k) : Rat)) * (e k k)),.rq ((omSum s e k) + ((((s k) : Rat)) * (e k k))),.any] [0,1,2,3,4,5,6,7,8,9,10,11,12] (fun A => A.tmps[4]?.getD undef = .pointer (some ⟨w1.heap.size,0,none⟩) ∧ A.tmps[6]?.getD undef = .int .i64 (s k) ∧ A.tmps[1]?.getD undef = .pointer (some ⟨B,0,none⟩) ∧ A.tmps[5]?.getD undef = .int .i64 (k : Nat)) (by kernel_rfl) rfl ⟨rfl,rfl⟩ rfl rfl (by kernel_rfl) (by kernel_rfl) (Below.refl _ _).drew (fun A hA => ⟨(hA 4 (by decide)).trans rfl,(hA 6 (by decide)).trans rfl,(hA 1 (by decide)).trans rfl,(hA 5 (by decide)).trans rfl⟩) ?hend ?hstep
      case hend =>
        intro t wx11 hb11 hf
        have k0 : RQ wx11 _ _ := hf 11 (by omega) rfl rfl
        obtain ⟨d0,j0,h0,a0,e0,i0,g0,b0,l0⟩ := k0.form
        rw [l0] at k0
        clear hf
        simp only [putAll,List.getD_cons_zero,List.getD_cons_succ,List.toList_toArray,List.drop_succ_cons,List.drop_zero,l0]
        clear l0
        have hz11 := hb11.size
        (try simp only [World.size_alloc,World.size_setCell,World.size_drew] at hz11)
        clear v0 u0 t0 q0 p0 o0 n0 m0 w0
        have qs_1 := (hqs.to hb11)
        obtain ⟨t1,b2,u1,d2,y1,e2,a2,g2⟩ := qs_1.cf4
        have qr_1 := (hqr.to hb11)
        have hB_1 := (Below.tr hB hb11)
        go_wp2_with fail
        go_roundw
        case rel => exact ⟨k + 1,_,_,_,_,_,_,_,_,by omega,by go_num,(qr_1.other4 (b := w1.heap.size) (by omega) (.bool d0) (.slice j0 h0 a0) (.bool e0) (.slice i0 g0 b0)),(qs_1.store4 (.bool d0) (.slice j0 h0 a0) (.bool e0) (.slice i0 g0 b0)),(k0.sets4 qs_1 rfl rfl rfl rfl (.bool d0) (.slice j0 h0 a0) (.bool e0) (.slice i0 g0 b0)),(Below.sets4 hB_1 (b := w1.heap.size) (by omega) (.bool d0) (.slice j0 h0 a0) (.bool e0) (.slice i0 g0 b0))⟩
        case measure => simp [intOf];omega
      case hstep =>
        intro t w9 L i o A hEA hin hBf hf hi ho hdep
        obtain ⟨eo4,eo6,eo1,eo5⟩ := hEA
        obtain rfl | rfl | rfl | rfl | rfl | rfl | rfl | rfl | rfl | rfl | rfl | rfl : i = 0 ∨ i = 1 ∨ i = 2 ∨ i = 3 ∨ i = 4 ∨ i = 5 ∨ i = 6 ∨ i = 7 ∨ i = 8 ∨ i = 9 ∨ i = 10 ∨ i = 11 := by omega
        all_goals cases ho
        all_goals simp [Region.binds] at hdep
        · obtain ⟨hc0,hc1,hc2,hc3⟩ := (w0.to hBf).cs4
          exact .val _ (by simp [execOp,eo4,hc0,hc1,hc2,hc3,go_sem]) (u0.below hBf)
        · exact .val _ (by simp [execOp,eo6,go_sem]) rfl
        · have q1 : t 1 = _ := hf 1 rfl rfl (by simp [hdep])
          exact .call _ _ (by simp [execOp,hin 1 rfl,q1,go_sem]) (wholeQ_any _ _ (by omega) (by omega))
        · have hc0 := m0.at hBf
          exact .val _ (by simp [execOp,eo1,hc0,go_sem]) rfl
        · exact .val _ (by simp [execOp,eo5,go_sem]) rfl
        · have q3 : t 3 = _ := hf 3 rfl rfl (by simp [hdep])
          have q4 : t 4 = _ := hf 4 rfl rfl (by simp [hdep])
          exact .val _ (by simp [execOp,hin 3 rfl,q3,hin 4 rfl,q4,hk0,hk3,go_sem]) rfl
        · have hc1 := n0.at hBf
          have q5 : t 5 = _ := hf 5 rfl rfl (by simp [hdep])
          exact .val _ (by simp [execOp,hin 5 rfl,q5,hc1,go_sem]) rfl
        · exact .val _ (by simp [execOp,eo5,go_sem]) rfl
        · have q6 : t 6 = _ := hf 6 rfl rfl (by simp [hdep])
          have q7 : t 7 = _ := hf 7 rfl rfl (by simp [hdep])
          exact .val _ (by simp [execOp,hin 6 rfl,q6,hin 7 rfl,q7,hk0,hk3,go_sem]) rfl
        · have hc2 := o0.at hBf
          have hc3 := p0.at hBf
          have hc4 := q0.at hBf
          have hc5 := t0.at hBf
          have q8 : t 8 = _ := hf 8 rfl rfl (by simp [hdep])
          exact .val _ (by simp [execOp,hin 8 rfl,q8,hc2,hc3,hc4,hc5,go_sem]) (v0.below hBf)
        · have kf2 := hf 2 rfl rfl (by simp [hdep])
          have kf9 := hf 9 rfl rfl (by simp [hdep])
          exact .call _ _ (by simp [execOp,hin 2 rfl,hin 9 rfl,go_sem]) (mulQ_any _ _ _ _ _ kf2 kf9 (by omega) (by omega))
        · have kf0 := hf 0 rfl rfl (by simp [hdep])
          have kf10 := hf 10 rfl rfl (by simp [hdep])
          exact .call _ _ (by simp [execOp,hin 0 rfl,hin 10 rfl,go_sem]) (addQ_any _ _ _ _ _ kf0 kf10 (by omega) (by omega))
    · have he : k = 3 := by omega
      subst he
      have s0 := hqs.c0
      have s1 := hqs.c1
      have s2 := hqs.c2
      have s3 := hqs.c3
      have r0 := hqr.c0
      have r1 := hqr.c1
      have r2 := hqr.c2
      have r3 := hqr.c3
      have f0 := hqr.f0
      have f1 := hqr.f1
      have f2 := hqr.f2
      have f3 := hqr.f3
      go_wp2_with fail
      exact bodyPost_ret (v := .agg #[.bool sg,.slice sp sn sc,.bool sh,.slice so sm se]) (by simp [results,Tryz.results50,go_sem,r0,r1,r2,r3,f0,f1,f2,f3]) rfl ⟨_,rfl,hs.sets4 hqr rfl rfl rfl rfl _ _ _ _,Below.sets4 hB (b := w.heap.size + 1) (by omega) _ _ _ _⟩
end Go.Proofs.YtidfgdchcpmnfaaGreat
