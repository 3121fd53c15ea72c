/-
  Lemmas for the statements about rotations, part 6 of 51.
-/
import Derived.Deep.RegionHeld3
import Derived.Test.YtidfgdchcpmnfaaGreatZb05
namespace Go.Proofs.YtidfgdchcpmnfaaGreat
open Go.RowKit
set_option maxRecDepth 100000
set_option maxHeartbeats 2000000
set_option linter.unusedSimpArgs false
set_option linter.unusedVariables false
theorem sg_any (b : Bool) (n : Nat) : (sg b n).natAbs = n := by cases b <;> simp [sg]
theorem abs_any (v : Value) (x : Int) (w : World) (hv : Raw w v x) (hl : isz x ≤ 1000000000) :
    Calls Tryz.prog 131 #[v] w (GInt (x.natAbs : Nat) w) := by
  obtain ⟨b,p,n,c,rfl⟩ := hv.form
  have HX : Hid (sg false (val (dig x.natAbs)) = (x.natAbs : Nat)) := by unfold Hid;rw [val_dig];rfl
  have hB_0 : Below w.heap.size w w := Below.refl _ _
  have hv_1 := hv.alloc (.cells #[.bool b,.slice p n c] 28)
  have hB_1 := Below.alloc hB_0 hB_0.size (.cells #[.bool b,.slice p n c] 28)
  clear hB_0
  have q_1 : Bx (w.alloc (.cells #[.bool b,.slice p n c] 28)) (w.heap.size) [.bool b,.slice p n c] := by
    have := Bx.new w [.bool b,.slice p n c] 28
    simpa using this
  have hv_2 := hv_1.alloc (.cells #[.bool false,.slice none 0 0] 28)
  have hB_2 := Below.alloc hB_1 hB_1.size (.cells #[.bool false,.slice none 0 0] 28)
  have q_2 := q_1.alloc (.cells #[.bool false,.slice none 0 0] 28)
  clear hv_1 hB_1 q_1
  have r_2 : Bx ((w.alloc (.cells #[.bool b,.slice p n c] 28)).alloc (.cells #[.bool false,.slice none 0 0] 28)) (w.heap.size + 1) [.bool false,.slice none 0 0] := by
    have := Bx.new (w.alloc (.cells #[.bool b,.slice p n c] 28)) [.bool false,.slice none 0 0] 28
    simpa using this
  have e0 := q_2.c0
  have g0 := q_2.c1
  go_enter Tryz.func131,Tryz.ntmps131
  go_wp2_with fail
  refine (groups_any _ x _ hv_2).mono ?_
  rintro e w1 ⟨s1,rfl,hs1,hb1⟩
  have hv_3 := hv_2.below hb1
  have hB_3 := hB_2.trans (hb1.mono hB_2.size)
  have q_3 := q_2.to hb1
  have r_3 := r_2.to hb1
  clear hv_2 hB_2 q_2 r_2
  go_wp2_with fail
  refine (clone_any _ _ _ hs1 hl).mono ?_
  rintro e w2 ⟨s2,rfl,ho2,hb2⟩
  have hv_4 := hv_3.below hb2
  have hB_4 := hB_3.trans (hb2.mono hB_3.size)
  have q_4 := q_3.to hb2
  have r_4 := r_3.to hb2
  have hs_4 := hs1.below hb2
  clear hv_3 hB_3 q_3 r_3 hs1
  have hs2 := Rd.of_owns ho2
  go_wp2_with fail
  refine (made_any _ _ _ _ hs2 (dig_low _)).mono ?_
  rintro e w3 ⟨s3,rfl,hi3,hb3⟩
  have hv_5 := hv_4.below hb3
  have hB_5 := hB_4.trans (hb3.mono hB_4.size)
  have q_5 := q_4.to hb3
  have r_5 := r_4.to hb3
  have hs_5 := hs_4.below hb3
  have d0 := hs2.below hb3
  clear hv_4 hB_4 q_4 r_4 hs_4
  obtain ⟨g3,p3,n3,c3,rfl⟩ := hi3.form
  have a0 := r_5.c0
  have h0 := r_5.f0
  have b0 := r_5.c1
  have i0 := r_5.f1
  go_wp2_with fail
  exact bodyPost_ret (v := .agg #[.bool g3,.slice p3 n3 c3]) (by simp [results,Tryz.results131,go_sem, *]) rfl ⟨_,rfl,by rw [← HX.out];exact hi3.box2 a0 b0 _ _,below_box2 hB_5 (by omega) _ _⟩
theorem sign_any (v : Value) (x : Int) (w : World) (hv : Raw w v x) :
    Calls Tryz.prog 117 #[v] w fun e w' => e = .returned (.int .i64 x.sign) ∧ Below w.heap.size w w' := by
  obtain ⟨b,p,n,c,rfl⟩ := hv.form
  have hB_0 : Below w.heap.size w w := Below.refl _ _
  have hv_1 := hv.alloc (.cells #[.bool b,.slice p n c] 28)
  have hB_1 := Below.alloc hB_0 hB_0.size (.cells #[.bool b,.slice p n c] 28)
  clear hB_0
  have q_1 : Bx (w.alloc (.cells #[.bool b,.slice p n c] 28)) (w.heap.size) [.bool b,.slice p n c] := by
    have := Bx.new w [.bool b,.slice p n c] 28
    simpa using this
  have d0 := q_1.c0
  have e0 := q_1.c1
  have HS := Lib.hid (fun h : x ≠ 0 => hv.sign h)
  by_cases hx : x = 0
  · have hl0 : (dig x.natAbs).length = 0 := by subst hx;simp [dig_zero]
    have HV := Lib.hid hx
    clear hx
    go_enter Tryz.func117,Tryz.ntmps117
    go_wp2_with fail
    refine (groups_any _ x _ hv_1).mono ?_
    rintro e w1 ⟨s1,rfl,hs1,hb1⟩
    have hv_2 := hv_1.below hb1
    have hB_2 := hB_1.trans (hb1.mono hB_1.size)
    have q_2 := q_1.to hb1
    clear hv_1 hB_1 q_1
    obtain ⟨p1,c1,rfl,hc1,hc2⟩ := hs1.form
    rw [hl0]
    go_wp2_with fail
    go_ret
    exact ⟨by rw [HV.out];rfl,hB_2⟩
  · have hb : b = decide (x < 0) := HS.out hx
    have hl0 : 0 < (dig x.natAbs).length := by
      rcases Nat.eq_zero_or_pos (dig x.natAbs).length with h | h
      · have := (dig_eq_nil (n := x.natAbs)).1 (List.eq_nil_of_length_eq_zero h)
        omega
      · exact h
    by_cases hn : x < 0
    · have hbt : b = true := by rw [hb];simpa using hn
      have HV := Lib.hid (And.intro hx hn)
      clear hx hn hb
      subst hbt
      go_enter Tryz.func117,Tryz.ntmps117
      go_wp2_with fail
      refine (groups_any _ x _ hv_1).mono ?_
      rintro e w1 ⟨s1,rfl,hs1,hb1⟩
      have hv_2 := hv_1.below hb1
      have hB_2 := hB_1.trans (hb1.mono hB_1.size)
      have q_2 := q_1.to hb1
      clear hv_1 hB_1 q_1
      obtain ⟨p1,c1,rfl,hc1,hc2⟩ := hs1.form
      have a0 := q_2.c0
      have b0 := q_2.c1
      go_wp2_with fail
      go_ret
      exact ⟨by rw [Int.sign_eq_neg_one_of_neg HV.out.2];rfl,hB_2⟩
    · have hbt : b = false := by rw [hb];simpa using hn
      have HV := Lib.hid (And.intro hx hn)
      clear hx hn hb
      subst hbt
      go_enter Tryz.func117,Tryz.ntmps117
      go_wp2_with fail
      refine (groups_any _ x _ hv_1).mono ?_
      rintro e w1 ⟨s1,rfl,hs1,hb1⟩
      have hv_2 := hv_1.below hb1
      have hB_2 := hB_1.trans (hb1.mono hB_1.size)
      have q_2 := q_1.to hb1
      clear hv_1 hB_1 q_1
      obtain ⟨p1,c1,rfl,hc1,hc2⟩ := hs1.form
      have a0 := q_2.c0
      have b0 := q_2.c1
      go_wp2_with fail
      go_ret
      exact ⟨by rw [Int.sign_eq_one_of_pos (by have := HV.out;omega)];rfl,hB_2⟩
theorem add_any (v u : Value) (x y : Int) (w : World) (hv : Raw w v x) (hu : Raw w u y) (hl : isz x ≤ 1000000000) (hl2 : isz y ≤ 1000000000) :
    Calls Tryz.prog 107 #[v,u] w (GInt (x + y) w) := by
  obtain ⟨b,p,n,c,rfl⟩ := hv.form
  obtain ⟨d,o,m,e,rfl⟩ := hu.form
  have HX : Hid (sg b (val (dig x.natAbs)) + sg d (val (dig y.natAbs)) = x + y) := by unfold Hid;rw [val_dig,val_dig,sg_of hv,sg_of hu]
  have hB_0 : Below w.heap.size w w := Below.refl _ _
  have hv_1 := hv.alloc (.cells #[.bool b,.slice p n c] 28)
  have hu_1 := hu.alloc (.cells #[.bool b,.slice p n c] 28)
  have hB_1 := Below.alloc hB_0 hB_0.size (.cells #[.bool b,.slice p n c] 28)
  clear hB_0
  have q_1 : Bx (w.alloc (.cells #[.bool b,.slice p n c] 28)) (w.heap.size) [.bool b,.slice p n c] := by
    have := Bx.new w [.bool b,.slice p n c] 28
    simpa using this
  have hv_2 := hv_1.alloc (.cells #[.bool d,.slice o m e] 28)
  have hu_2 := hu_1.alloc (.cells #[.bool d,.slice o m e] 28)
  have hB_2 := Below.alloc hB_1 hB_1.size (.cells #[.bool d,.slice o m e] 28)
  have q_2 := q_1.alloc (.cells #[.bool d,.slice o m e] 28)
  clear hv_1 hu_1 hB_1 q_1
  have t_2 : Bx ((w.alloc (.cells #[.bool b,.slice p n c] 28)).alloc (.cells #[.bool d,.slice o m e] 28)) (w.heap.size + 1) [.bool d,.slice o m e] := by
    have := Bx.new (w.alloc (.cells #[.bool b,.slice p n c] 28)) [.bool d,.slice o m e] 28
    simpa using this
  have hv_3 := hv_2.alloc (.cells #[.bool false,.slice none 0 0] 28)
  have hu_3 := hu_2.alloc (.cells #[.bool false,.slice none 0 0] 28)
  have hB_3 := Below.alloc hB_2 hB_2.size (.cells #[.bool false,.slice none 0 0] 28)
  have q_3 := q_2.alloc (.cells #[.bool false,.slice none 0 0] 28)
  have t_3 := t_2.alloc (.cells #[.bool false,.slice none 0 0] 28)
  clear hv_2 hu_2 hB_2 q_2 t_2
  have r_3 : Bx (((w.alloc (.cells #[.bool b,.slice p n c] 28)).alloc (.cells #[.bool d,.slice o m e] 28)).alloc (.cells #[.bool false,.slice none 0 0] 28)) (w.heap.size + 2) [.bool false,.slice none 0 0] := by
    have := Bx.new ((w.alloc (.cells #[.bool b,.slice p n c] 28)).alloc (.cells #[.bool d,.slice o m e] 28)) [.bool false,.slice none 0 0] 28
    simpa using this
  have hv_4 := hv_3.drew
  have hu_4 := hu_3.drew
  have hB_4 := hB_3.drew
  have q_4 := q_3.drew
  have t_4 := t_3.drew
  have r_4 := r_3.drew
  clear hv_3 hu_3 hB_3 q_3 t_3 r_3
  have S0 : (fun w' : World => w'.cell? ⟨w.heap.size,0,none⟩ = some (.bool b) ∧ w'.cell? ⟨w.heap.size,1,none⟩ = some (.slice p n c) ∧ w'.cell? ⟨w.heap.size + 1,0,none⟩ = some (.bool d) ∧ w'.cell? ⟨w.heap.size + 1,1,none⟩ = some (.slice o m e) ∧ w.heap.size + 1 < w'.heap.size) (((w.alloc (.cells #[.bool b,.slice p n c] 28)).alloc (.cells #[.bool d,.slice o m e] 28)).alloc (.cells #[.bool false,.slice none 0 0] 28)).drew := ⟨q_4.c0,q_4.c1,t_4.c0,t_4.c1,t_4.1⟩
  have K : ∀ A B : World,(fun w' : World => w'.cell? ⟨w.heap.size,0,none⟩ = some (.bool b) ∧ w'.cell? ⟨w.heap.size,1,none⟩ = some (.slice p n c) ∧ w'.cell? ⟨w.heap.size + 1,0,none⟩ = some (.bool d) ∧ w'.cell? ⟨w.heap.size + 1,1,none⟩ = some (.slice o m e) ∧ w.heap.size + 1 < w'.heap.size) A → Below A.heap.size A B → (fun w' : World => w'.cell? ⟨w.heap.size,0,none⟩ = some (.bool b) ∧ w'.cell? ⟨w.heap.size,1,none⟩ = some (.slice p n c) ∧ w'.cell? ⟨w.heap.size + 1,0,none⟩ = some (.bool d) ∧ w'.cell? ⟨w.heap.size + 1,1,none⟩ = some (.slice o m e) ∧ w.heap.size + 1 < w'.heap.size) B := by
    rintro A B ⟨h0,h1,h2,h3,h4⟩ hb
    have hs := hb.size
    exact ⟨by rw [(bcell hb).1 _ _ (by omega)];exact h0,by rw [(bcell hb).1 _ _ (by omega)];exact h1,by rw [(bcell hb).1 _ _ (by omega)];exact h2,by rw [(bcell hb).1 _ _ (by omega)];exact h3,by omega⟩
  have KS0 : ∀ (A : World) (x0 x1 : Value),(fun w' : World => w'.cell? ⟨w.heap.size,0,none⟩ = some (.bool b) ∧ w'.cell? ⟨w.heap.size,1,none⟩ = some (.slice p n c) ∧ w'.cell? ⟨w.heap.size + 1,0,none⟩ = some (.bool d) ∧ w'.cell? ⟨w.heap.size + 1,1,none⟩ = some (.slice o m e) ∧ w.heap.size + 1 < w'.heap.size) A → (fun w' : World => w'.cell? ⟨w.heap.size,0,none⟩ = some (.bool b) ∧ w'.cell? ⟨w.heap.size,1,none⟩ = some (.slice p n c) ∧ w'.cell? ⟨w.heap.size + 1,0,none⟩ = some (.bool d) ∧ w'.cell? ⟨w.heap.size + 1,1,none⟩ = some (.slice o m e) ∧ w.heap.size + 1 < w'.heap.size) ((A.setCell ⟨w.heap.size + 2,0,none⟩ x0).setCell ⟨w.heap.size + 2,1,none⟩ x1) := by
    rintro A x0 x1 ⟨h0,h1,h2,h3,h4⟩
    simp [go_sem,h0,h1,h2,h3,h4]
  have tk1 : True := trivial
  have tk2 : True := trivial
  go_enter Tryz.func107,Tryz.ntmps107
  go_wp2_with fail
  go_region_held3 (fun w' : World => w'.cell? ⟨w.heap.size,0,none⟩ = some (.bool b) ∧ w'.cell? ⟨w.heap.size,1,none⟩ = some (.slice p n c) ∧ w'.cell? ⟨w.heap.size + 1,0,none⟩ = some (.bool d) ∧ w'.cell? ⟨w.heap.size + 1,1,none⟩ = some (.slice o m e) ∧ w.heap.size + 1 < w'.heap.size) (first | exact S0 | (simp;done) | exact K _ _ (by assumption) (by assumption) | exact KS0 _ _ _ (by assumption))
    (first
      | ((have := tk1;skip);clear tk1;go_at_call 119;refine (groups_any _ x _ hv_4).mono ?_;rintro e w1 ⟨s1,rfl,hs1,hb1⟩;have hv_5 := hv_4.below hb1;have hu_5 := hu_4.below hb1;have hB_5 := hB_4.trans (hb1.mono hB_4.size);have q_5 := q_4.to hb1;have t_5 := t_4.to hb1;have r_5 := r_4.to hb1;clear hv_4 hu_4 hB_4 q_4 t_4 r_4)
      | ((have := tk2;skip);clear tk2;go_at_call 119;refine (groups_any _ y _ hu_5).mono ?_;rintro e w2 ⟨s2,rfl,hs2,hb2⟩;have hv_6 := hv_5.below hb2;have hu_6 := hu_5.below hb2;have hB_6 := hB_5.trans (hb2.mono hB_5.size);have q_6 := q_5.to hb2;have t_6 := t_5.to hb2;have r_6 := r_5.to hb2;have hs_6 := hs1.below hb2;clear hv_5 hu_5 hB_5 q_5 t_5 r_5 hs1)
      | (go_at_call 150;refine (sum_any _ _ _ _ _ _ _ hs_6 hs2 (dig_canon _) (dig_canon _) hl hl2).mono ?_;rintro e w3 ⟨s3,rfl,hi3,hb3⟩;have hv_7 := hv_6.below hb3;have hu_7 := hu_6.below hb3;have hB_7 := hB_6.trans (hb3.mono hB_6.size);have q_7 := q_6.to hb3;have t_7 := t_6.to hb3;have r_7 := r_6.to hb3;have hs_7 := hs_6.below hb3;have d0 := hs2.below hb3;clear hv_6 hu_6 hB_6 q_6 t_6 r_6 hs_6;obtain ⟨g3,p3,n3,c3,rfl⟩ := hi3.form;have a0 := r_7.c0;have e0 := r_7.f0;have b0 := r_7.c1;have g0 := r_7.f1))
  go_wp2_with fail
  exact bodyPost_ret (v := .agg #[.bool g3,.slice p3 n3 c3]) (by simp [results,Tryz.results107,go_sem, *]) rfl ⟨_,rfl,by rw [← HX.out];exact hi3.box2 a0 b0 _ _,below_box2 hB_7 (by omega) _ _⟩
theorem mul_any (v u : Value) (x y : Int) (w : World) (hv : Raw w v x) (hu : Raw w u y) (hl : isz x ≤ 1000000000) (hl2 : isz y ≤ 1000000000) :
    Calls Tryz.prog 71 #[v,u] w (GInt (x * y) w) := by
  obtain ⟨b,p,n,c,rfl⟩ := hv.form
  obtain ⟨d,o,m,e,rfl⟩ := hu.form
  have HX : Hid (sg (b != d) (val (dig (val (dig x.natAbs) * val (dig y.natAbs)))) = x * y) := by
    have h1 := sg_of hv
    have h2 := sg_of hu
    unfold Hid;rw [val_dig,val_dig,val_dig]
    generalize x.natAbs = k at *
    generalize y.natAbs = l at *
    subst h1
    subst h2
    cases b <;> cases d <;> simp [sg,Int.neg_mul,Int.mul_neg]
  have hB_0 : Below w.heap.size w w := Below.refl _ _
  have hv_1 := hv.alloc (.cells #[.bool b,.slice p n c] 28)
  have hu_1 := hu.alloc (.cells #[.bool b,.slice p n c] 28)
  have hB_1 := Below.alloc hB_0 hB_0.size (.cells #[.bool b,.slice p n c] 28)
  clear hB_0
  have q_1 : Bx (w.alloc (.cells #[.bool b,.slice p n c] 28)) (w.heap.size) [.bool b,.slice p n c] := by
    have := Bx.new w [.bool b,.slice p n c] 28
    simpa using this
  have hv_2 := hv_1.alloc (.cells #[.bool d,.slice o m e] 28)
  have hu_2 := hu_1.alloc (.cells #[.bool d,.slice o m e] 28)
  have hB_2 := Below.alloc hB_1 hB_1.size (.cells #[.bool d,.slice o m e] 28)
  have q_2 := q_1.alloc (.cells #[.bool d,.slice o m e] 28)
  clear hv_1 hu_1 hB_1 q_1
  have t_2 : Bx ((w.alloc (.cells #[.bool b,.slice p n c] 28)).alloc (.cells #[.bool d,.slice o m e] 28)) (w.heap.size + 1) [.bool d,.slice o m e] := by
    have := Bx.new (w.alloc (.cells #[.bool b,.slice p n c] 28)) [.bool d,.slice o m e] 28
    simpa using this
  have hv_3 := hv_2.alloc (.cells #[.bool false,.slice none 0 0] 28)
  have hu_3 := hu_2.alloc (.cells #[.bool false,.slice none 0 0] 28)
  have hB_3 := Below.alloc hB_2 hB_2.size (.cells #[.bool false,.slice none 0 0] 28)
  have q_3 := q_2.alloc (.cells #[.bool false,.slice none 0 0] 28)
  have t_3 := t_2.alloc (.cells #[.bool false,.slice none 0 0] 28)
  clear hv_2 hu_2 hB_2 q_2 t_2
  have r_3 : Bx (((w.alloc (.cells #[.bool b,.slice p n c] 28)).alloc (.cells #[.bool d,.slice o m e] 28)).alloc (.cells #[.bool false,.slice none 0 0] 28)) (w.heap.size + 2) [.bool false,.slice none 0 0] := by
    have := Bx.new ((w.alloc (.cells #[.bool b,.slice p n c] 28)).alloc (.cells #[.bool d,.slice o m e] 28)) [.bool false,.slice none 0 0] 28
    simpa using this
  have hv_4 := hv_3.drew
  have hu_4 := hu_3.drew
  have hB_4 := hB_3.drew
  have q_4 := q_3.drew
  have t_4 := t_3.drew
  have r_4 := r_3.drew
  clear hv_3 hu_3 hB_3 q_3 t_3 r_3
  have S0 : (fun w' : World => w'.cell? ⟨w.heap.size,0,none⟩ = some (.bool b) ∧ w'.cell? ⟨w.heap.size,1,none⟩ = some (.slice p n c) ∧ w'.cell? ⟨w.heap.size + 1,0,none⟩ = some (.bool d) ∧ w'.cell? ⟨w.heap.size + 1,1,none⟩ = some (.slice o m e) ∧ w.heap.size + 1 < w'.heap.size) (((w.alloc (.cells #[.bool b,.slice p n c] 28)).alloc (.cells #[.bool d,.slice o m e] 28)).alloc (.cells #[.bool false,.slice none 0 0] 28)).drew := ⟨q_4.c0,q_4.c1,t_4.c0,t_4.c1,t_4.1⟩
  have K : ∀ A B : World,(fun w' : World => w'.cell? ⟨w.heap.size,0,none⟩ = some (.bool b) ∧ w'.cell? ⟨w.heap.size,1,none⟩ = some (.slice p n c) ∧ w'.cell? ⟨w.heap.size + 1,0,none⟩ = some (.bool d) ∧ w'.cell? ⟨w.heap.size + 1,1,none⟩ = some (.slice o m e) ∧ w.heap.size + 1 < w'.heap.size) A → Below A.heap.size A B → (fun w' : World => w'.cell? ⟨w.heap.size,0,none⟩ = some (.bool b) ∧ w'.cell? ⟨w.heap.size,1,none⟩ = some (.slice p n c) ∧ w'.cell? ⟨w.heap.size + 1,0,none⟩ = some (.bool d) ∧ w'.cell? ⟨w.heap.size + 1,1,none⟩ = some (.slice o m e) ∧ w.heap.size + 1 < w'.heap.size) B := by
    rintro A B ⟨h0,h1,h2,h3,h4⟩ hb
    have hs := hb.size
    exact ⟨by rw [(bcell hb).1 _ _ (by omega)];exact h0,by rw [(bcell hb).1 _ _ (by omega)];exact h1,by rw [(bcell hb).1 _ _ (by omega)];exact h2,by rw [(bcell hb).1 _ _ (by omega)];exact h3,by omega⟩
  have KS0 : ∀ (A : World) (x0 x1 : Value),(fun w' : World => w'.cell? ⟨w.heap.size,0,none⟩ = some (.bool b) ∧ w'.cell? ⟨w.heap.size,1,none⟩ = some (.slice p n c) ∧ w'.cell? ⟨w.heap.size + 1,0,none⟩ = some (.bool d) ∧ w'.cell? ⟨w.heap.size + 1,1,none⟩ = some (.slice o m e) ∧ w.heap.size + 1 < w'.heap.size) A → (fun w' : World => w'.cell? ⟨w.heap.size,0,none⟩ = some (.bool b) ∧ w'.cell? ⟨w.heap.size,1,none⟩ = some (.slice p n c) ∧ w'.cell? ⟨w.heap.size + 1,0,none⟩ = some (.bool d) ∧ w'.cell? ⟨w.heap.size + 1,1,none⟩ = some (.slice o m e) ∧ w.heap.size + 1 < w'.heap.size) ((A.setCell ⟨w.heap.size + 2,0,none⟩ x0).setCell ⟨w.heap.size + 2,1,none⟩ x1) := by
    rintro A x0 x1 ⟨h0,h1,h2,h3,h4⟩
    simp [go_sem,h0,h1,h2,h3,h4]
  have tk1 : True := trivial
  have tk2 : True := trivial
  go_enter Tryz.func71,Tryz.ntmps71
  go_wp2_with fail
  go_region_held3 (fun w' : World => w'.cell? ⟨w.heap.size,0,none⟩ = some (.bool b) ∧ w'.cell? ⟨w.heap.size,1,none⟩ = some (.slice p n c) ∧ w'.cell? ⟨w.heap.size + 1,0,none⟩ = some (.bool d) ∧ w'.cell? ⟨w.heap.size + 1,1,none⟩ = some (.slice o m e) ∧ w.heap.size + 1 < w'.heap.size) (first | exact S0 | (simp;done) | exact K _ _ (by assumption) (by assumption) | exact KS0 _ _ _ (by assumption))
    (first
      | ((have := tk1;skip);clear tk1;go_at_call 119;refine (groups_any _ x _ hv_4).mono ?_;rintro e w1 ⟨s1,rfl,hs1,hb1⟩;have hv_5 := hv_4.below hb1;have hu_5 := hu_4.below hb1;have hB_5 := hB_4.trans (hb1.mono hB_4.size);have q_5 := q_4.to hb1;have t_5 := t_4.to hb1;have r_5 := r_4.to hb1;clear hv_4 hu_4 hB_4 q_4 t_4 r_4)
      | ((have := tk2;skip);clear tk2;go_at_call 119;refine (groups_any _ y _ hu_5).mono ?_;rintro e w2 ⟨s2,rfl,hs2,hb2⟩;have hv_6 := hv_5.below hb2;have hu_6 := hu_5.below hb2;have hB_6 := hB_5.trans (hb2.mono hB_5.size);have q_6 := q_5.to hb2;have t_6 := t_5.to hb2;have r_6 := r_5.to hb2;have hs_6 := hs1.below hb2;clear hv_5 hu_5 hB_5 q_5 t_5 r_5 hs1)
      | (go_at_call 118;refine (times_any _ _ _ _ _ hs_6 hs2 (dig_low _) (dig_low _) hl hl2).mono ?_;rintro e w3 ⟨s3,rfl,hs3,hb3⟩;have hv_7 := hv_6.below hb3;have hu_7 := hu_6.below hb3;have hB_7 := hB_6.trans (hb3.mono hB_6.size);have q_7 := q_6.to hb3;have t_7 := t_6.to hb3;have r_7 := r_6.to hb3;have hs_7 := hs_6.below hb3;have a0 := hs2.below hb3;clear hv_6 hu_6 hB_6 q_6 t_6 r_6 hs_6;have hs3r := Rd.of_owns hs3)
      | (go_at_call 114;refine (made_any _ _ _ _ hs3r (dig_low _)).mono ?_;rintro e w4 ⟨s4,rfl,hi4,hb4⟩;have hv_8 := hv_7.below hb4;have hu_8 := hu_7.below hb4;have hB_8 := hB_7.trans (hb4.mono hB_7.size);have q_8 := q_7.to hb4;have t_8 := t_7.to hb4;have r_8 := r_7.to hb4;have hs_8 := hs_7.below hb4;have e0 := a0.below hb4;have g0 := hs3r.below hb4;clear hv_7 hu_7 hB_7 q_7 t_7 r_7 hs_7 a0 hs3r;obtain ⟨g4,p4,n4,c4,rfl⟩ := hi4.form;have b0 := r_8.c0;have i0 := r_8.f0;have d0 := r_8.c1;have j0 := r_8.f1))
  go_wp2_with fail
  exact bodyPost_ret (v := .agg #[.bool g4,.slice p4 n4 c4]) (by simp [results,Tryz.results71,go_sem, *]) rfl ⟨_,rfl,by rw [← HX.out];exact hi4.box2 b0 d0 _ _,below_box2 hB_8 (by omega) _ _⟩
end Go.Proofs.YtidfgdchcpmnfaaGreat
