/-
  Lemmas for the theorem vchords_holds, part 4 of 33.
-/
import Derived.Deep.RegionHeld3
import Derived.Test.YtidfgdchcpmnfaaGreatCd02
import Derived.Test.YtidfgdchcpmnfaaGreatCd03
namespace Go.Proofs.YtidfgdchcpmnfaaGreat
open Go.RowKit
set_option maxRecDepth 100000
set_option maxHeartbeats 800000
set_option linter.unusedSimpArgs false
set_option linter.unusedVariables false
theorem sum_any (neg oth : Bool) (s t : Value) (a b : List Nat) (w : World) (hs : Rd w s a) (ht : Rd w t b) (ha : Canon a) (hb : Canon b) (la : a.length ≤ 1000000000) (lb : b.length ≤ 1000000000) :
    Calls Tryz.prog 150 #[.bool neg,s,.bool oth,t] w (GInt (sg neg (val a) + sg oth (val b)) w) := by
  have q0 := Bx.new w [.bool false,.slice none 0 0] 28
  have hs1 := hs.alloc (.cells #[.bool false,.slice none 0 0] 28)
  have ht1 := ht.alloc (.cells #[.bool false,.slice none 0 0] 28)
  have hB0 : Below w.heap.size w (w.alloc (.cells #[.bool false,.slice none 0 0] 28)) := (Below.refl _ _).alloc (Nat.le_refl _) _
  by_cases he : neg = oth
  · subst he
    have hd : (neg == neg) = true := by simp
    have HX : Hid (sg neg (val (dig (val a + val b))) = sg neg (val a) + sg neg (val b)) := by unfold Hid;rw [val_dig];cases neg <;> simp [sg] <;> omega
    go_enter Tryz.func150,Tryz.ntmps150
    go_wp2_with fail
    refine (plus_any _ _ a b _ hs1 ht1 ha.1 hb.1 la lb).mono ?_
    rintro e w1 ⟨v1,rfl,ho1,hb1⟩
    go_wp2_with fail
    refine (made_any neg _ _ _ (Rd.of_owns ho1) (dig_low _)).mono ?_
    rw [HX.out]
    rintro e w2 ⟨v2,rfl,hi2,hb2⟩
    obtain ⟨g2,p2,n2,c2,rfl⟩ := hi2.form
    have q2 := (q0.to hb1).to hb2
    have r0 := q2.c0
    have r1 := q2.c1
    have f0 := q2.f0
    have f1 := q2.f1
    have hB : Below w.heap.size w w2 := (hB0.trans (hb1.mono (by simp))).trans (hb2.mono (by have := hb1.size;simp at this;omega))
    go_wp2_with fail
    exact bodyPost_ret (v := .agg #[.bool g2,.slice p2 n2 c2]) (by simp [results,Tryz.results150,go_sem,r0,r1]) rfl ⟨_,rfl,hi2.box2 r0 r1 _ _,below_box2 hB (Nat.le_refl _) _ _⟩
  · have hd : (neg == oth) = false := by simpa using he
    by_cases hle : val b ≤ val a
    · have HX : Hid (sg neg (val (dig (val a - val b))) = sg neg (val a) + sg oth (val b)) := by unfold Hid;rw [val_dig];cases neg <;> cases oth <;> simp [sg] at he ⊢ <;> omega
      have hlen : b.length ≤ a.length := by
        have := dig_length_mono hle
        rwa [dig_val ha,dig_val hb] at this
      have hc : 0 ≤ cmpI (val a) (val b) := by unfold cmpI;rw [if_neg (by omega)];split <;> omega
      have hdc : decide (0 ≤ cmpI (val a) (val b)) = true := by simpa using hc
      have HE := Lib.hid he
      clear he hc
      generalize hcv : cmpI (val a) (val b) = cv at hdc
      have HCV := Lib.hid hcv
      clear hcv
      go_enter Tryz.func150,Tryz.ntmps150
      go_wp2_with fail
      refine (compare_any _ _ a b _ hs1 ht1 ha hb).mono ?_
      rw [HCV.out]
      rintro e w1 ⟨rfl,hb1⟩
      go_wp2_with fail
      refine (minus_any _ _ a b _ (hs1.below hb1) (ht1.below hb1) ha.1 hb.1 la hlen hle).mono ?_
      rintro e w2 ⟨v2,rfl,ho2,hb2⟩
      go_wp2_with fail
      refine (made_any neg _ _ _ (Rd.of_owns ho2) (dig_low _)).mono ?_
      rw [HX.out]
      rintro e w3 ⟨v3,rfl,hi3,hb3⟩
      obtain ⟨g2,p2,n2,c2,rfl⟩ := hi3.form
      have q2 := ((q0.to hb1).to hb2).to hb3
      have r0 := q2.c0
      have r1 := q2.c1
      have f0 := q2.f0
      have f1 := q2.f1
      have hz1 := hb1.size
      have hz2 := hb2.size
      simp at hz1
      have hB : Below w.heap.size w w3 := ((hB0.trans (hb1.mono (by simp))).trans (hb2.mono (by omega))).trans (hb3.mono (by omega))
      go_wp2_with fail
      exact bodyPost_ret (v := .agg #[.bool g2,.slice p2 n2 c2]) (by simp [results,Tryz.results150,go_sem,r0,r1]) rfl ⟨_,rfl,hi3.box2 r0 r1 _ _,below_box2 hB (Nat.le_refl _) _ _⟩
    · have HX : Hid (sg oth (val (dig (val b - val a))) = sg neg (val a) + sg oth (val b)) := by unfold Hid;rw [val_dig];cases neg <;> cases oth <;> simp [sg] at he ⊢ <;> omega
      have hle' : val a ≤ val b := by omega
      have hlen : a.length ≤ b.length := by
        have := dig_length_mono hle'
        rwa [dig_val ha,dig_val hb] at this
      have hc : cmpI (val a) (val b) < 0 := by unfold cmpI;rw [if_pos (by omega)];omega
      have hdc : decide (0 ≤ cmpI (val a) (val b)) = false := by simpa using hc
      have HE := Lib.hid he
      clear he hc hle
      generalize hcv : cmpI (val a) (val b) = cv at hdc
      have HCV := Lib.hid hcv
      clear hcv
      go_enter Tryz.func150,Tryz.ntmps150
      go_wp2_with fail
      refine (compare_any _ _ a b _ hs1 ht1 ha hb).mono ?_
      rw [HCV.out]
      rintro e w1 ⟨rfl,hb1⟩
      go_wp2_with fail
      refine (minus_any _ _ b a _ (ht1.below hb1) (hs1.below hb1) hb.1 ha.1 lb hlen hle').mono ?_
      rintro e w2 ⟨v2,rfl,ho2,hb2⟩
      go_wp2_with fail
      refine (made_any oth _ _ _ (Rd.of_owns ho2) (dig_low _)).mono ?_
      rw [HX.out]
      rintro e w3 ⟨v3,rfl,hi3,hb3⟩
      obtain ⟨g2,p2,n2,c2,rfl⟩ := hi3.form
      have q2 := ((q0.to hb1).to hb2).to hb3
      have r0 := q2.c0
      have r1 := q2.c1
      have f0 := q2.f0
      have f1 := q2.f1
      have hz1 := hb1.size
      have hz2 := hb2.size
      simp at hz1
      have hB : Below w.heap.size w w3 := ((hB0.trans (hb1.mono (by simp))).trans (hb2.mono (by omega))).trans (hb3.mono (by omega))
      go_wp2_with fail
      exact bodyPost_ret (v := .agg #[.bool g2,.slice p2 n2 c2]) (by simp [results,Tryz.results150,go_sem,r0,r1]) rfl ⟨_,rfl,hi3.box2 r0 r1 _ _,below_box2 hB (Nat.le_refl _) _ _⟩
end Go.Proofs.YtidfgdchcpmnfaaGreat
namespace Go.Proofs.YtidfgdchcpmnfaaGreat
open Go.RowKit
set_option maxRecDepth 100000
set_option maxHeartbeats 2000000
set_option linter.unusedSimpArgs false
set_option linter.unusedVariables false
theorem abs_any (v : Value) (x : Int) (w : World) (hv : Raw w v x) (hl : isz x ≤ 1000000000) :
    Calls Tryz.prog 131 #[v] w (GInt (x.natAbs : Nat) w) := by
  obtain ⟨b,p,n,c,rfl⟩ := hv.form
  have HX : Hid (sg false (val (dig x.natAbs)) = (x.natAbs : Nat)) := by unfold Hid;rw [val_dig];rfl
  have hB_0 : Below w.heap.size w w := Below.refl _ _
  have hv_1 := hv.alloc (.cells #[.bool b,.slice p n c] 28)
  have hB_1 := Below.alloc hB_0 hB_0.size (.cells #[.bool b,.slice p n c] 28)
  clear hB_0
  have q_1 : Bx (w.alloc (.cells #[.bool b,.slice p n c] 28)) (w.heap.size) [.bool b,.slice p n c] := by
    have := Bx.new w [.bool b,.slice p n c] 28
    simpa using this
  have hv_2 := hv_1.alloc (.cells #[.bool false,.slice none 0 0] 28)
  have hB_2 := Below.alloc hB_1 hB_1.size (.cells #[.bool false,.slice none 0 0] 28)
  have q_2 := q_1.alloc (.cells #[.bool false,.slice none 0 0] 28)
  clear hv_1 hB_1 q_1
  have r_2 : Bx ((w.alloc (.cells #[.bool b,.slice p n c] 28)).alloc (.cells #[.bool false,.slice none 0 0] 28)) (w.heap.size + 1) [.bool false,.slice none 0 0] := by
    have := Bx.new (w.alloc (.cells #[.bool b,.slice p n c] 28)) [.bool false,.slice none 0 0] 28
    simpa using this
  have e0 := q_2.c0
  have g0 := q_2.c1
  go_enter Tryz.func131,Tryz.ntmps131
  go_wp2_with fail
  refine (groups_any _ x _ hv_2).mono ?_
  rintro e w1 ⟨s1,rfl,hs1,hb1⟩
  have hv_3 := hv_2.below hb1
  have hB_3 := hB_2.trans (hb1.mono hB_2.size)
  have q_3 := q_2.to hb1
  have r_3 := r_2.to hb1
  clear hv_2 hB_2 q_2 r_2
  go_wp2_with fail
  refine (clone_any _ _ _ hs1 hl).mono ?_
  rintro e w2 ⟨s2,rfl,ho2,hb2⟩
  have hv_4 := hv_3.below hb2
  have hB_4 := hB_3.trans (hb2.mono hB_3.size)
  have q_4 := q_3.to hb2
  have r_4 := r_3.to hb2
  have hs_4 := hs1.below hb2
  clear hv_3 hB_3 q_3 r_3 hs1
  have hs2 := Rd.of_owns ho2
  go_wp2_with fail
  refine (made_any _ _ _ _ hs2 (dig_low _)).mono ?_
  rintro e w3 ⟨s3,rfl,hi3,hb3⟩
  have hv_5 := hv_4.below hb3
  have hB_5 := hB_4.trans (hb3.mono hB_4.size)
  have q_5 := q_4.to hb3
  have r_5 := r_4.to hb3
  have hs_5 := hs_4.below hb3
  have d0 := hs2.below hb3
  clear hv_4 hB_4 q_4 r_4 hs_4
  obtain ⟨g3,p3,n3,c3,rfl⟩ := hi3.form
  have a0 := r_5.c0
  have h0 := r_5.f0
  have b0 := r_5.c1
  have i0 := r_5.f1
  go_wp2_with fail
  exact bodyPost_ret (v := .agg #[.bool g3,.slice p3 n3 c3]) (by simp [results,Tryz.results131,go_sem, *]) rfl ⟨_,rfl,by rw [← HX.out];exact hi3.box2 a0 b0 _ _,below_box2 hB_5 (by omega) _ _⟩
theorem sign_any (v : Value) (x : Int) (w : World) (hv : Raw w v x) :
    Calls Tryz.prog 117 #[v] w fun e w' => e = .returned (.int .i64 x.sign) ∧ Below w.heap.size w w' := by
  obtain ⟨b,p,n,c,rfl⟩ := hv.form
  have hB_0 : Below w.heap.size w w := Below.refl _ _
  have hv_1 := hv.alloc (.cells #[.bool b,.slice p n c] 28)
  have hB_1 := Below.alloc hB_0 hB_0.size (.cells #[.bool b,.slice p n c] 28)
  clear hB_0
  have q_1 : Bx (w.alloc (.cells #[.bool b,.slice p n c] 28)) (w.heap.size) [.bool b,.slice p n c] := by
    have := Bx.new w [.bool b,.slice p n c] 28
    simpa using this
  have d0 := q_1.c0
  have e0 := q_1.c1
  have HS := Lib.hid (fun h : x ≠ 0 => hv.sign h)
  by_cases hx : x = 0
  · have hl0 : (dig x.natAbs).length = 0 := by subst hx;simp [dig_zero]
    have HV := Lib.hid hx
    clear hx
    go_enter Tryz.func117,Tryz.ntmps117
    go_wp2_with fail
    refine (groups_any _ x _ hv_1).mono ?_
    rintro e w1 ⟨s1,rfl,hs1,hb1⟩
    have hv_2 := hv_1.below hb1
    have hB_2 := hB_1.trans (hb1.mono hB_1.size)
    have q_2 := q_1.to hb1
    clear hv_1 hB_1 q_1
    obtain ⟨p1,c1,rfl,hc1,hc2⟩ := hs1.form
    rw [hl0]
    go_wp2_with fail
    go_ret
    exact ⟨by rw [HV.out];rfl,hB_2⟩
  · have hb : b = decide (x < 0) := HS.out hx
    have hl0 : 0 < (dig x.natAbs).length := by
      rcases Nat.eq_zero_or_pos (dig x.natAbs).length with h | h
      · have := (dig_eq_nil (n := x.natAbs)).1 (List.eq_nil_of_length_eq_zero h)
        omega
      · exact h
    by_cases hn : x < 0
    · have hbt : b = true := by rw [hb];simpa using hn
      have HV := Lib.hid (And.intro hx hn)
      clear hx hn hb
      subst hbt
      go_enter Tryz.func117,Tryz.ntmps117
      go_wp2_with fail
      refine (groups_any _ x _ hv_1).mono ?_
      rintro e w1 ⟨s1,rfl,hs1,hb1⟩
      have hv_2 := hv_1.below hb1
      have hB_2 := hB_1.trans (hb1.mono hB_1.size)
      have q_2 := q_1.to hb1
      clear hv_1 hB_1 q_1
      obtain ⟨p1,c1,rfl,hc1,hc2⟩ := hs1.form
      have a0 := q_2.c0
      have b0 := q_2.c1
      go_wp2_with fail
      go_ret
      exact ⟨by rw [Int.sign_eq_neg_one_of_neg HV.out.2];rfl,hB_2⟩
    · have hbt : b = false := by rw [hb];simpa using hn
      have HV := Lib.hid (And.intro hx hn)
      clear hx hn hb
      subst hbt
      go_enter Tryz.func117,Tryz.ntmps117
      go_wp2_with fail
      refine (groups_any _ x _ hv_1).mono ?_
      rintro e w1 ⟨s1,rfl,hs1,hb1⟩
      have hv_2 := hv_1.below hb1
      have hB_2 := hB_1.trans (hb1.mono hB_1.size)
      have q_2 := q_1.to hb1
      clear hv_1 hB_1 q_1
      obtain ⟨p1,c1,rfl,hc1,hc2⟩ := hs1.form
      have a0 := q_2.c0
      have b0 := q_2.c1
      go_wp2_with fail
      go_ret
      exact ⟨by rw [Int.sign_eq_one_of_pos (by have := HV.out;omega)];rfl,hB_2⟩
theorem add_any (v u : Value) (x y : Int) (w : World) (hv : Raw w v x) (hu : Raw w u y) (hl : isz x ≤ 1000000000) (hl2 : isz y ≤ 1000000000) :
    Calls Tryz.prog 107 #[v,u] w (GInt (x + y) w) := by
  obtain ⟨b,p,n,c,rfl⟩ := hv.form
  obtain ⟨d,o,m,e,rfl⟩ := hu.form
  have HX : Hid (sg b (val (dig x.natAbs)) + sg d (val (dig y.natAbs)) = x + y) := by unfold Hid;rw [val_dig,val_dig,sg_of hv,sg_of hu]
  have hB_0 : Below w.heap.size w w := Below.refl _ _
  have hv_1 := hv.alloc (.cells #[.bool b,.slice p n c] 28)
  have hu_1 := hu.alloc (.cells #[.bool b,.slice p n c] 28)
  have hB_1 := Below.alloc hB_0 hB_0.size (.cells #[.bool b,.slice p n c] 28)
  clear hB_0
  have q_1 : Bx (w.alloc (.cells #[.bool b,.slice p n c] 28)) (w.heap.size) [.bool b,.slice p n c] := by
    have := Bx.new w [.bool b,.slice p n c] 28
    simpa using this
  have hv_2 := hv_1.alloc (.cells #[.bool d,.slice o m e] 28)
  have hu_2 := hu_1.alloc (.cells #[.bool d,.slice o m e] 28)
  have hB_2 := Below.alloc hB_1 hB_1.size (.cells #[.bool d,.slice o m e] 28)
  have q_2 := q_1.alloc (.cells #[.bool d,.slice o m e] 28)
  clear hv_1 hu_1 hB_1 q_1
  have t_2 : Bx ((w.alloc (.cells #[.bool b,.slice p n c] 28)).alloc (.cells #[.bool d,.slice o m e] 28)) (w.heap.size + 1) [.bool d,.slice o m e] := by
    have := Bx.new (w.alloc (.cells #[.bool b,.slice p n c] 28)) [.bool d,.slice o m e] 28
    simpa using this
  have hv_3 := hv_2.alloc (.cells #[.bool false,.slice none 0 0] 28)
  have hu_3 := hu_2.alloc (.cells #[.bool false,.slice none 0 0] 28)
  have hB_3 := Below.alloc hB_2 hB_2.size (.cells #[.bool false,.slice none 0 0] 28)
  have q_3 := q_2.alloc (.cells #[.bool false,.slice none 0 0] 28)
  have t_3 := t_2.alloc (.cells #[.bool false,.slice none 0 0] 28)
  clear hv_2 hu_2 hB_2 q_2 t_2
  have r_3 : Bx (((w.alloc (.cells #[.bool b,.slice p n c] 28)).alloc (.cells #[.bool d,.slice o m e] 28)).alloc (.cells #[.bool false,.slice none 0 0] 28)) (w.heap.size + 2) [.bool false,.slice none 0 0] := by
    have := Bx.new ((w.alloc (.cells #[.bool b,.slice p n c] 28)).alloc (.cells #[.bool d,.slice o m e] 28)) [.bool false,.slice none 0 0] 28
    simpa using this
  have hv_4 := hv_3.drew
  have hu_4 := hu_3.drew
  have hB_4 := hB_3.drew
  have q_4 := q_3.drew
  have t_4 := t_3.drew
  have r_4 := r_3.drew
  clear hv_3 hu_3 hB_3 q_3 t_3 r_3
  have S0 : (fun w' : World => w'.cell? ⟨w.heap.size,0,none⟩ = some (.bool b) ∧ w'.cell? ⟨w.heap.size,1,none⟩ = some (.slice p n c) ∧ w'.cell? ⟨w.heap.size + 1,0,none⟩ = some (.bool d) ∧ w'.cell? ⟨w.heap.size + 1,1,none⟩ = some (.slice o m e) ∧ w.heap.size + 1 < w'.heap.size) (((w.alloc (.cells #[.bool b,.slice p n c] 28)).alloc (.cells #[.bool d,.slice o m e] 28)).alloc (.cells #[.bool false,.slice none 0 0] 28)).drew := ⟨q_4.c0,q_4.c1,t_4.c0,t_4.c1,t_4.1⟩
  have K : ∀ A B : World,(fun w' : World => w'.cell? ⟨w.heap.size,0,none⟩ = some (.bool b) ∧ w'.cell? ⟨w.heap.size,1,none⟩ = some (.slice p n c) ∧ w'.cell? ⟨w.heap.size + 1,0,none⟩ = some (.bool d) ∧ w'.cell? ⟨w.heap.size + 1,1,none⟩ = some (.slice o m e) ∧ w.heap.size + 1 < w'.heap.size) A → Below A.heap.size A B → (fun w' : World => w'.cell? ⟨w.heap.size,0,none⟩ = some (.bool b) ∧ w'.cell? ⟨w.heap.size,1,none⟩ = some (.slice p n c) ∧ w'.cell? ⟨w.heap.size + 1,0,none⟩ = some (.bool d) ∧ w'.cell? ⟨w.heap.size + 1,1,none⟩ = some (.slice o m e) ∧ w.heap.size + 1 < w'.heap.size) B := by
    rintro A B ⟨h0,h1,h2,h3,h4⟩ hb
    have hs := hb.size
    exact ⟨by rw [(bcell hb).1 _ _ (by omega)];exact h0,by rw [(bcell hb).1 _ _ (by omega)];exact h1,by rw [(bcell hb).1 _ _ (by omega)];exact h2,by rw [(bcell hb).1 _ _ (by omega)];exact h3,by omega⟩
  have KS0 : ∀ (A : World) (x0 x1 : Value),(fun w' : World => w'.cell? ⟨w.heap.size,0,none⟩ = some (.bool b) ∧ w'.cell? ⟨w.heap.size,1,none⟩ = some (.slice p n c) ∧ w'.cell? ⟨w.heap.size + 1,0,none⟩ = some (.bool d) ∧ w'.cell? ⟨w.heap.size + 1,1,none⟩ = some (.slice o m e) ∧ w.heap.size + 1 < w'.heap.size) A → (fun w' : World => w'.cell? ⟨w.heap.size,0,none⟩ = some (.bool b) ∧ w'.cell? ⟨w.heap.size,1,none⟩ = some (.slice p n c) ∧ w'.cell? ⟨w.heap.size + 1,0,none⟩ = some (.bool d) ∧ w'.cell? ⟨w.heap.size + 1,1,none⟩ = some (.slice o m e) ∧ w.heap.size + 1 < w'.heap.size) ((A.setCell ⟨w.heap.size + 2,0,none⟩ x0).setCell ⟨w.heap.size + 2,1,none⟩ x1) := by
    rintro A x0 x1 ⟨h0,h1,h2,h3,h4⟩
    simp [go_sem,h0,h1,h2,h3,h4]
  have tk1 : True := trivial
  have tk2 : True := trivial
  go_enter Tryz.func107,Tryz.ntmps107
  go_wp2_with fail
  go_region_held3 (fun w' : World => w'.cell? ⟨w.heap.size,0,none⟩ = some (.bool b) ∧ w'.cell? ⟨w.heap.size,1,none⟩ = some (.slice p n c) ∧ w'.cell? ⟨w.heap.size + 1,0,none⟩ = some (.bool d) ∧ w'.cell? ⟨w.heap.size + 1,1,none⟩ = some (.slice o m e) ∧ w.heap.size + 1 < w'.heap.size) (first | exact S0 | (simp;done) | exact K _ _ (by assumption) (by assumption) | exact KS0 _ _ _ (by assumption))
    (first
      | ((have := tk1;skip);clear tk1;go_at_call 119;refine (groups_any _ x _ hv_4).mono ?_;rintro e w1 ⟨s1,rfl,hs1,hb1⟩;have hv_5 := hv_4.below hb1;have hu_5 := hu_4.below hb1;have hB_5 := hB_4.trans (hb1.mono hB_4.size);have q_5 := q_4.to hb1;have t_5 := t_4.to hb1;have r_5 := r_4.to hb1;clear hv_4 hu_4 hB_4 q_4 t_4 r_4)
      | ((have := tk2;skip);clear tk2;go_at_call 119;refine (groups_any _ y _ hu_5).mono ?_;rintro e w2 ⟨s2,rfl,hs2,hb2⟩;have hv_6 := hv_5.below hb2;have hu_6 := hu_5.below hb2;have hB_6 := hB_5.trans (hb2.mono hB_5.size);have q_6 := q_5.to hb2;have t_6 := t_5.to hb2;have r_6 := r_5.to hb2;have hs_6 := hs1.below hb2;clear hv_5 hu_5 hB_5 q_5 t_5 r_5 hs1)
      | (go_at_call 150;refine (sum_any _ _ _ _ _ _ _ hs_6 hs2 (dig_canon _) (dig_canon _) hl hl2).mono ?_;rintro e w3 ⟨s3,rfl,hi3,hb3⟩;have hv_7 := hv_6.below hb3;have hu_7 := hu_6.below hb3;have hB_7 := hB_6.trans (hb3.mono hB_6.size);have q_7 := q_6.to hb3;have t_7 := t_6.to hb3;have r_7 := r_6.to hb3;have hs_7 := hs_6.below hb3;have d0 := hs2.below hb3;clear hv_6 hu_6 hB_6 q_6 t_6 r_6 hs_6;obtain ⟨g3,p3,n3,c3,rfl⟩ := hi3.form;have a0 := r_7.c0;have e0 := r_7.f0;have b0 := r_7.c1;have g0 := r_7.f1))
  go_wp2_with fail
  exact bodyPost_ret (v := .agg #[.bool g3,.slice p3 n3 c3]) (by simp [results,Tryz.results107,go_sem, *]) rfl ⟨_,rfl,by rw [← HX.out];exact hi3.box2 a0 b0 _ _,below_box2 hB_7 (by omega) _ _⟩
theorem mul_any (v u : Value) (x y : Int) (w : World) (hv : Raw w v x) (hu : Raw w u y) (hl : isz x ≤ 1000000000) (hl2 : isz y ≤ 1000000000) :
    Calls Tryz.prog 71 #[v,u] w (GInt (x * y) w) := by
  obtain ⟨b,p,n,c,rfl⟩ := hv.form
  obtain ⟨d,o,m,e,rfl⟩ := hu.form
  have HX : Hid (sg (b != d) (val (dig (val (dig x.natAbs) * val (dig y.natAbs)))) = x * y) := by
    have h1 := sg_of hv
    have h2 := sg_of hu
    unfold Hid;rw [val_dig,val_dig,val_dig]
    generalize x.natAbs = k at *
    generalize y.natAbs = l at *
    subst h1
    subst h2
    cases b <;> cases d <;> simp [sg,Int.neg_mul,Int.mul_neg]
  have hB_0 : Below w.heap.size w w := Below.refl _ _
  have hv_1 := hv.alloc (.cells #[.bool b,.slice p n c] 28)
  have hu_1 := hu.alloc (.cells #[.bool b,.slice p n c] 28)
  have hB_1 := Below.alloc hB_0 hB_0.size (.cells #[.bool b,.slice p n c] 28)
  clear hB_0
  have q_1 : Bx (w.alloc (.cells #[.bool b,.slice p n c] 28)) (w.heap.size) [.bool b,.slice p n c] := by
    have := Bx.new w [.bool b,.slice p n c] 28
    simpa using this
  have hv_2 := hv_1.alloc (.cells #[.bool d,.slice o m e] 28)
  have hu_2 := hu_1.alloc (.cells #[.bool d,.slice o m e] 28)
  have hB_2 := Below.alloc hB_1 hB_1.size (.cells #[.bool d,.slice o m e] 28)
  have q_2 := q_1.alloc (.cells #[.bool d,.slice o m e] 28)
  clear hv_1 hu_1 hB_1 q_1
  have t_2 : Bx ((w.alloc (.cells #[.bool b,.slice p n c] 28)).alloc (.cells #[.bool d,.slice o m e] 28)) (w.heap.size + 1) [.bool d,.slice o m e] := by
    have := Bx.new (w.alloc (.cells #[.bool b,.slice p n c] 28)) [.bool d,.slice o m e] 28
    simpa using this
  have hv_3 := hv_2.alloc (.cells #[.bool false,.slice none 0 0] 28)
  have hu_3 := hu_2.alloc (.cells #[.bool false,.slice none 0 0] 28)
  have hB_3 := Below.alloc hB_2 hB_2.size (.cells #[.bool false,.slice none 0 0] 28)
  have q_3 := q_2.alloc (.cells #[.bool false,.slice none 0 0] 28)
  have t_3 := t_2.alloc (.cells #[.bool false,.slice none 0 0] 28)
  clear hv_2 hu_2 hB_2 q_2 t_2
  have r_3 : Bx (((w.alloc (.cells #[.bool b,.slice p n c] 28)).alloc (.cells #[.bool d,.slice o m e] 28)).alloc (.cells #[.bool false,.slice none 0 0] 28)) (w.heap.size + 2) [.bool false,.slice none 0 0] := by
    have := Bx.new ((w.alloc (.cells #[.bool b,.slice p n c] 28)).alloc (.cells #[.bool d,.slice o m e] 28)) [.bool false,.slice none 0 0] 28
    simpa using this
  have hv_4 := hv_3.drew
  have hu_4 := hu_3.drew
  have hB_4 := hB_3.drew
  have q_4 := q_3.drew
  have t_4 := t_3.drew
  have r_4 := r_3.drew
  clear hv_3 hu_3 hB_3 q_3 t_3 r_3
  have S0 : (fun w' : World => w'.cell? ⟨w.heap.size,0,none⟩ = some (.bool b) ∧ w'.cell? ⟨w.heap.size,1,none⟩ = some (.slice p n c) ∧ w'.cell? ⟨w.heap.size + 1,0,none⟩ = some (.bool d) ∧ w'.cell? ⟨w.heap.size + 1,1,none⟩ = some (.slice o m e) ∧ w.heap.size + 1 < w'.heap.size) (((w.alloc (.cells #[.bool b,.slice p n c] 28)).alloc (.cells #[.bool d,.slice o m e] 28)).alloc (.cells #[.bool false,.slice none 0 0] 28)).drew := ⟨q_4.c0,q_4.c1,t_4.c0,t_4.c1,t_4.1⟩
  have K : ∀ A B : World,(fun w' : World => w'.cell? ⟨w.heap.size,0,none⟩ = some (.bool b) ∧ w'.cell? ⟨w.heap.size,1,none⟩ = some (.slice p n c) ∧ w'.cell? ⟨w.heap.size + 1,0,none⟩ = some (.bool d) ∧ w'.cell? ⟨w.heap.size + 1,1,none⟩ = some (.slice o m e) ∧ w.heap.size + 1 < w'.heap.size) A → Below A.heap.size A B → (fun w' : World => w'.cell? ⟨w.heap.size,0,none⟩ = some (.bool b) ∧ w'.cell? ⟨w.heap.size,1,none⟩ = some (.slice p n c) ∧ w'.cell? ⟨w.heap.size + 1,0,none⟩ = some (.bool d) ∧ w'.cell? ⟨w.heap.size + 1,1,none⟩ = some (.slice o m e) ∧ w.heap.size + 1 < w'.heap.size) B := by
    rintro A B ⟨h0,h1,h2,h3,h4⟩ hb
    have hs := hb.size
    exact ⟨by rw [(bcell hb).1 _ _ (by omega)];exact h0,by rw [(bcell hb).1 _ _ (by omega)];exact h1,by rw [(bcell hb).1 _ _ (by omega)];exact h2,by rw [(bcell hb).1 _ _ (by omega)];exact h3,by omega⟩
  have KS0 : ∀ (A : World) (x0 x1 : Value),(fun w' : World => w'.cell? ⟨w.heap.size,0,none⟩ = some (.bool b) ∧ w'.cell? ⟨w.heap.size,1,none⟩ = some (.slice p n c) ∧ w'.cell? ⟨w.heap.size + 1,0,none⟩ = some (.bool d) ∧ w'.cell? ⟨w.heap.size + 1,1,none⟩ = some (.slice o m e) ∧ w.heap.size + 1 < w'.heap.size) A → (fun w' : World => w'.cell? ⟨w.heap.size,0,none⟩ = some (.bool b) ∧ w'.cell? ⟨w.heap.size,1,none⟩ = some (.slice p n c) ∧ w'.cell? ⟨w.heap.size + 1,0,none⟩ = some (.bool d) ∧ w'.cell? ⟨w.heap.size + 1,1,none⟩ = some (.slice o m e) ∧ w.heap.size + 1 < w'.heap.size) ((A.setCell ⟨w.heap.size + 2,0,none⟩ x0).setCell ⟨w.heap.size + 2,1,none⟩ x1) := by
    rintro A x0 x1 ⟨h0,h1,h2,h3,h4⟩
    simp [go_sem,h0,h1,h2,h3,h4]
  have tk1 : True := trivial
  have tk2 : True := trivial
  go_enter Tryz.func71,Tryz.ntmps71
  go_wp2_with fail
  go_region_held3 (fun w' : World => w'.cell? ⟨w.heap.size,0,none⟩ = some (.bool b) ∧ w'.cell? ⟨w.heap.size,1,none⟩ = some (.slice p n c) ∧ w'.cell? ⟨w.heap.size + 1,0,none⟩ = some (.bool d) ∧ w'.cell? ⟨w.heap.size + 1,1,none⟩ = some (.slice o m e) ∧ w.heap.size + 1 < w'.heap.size) (first | exact S0 | (simp;done) | exact K _ _ (by assumption) (by assumption) | exact KS0 _ _ _ (by assumption))
    (first
      | ((have := tk1;skip);clear tk1;go_at_call 119;refine (groups_any _ x _ hv_4).mono ?_;rintro e w1 ⟨s1,rfl,hs1,hb1⟩;have hv_5 := hv_4.below hb1;have hu_5 := hu_4.below hb1;have hB_5 := hB_4.trans (hb1.mono hB_4.size);have q_5 := q_4.to hb1;have t_5 := t_4.to hb1;have r_5 := r_4.to hb1;clear hv_4 hu_4 hB_4 q_4 t_4 r_4)
      | ((have := tk2;skip);clear tk2;go_at_call 119;refine (groups_any _ y _ hu_5).mono ?_;rintro e w2 ⟨s2,rfl,hs2,hb2⟩;have hv_6 := hv_5.below hb2;have hu_6 := hu_5.below hb2;have hB_6 := hB_5.trans (hb2.mono hB_5.size);have q_6 := q_5.to hb2;have t_6 := t_5.to hb2;have r_6 := r_5.to hb2;have hs_6 := hs1.below hb2;clear hv_5 hu_5 hB_5 q_5 t_5 r_5 hs1)
      | (go_at_call 118;refine (times_any _ _ _ _ _ hs_6 hs2 (dig_low _) (dig_low _) hl hl2).mono ?_;rintro e w3 ⟨s3,rfl,hs3,hb3⟩;have hv_7 := hv_6.below hb3;have hu_7 := hu_6.below hb3;have hB_7 := hB_6.trans (hb3.mono hB_6.size);have q_7 := q_6.to hb3;have t_7 := t_6.to hb3;have r_7 := r_6.to hb3;have hs_7 := hs_6.below hb3;have a0 := hs2.below hb3;clear hv_6 hu_6 hB_6 q_6 t_6 r_6 hs_6;have hs3r := Rd.of_owns hs3)
      | (go_at_call 114;refine (made_any _ _ _ _ hs3r (dig_low _)).mono ?_;rintro e w4 ⟨s4,rfl,hi4,hb4⟩;have hv_8 := hv_7.below hb4;have hu_8 := hu_7.below hb4;have hB_8 := hB_7.trans (hb4.mono hB_7.size);have q_8 := q_7.to hb4;have t_8 := t_7.to hb4;have r_8 := r_7.to hb4;have hs_8 := hs_7.below hb4;have e0 := a0.below hb4;have g0 := hs3r.below hb4;clear hv_7 hu_7 hB_7 q_7 t_7 r_7 hs_7 a0 hs3r;obtain ⟨g4,p4,n4,c4,rfl⟩ := hi4.form;have b0 := r_8.c0;have i0 := r_8.f0;have d0 := r_8.c1;have j0 := r_8.f1))
  go_wp2_with fail
  exact bodyPost_ret (v := .agg #[.bool g4,.slice p4 n4 c4]) (by simp [results,Tryz.results71,go_sem, *]) rfl ⟨_,rfl,by rw [← HX.out];exact hi4.box2 b0 d0 _ _,below_box2 hB_8 (by omega) _ _⟩
end Go.Proofs.YtidfgdchcpmnfaaGreat
namespace Go.Proofs.YtidfgdchcpmnfaaGreat
set_option linter.unusedVariables false
theorem val_set {l : List Nat} {k v : Nat} (h : k < l.length) : val (l.set k v) + BB ^ k * gr l k = val l + BB ^ k * v := by
  induction l generalizing k with
  | nil => simp at h
  | cons g l ih =>
    cases k with
    | zero => simp [val_cons,gr];omega
    | succ k =>
      have := ih (k := k) (by simpa using h)
      have e : gr (g :: l) (k + 1) = gr l k := by simp [gr]
      rw [List.set_cons_succ,val_cons,val_cons,e,Nat.pow_succ]
      generalize val (l.set k v) = a at *
      generalize BB ^ k = p at *
      grind
theorem guess_hi {X D P T m g xl : Nat} (hX : X = T * P + xl) (hxl : xl < P) (hD : m * P ≤ D) (h : T < g * m) : X < g * D := by
  have h1 : (T + 1) * P ≤ g * m * P := Nat.mul_le_mul_right _ h
  have h2 : g * (m * P) ≤ g * D := Nat.mul_le_mul_left _ hD
  rw [Nat.mul_assoc] at h1
  have h3 : (T + 1) * P = T * P + P := by rw [Nat.add_mul,Nat.one_mul]
  omega
theorem guess_lo {X D P T m g : Nat} (hX : T * P ≤ X) (hD : D < (m + 1) * P) (hg : g ≤ m + 1) (h : g * m ≤ T) : g * D ≤ X + D := by
  cases g with
  | zero => simp
  | succ g =>
    have h1 : g * D ≤ g * ((m + 1) * P) := Nat.mul_le_mul_left _ (by omega)
    have h2 : g * (m + 1) ≤ T := by
      have : (g + 1) * m = g * m + m := by rw [Nat.add_mul,Nat.one_mul]
      have : g * (m + 1) = g * m + g := by rw [Nat.mul_add,Nat.mul_one]
      omega
    have h3 : g * (m + 1) * P ≤ T * P := Nat.mul_le_mul_right _ h2
    rw [Nat.mul_assoc] at h3
    have h4 : (g + 1) * D = g * D + D := by rw [Nat.add_mul,Nat.one_mul]
    omega
structure LongInv (S V n L : Nat) (u q : List Nat) (k : Nat) : Prop where
  lu : u.length = L
  low : Low u
  lq : q.length + n = L
  lowq : Low q
  zero : ∀ m,m < k → gr q m = 0
  eq : val u + V * val q = S
  lt : val u < V * BB ^ k
structure Guess (X D g : Nat) : Prop where
  hi : X < (g + 1) * D
  lo : g * D ≤ X + D
theorem val_split' (l : List Nat) (k : Nat) : val l = val (l.take k) + BB ^ (min k l.length) * val (l.drop k) := by
  conv => lhs;rw [← List.take_append_drop k l]
  rw [val_append,List.length_take]
theorem last_gr' {l : List Nat} (h : l ≠ []) : l.getLast? = some (gr l (l.length - 1)) := by
  have : 0 < l.length := List.length_pos_iff.2 h
  rw [List.getLast?_eq_getElem?,gr_in (by omega)]
  exact List.getElem?_eq_getElem _
theorem val_top {l : List Nat} {k : Nat} (h : ∀ m,k ≤ m → gr l m = 0) : val l = val (l.take k) := by
  by_cases hk : k < l.length
  · rw [val_split' l k]
    have : val (l.drop k) = 0 := by
      suffices ∀ r : List Nat,(∀ m,gr r m = 0) → val r = 0 by
        refine this _ (fun m => ?_)
        have := h (k + m) (by omega)
        simpa [gr,List.getElem?_drop] using this
      intro r
      induction r with
      | nil => intro _;rfl
      | cons g r ih =>
        intro hz
        have h0 := hz 0
        have h1 := ih (fun m => by have := hz (m + 1);simpa [gr] using this)
        simp [gr] at h0
        rw [val_cons,h0,h1];simp
    rw [this];simp
  · rw [List.take_of_length_le (by omega)]
structure SubInv (u v o : List Nat) (L g j i bo ca : Nat) : Prop where
  len : o.length = L
  low : Low o
  same : ∀ m,j + i ≤ m → gr o m = gr u m
  vl : val (o.take (j + i)) + BB ^ j * (g * val (v.take i)) = val (u.take (j + i)) + BB ^ (j + i) * (bo + ca)
  bor : bo ≤ 1
  car : ca < 1000000000
theorem SubInv.start {u v : List Nat} {L g j : Nat} (h1 : u.length = L) (h2 : Low u) : SubInv u v u L g j 0 0 0 := ⟨h1,h2,fun _ _ => rfl,by simp,by omega,by omega⟩
theorem SubInv.step {u v o : List Nat} {L g j i bo ca d bo' : Nat} (h : SubInv u v o L g j i bo ca) (hg : g < 1000000000) (hv : gr v i < 1000000000) (hk : j + i < L)
    (hd : d < 1000000000) (hb : bo' ≤ 1) (he : gr o (j + i) + 1000000000 * bo' = d + bo + (g * gr v i + ca) % 1000000000) :
    SubInv u v (o.set (j + i) d) L g j (i + 1) bo' ((g * gr v i + ca) / 1000000000) := by
  have hl : j + i < o.length := by rw [h.len];exact hk
  have hc := h.car
  have hm : g * gr v i ≤ 999999999 * 999999999 := Nat.mul_le_mul (by omega) (by omega)
  refine ⟨by simp [h.len],low_set h.low hd,?_,?_,hb,by omega⟩
  · intro m hm
    rw [gr_set hl,if_neg (by omega)]
    exact h.same m (by omega)
  · have e1 := h.vl
    have e2 := h.same (j + i) (Nat.le_refl _)
    have e3 := val_take_succ u (j + i)
    have e4 := val_take_succ v i
    rw [show j + (i + 1) = (j + i) + 1 from by omega,take_set_succ hl,val_append,List.length_take,Nat.min_eq_left (by omega),e3,e4,← e2]
    simp only [val_cons,val_nil]
    have e5 := Nat.mod_add_div (g * gr v i + ca) 1000000000
    generalize (g * gr v i + ca) % 1000000000 = r at *
    generalize (g * gr v i + ca) / 1000000000 = c' at *
    rw [Nat.pow_succ,Nat.pow_add] at *
    rw [BB_eq] at *
    have e6 : 1000000000 ^ j * 1000000000 ^ i * (r + 1000000000 * c') = 1000000000 ^ j * 1000000000 ^ i * (g * gr v i + ca) := by rw [e5]
    have e7 : 1000000000 ^ j * 1000000000 ^ i * (gr o (j + i) + 1000000000 * bo') = 1000000000 ^ j * 1000000000 ^ i * (d + bo + r) := by rw [he]
    grind
structure AddInv (u v o : List Nat) (L j i c : Nat) : Prop where
  len : o.length = L
  low : Low o
  same : ∀ m,j + i ≤ m → gr o m = gr u m
  vl : val (o.take (j + i)) + BB ^ (j + i) * c = val (u.take (j + i)) + BB ^ j * val (v.take i)
  car : c ≤ 1
theorem AddInv.start {u v : List Nat} {L j : Nat} (h1 : u.length = L) (h2 : Low u) : AddInv u v u L j 0 0 := ⟨h1,h2,fun _ _ => rfl,by simp,by omega⟩
theorem AddInv.step {u v o : List Nat} {L j i c d c' : Nat} (h : AddInv u v o L j i c) (hk : j + i < L) (hd : d < 1000000000) (hc : c' ≤ 1) (he : gr o (j + i) + gr v i + c = d + 1000000000 * c') :
    AddInv u v (o.set (j + i) d) L j (i + 1) c' := by
  have hl : j + i < o.length := by rw [h.len];exact hk
  refine ⟨by simp [h.len],low_set h.low hd,?_,?_,hc⟩
  · intro m hm
    rw [gr_set hl,if_neg (by omega)]
    exact h.same m (by omega)
  · have e1 := h.vl
    have e2 := h.same (j + i) (Nat.le_refl _)
    have e3 := val_take_succ u (j + i)
    have e4 := val_take_succ v i
    rw [show j + (i + 1) = (j + i) + 1 from by omega,take_set_succ hl,val_append,List.length_take,Nat.min_eq_left (by omega),e3,e4,← e2]
    simp only [val_cons,val_nil]
    rw [Nat.pow_succ,Nat.pow_add] at *
    rw [BB_eq] at *
    have e7 : 1000000000 ^ j * 1000000000 ^ i * (gr o (j + i) + gr v i + c) = 1000000000 ^ j * 1000000000 ^ i * (d + 1000000000 * c') := by rw [he]
    grind
theorem gr_zero_of {l : List Nat} {k m : Nat} (hv : val l < BB ^ k) (hk : k ≤ m) : gr l m = 0 := by
  rcases Nat.eq_zero_or_pos (gr l m) with h | h
  · exact h
  · exfalso
    have h1 := val_take_succ l m
    have h2 : val (l.take (m + 1)) ≤ val l := by rw [val_split' l (m + 1)];omega
    have h3 : BB ^ m * 1 ≤ BB ^ m * gr l m := Nat.mul_le_mul_left _ h
    have h4 : BB ^ k ≤ BB ^ m := Nat.pow_le_pow_right BB_pos hk
    omega
theorem val_take_lt {l : List Nat} (h : Low l) (k : Nat) : val (l.take k) < BB ^ k :=
  Nat.lt_of_lt_of_le (val_lt (h.take k)) (Nat.pow_le_pow_right BB_pos (by rw [List.length_take];omega))
theorem val_low_lt {v : List Nat} {n : Nat} (h : Low v) (hn : v.length = n) : val v < BB ^ n := by subst hn;exact val_lt h
theorem LongInv.bound {S n L j : Nat} {u q v : List Nat} (h : LongInv S (val v) n L u q (j + 1)) (hv : Low v) (hn : v.length = n) : val u < BB ^ (j + n + 1) := by
  have h1 := h.lt
  have h2 := val_low_lt hv hn
  have h3 : val v * BB ^ (j + 1) ≤ BB ^ n * BB ^ (j + 1) := Nat.mul_le_mul_right _ (by omega)
  rw [← Nat.pow_add] at h3
  rw [show j + n + 1 = n + (j + 1) from by omega]
  omega
theorem LongInv.top {S n L j : Nat} {u q v : List Nat} (h : LongInv S (val v) n L u q (j + 1)) (hv : Low v) (hn : v.length = n) : val u = val (u.take (j + n)) + BB ^ (j + n) * gr u (j + n) := by
  rw [← val_take_succ]
  exact val_top (fun m hm => gr_zero_of (h.bound hv hn) hm)
structure Digs (X D v1 v2 uh u1 u2 P : Nat) : Prop where
  x : ∃ xl,X = ((uh * BB + u1) * BB + u2) * P + xl ∧ xl < P
  d1 : (v1 * BB + v2) * P ≤ D
  d2 : D < (v1 * BB + v2 + 1) * P
  xb : X < BB * D
  uv : uh ≤ v1
  v1p : 1 ≤ v1
  b1 : v1 < 1000000000
  b2 : v2 < 1000000000
  b3 : u1 < 1000000000
  b4 : u2 < 1000000000
theorem LongInv.digs {S n L j : Nat} {u q v : List Nat} (h : LongInv S (val v) n L u q (j + 1)) (hv : Canon v) (hn : v.length = n) (h2 : 2 ≤ n) :
    Digs (val u) (BB ^ j * val v) (gr v (n - 1)) (gr v (n - 2)) (gr u (j + n)) (gr u (j + n - 1)) (gr u (j + n - 2)) (BB ^ (j + n - 2)) := by
  obtain ⟨m,rfl⟩ : ∃ m,n = m + 2 := ⟨n - 2,by omega⟩
  have hne : v ≠ [] := by intro e;subst e;simp at hn
  have hp : 1 ≤ gr v (m + 1) := by
    have := hv.2
    rw [last_gr' hne,hn] at this
    have h3 : gr v (m + 2 - 1) ≠ 0 := by simpa using this
    have : m + 2 - 1 = m + 1 := by omega
    rw [this] at h3
    omega
  have e1 : m + 2 - 1 = m + 1 := by omega
  have e2 : m + 2 - 2 = m := by omega
  have e3 : j + (m + 2) - 1 = j + m + 1 := by omega
  have e4 : j + (m + 2) - 2 = j + m := by omega
  have e5 : j + (m + 2) = j + m + 2 := by omega
  have hV : val v = val (v.take m) + BB ^ m * gr v m + BB ^ (m + 1) * gr v (m + 1) := by
    rw [← val_take_succ,← val_take_succ,val_take_all (by omega)]
  have hX : val u = val (u.take (j + m)) + BB ^ (j + m) * gr u (j + m) + BB ^ (j + m + 1) * gr u (j + m + 1) + BB ^ (j + m + 2) * gr u (j + m + 2) := by
    rw [← val_take_succ,← val_take_succ,← val_take_succ]
    exact val_top (fun k hk => gr_zero_of (h.bound hv.1 hn) (by omega))
  have hvl := val_take_lt hv.1 m
  have hul := val_take_lt h.low (j + m)
  have hlt := h.lt
  rw [e1,e2,e3,e4,e5]
  have hP : BB ^ (j + m) = BB ^ j * BB ^ m := Nat.pow_add _ _ _
  have hd : BB ^ j * val v = (gr v (m + 1) * BB + gr v m) * BB ^ (j + m) + BB ^ j * val (v.take m) := by
    rw [hV,hP,Nat.pow_succ]
    grind
  have hd2 : BB ^ j * val (v.take m) < BB ^ (j + m) := by
    rw [hP]
    exact Nat.mul_lt_mul_of_pos_left hvl (Nat.pow_pos BB_pos)
  refine ⟨⟨val (u.take (j + m)),?_,hul⟩,?_,?_,?_,?_,hp,gr_low hv.1 _,gr_low hv.1 _,gr_low h.low _,gr_low h.low _⟩
  · rw [hX,Nat.pow_succ,Nat.pow_succ]
    grind
  · rw [hd];omega
  · rw [hd,Nat.add_mul _ 1,Nat.one_mul]
    omega
  · rw [Nat.pow_succ] at hlt
    have : BB * (BB ^ j * val v) = val v * (BB ^ j * BB) := by grind
    omega
  ·
    rcases Nat.lt_or_ge (gr v (m + 1)) (gr u (j + m + 2)) with h4 | h4
    · exfalso
      have h5 : BB ^ (j + m + 2) * (gr v (m + 1) + 1) ≤ BB ^ (j + m + 2) * gr u (j + m + 2) := Nat.mul_le_mul_left _ h4
      have h6 : val v < BB ^ (m + 1) * (gr v (m + 1) + 1) := by
        have := val_take_lt hv.1 (m + 1)
        have h7 := val_take_succ v (m + 1)
        rw [val_take_all (by omega)] at h7
        rw [Nat.mul_add,Nat.mul_one]
        omega
      have h8 : val v * BB ^ (j + 1) < BB ^ (m + 1) * (gr v (m + 1) + 1) * BB ^ (j + 1) := Nat.mul_lt_mul_of_pos_right h6 (Nat.pow_pos BB_pos)
      have h9 : BB ^ (m + 1) * (gr v (m + 1) + 1) * BB ^ (j + 1) = BB ^ (j + m + 2) * (gr v (m + 1) + 1) := by
        rw [show j + m + 2 = (m + 1) + (j + 1) from by omega,Nat.pow_add]
        grind
      omega
    · exact h4
structure GInv (X D v1 uh u1 g r : Nat) : Prop where
  eq : g * v1 + r = uh * BB + u1
  hi : X < (g + 1) * D
theorem Digs.start {X D v1 v2 uh u1 u2 P : Nat} (h : Digs X D v1 v2 uh u1 u2 P) : GInv X D v1 uh u1 ((uh * BB + u1) / v1) ((uh * BB + u1) % v1) := by
  have hp := h.v1p
  have e := Nat.mod_add_div (uh * BB + u1) v1
  have hm := Nat.mod_lt (uh * BB + u1) (show 0 < v1 by omega)
  refine ⟨by rw [Nat.mul_comm];omega,?_⟩
  obtain ⟨xl,hx,hxl⟩ := h.x
  refine guess_hi hx hxl h.d1 ?_
  generalize (uh * BB + u1) / v1 = g at *
  generalize (uh * BB + u1) % v1 = r at *
  have h1 : uh * BB + u1 + 1 ≤ (g + 1) * v1 := by rw [Nat.add_mul,Nat.mul_comm g];omega
  have h2 : (uh * BB + u1 + 1) * BB ≤ (g + 1) * v1 * BB := Nat.mul_le_mul_right _ h1
  have h3 := h.b4
  have h4 : (g + 1) * (v1 * BB + v2) = (g + 1) * v1 * BB + (g + 1) * v2 := by grind
  rw [h4]
  rw [BB_eq] at *
  omega
theorem GInv.le {X D v1 v2 uh u1 u2 P g r : Nat} (h : Digs X D v1 v2 uh u1 u2 P) (k : GInv X D v1 uh u1 g r) : g ≤ 2 * BB := by
  rcases Nat.lt_or_ge (2 * BB) g with h1 | h1
  · exfalso
    have e := k.eq
    have h2 : (2 * BB + 1) * v1 ≤ g * v1 := Nat.mul_le_mul_right _ h1
    have h3 : uh * BB ≤ v1 * BB := Nat.mul_le_mul_right _ h.uv
    have h4 := h.b3
    have h5 := h.v1p
    rw [BB_eq] at *
    omega
  · exact h1
theorem GInv.step {X D v1 v2 uh u1 u2 P g r : Nat} (h : Digs X D v1 v2 uh u1 u2 P) (k : GInv X D v1 uh u1 g r) (hc : BB ≤ g ∨ r * BB + u2 < g * v2) : 1 ≤ g ∧ GInv X D v1 uh u1 (g - 1) (r + v1) := by
  have hg : 1 ≤ g := by
    rcases hc with hc | hc
    · rw [BB_eq] at hc;omega
    · rcases Nat.eq_zero_or_pos g with e | e
      · subst e;omega
      · exact e
  obtain ⟨g',rfl⟩ : ∃ g',g = g' + 1 := ⟨g - 1,by omega⟩
  refine ⟨hg,?_,?_⟩
  · have := k.eq
    rw [Nat.add_mul,Nat.one_mul] at this
    rw [Nat.add_sub_cancel]
    omega
  · rw [Nat.add_sub_cancel]
    rcases hc with hc | hc
    · exact Nat.lt_of_lt_of_le h.xb (Nat.mul_le_mul_right _ hc)
    · obtain ⟨xl,hx,hxl⟩ := h.x
      refine guess_hi hx hxl h.d1 ?_
      have e := k.eq
      have e2 : (uh * BB + u1) * BB = ((g' + 1) * v1 + r) * BB := by rw [e]
      rw [e2]
      have : (g' + 1) * (v1 * BB + v2) = (g' + 1) * v1 * BB + (g' + 1) * v2 := by grind
      rw [this,Nat.add_mul]
      omega
theorem GInv.done {X D v1 v2 uh u1 u2 P g r : Nat} (h : Digs X D v1 v2 uh u1 u2 P) (k : GInv X D v1 uh u1 g r) (hg : g < BB) (hr : g * v2 ≤ r * BB + u2) : Guess X D g := by
  refine ⟨k.hi,?_⟩
  obtain ⟨xl,hx,hxl⟩ := h.x
  have hp := h.v1p
  refine guess_lo (T := (uh * BB + u1) * BB + u2) (by omega) h.d2 ?_ ?_
  · have : 1 * BB ≤ v1 * BB := Nat.mul_le_mul_right _ hp
    omega
  · have e := k.eq
    have e2 : (uh * BB + u1) * BB = (g * v1 + r) * BB := by rw [e]
    rw [e2]
    have : g * (v1 * BB + v2) = g * v1 * BB + g * v2 := by grind
    rw [this,Nat.add_mul]
    omega
theorem GInv.brk {X D v1 v2 uh u1 u2 P g r : Nat} (h : Digs X D v1 v2 uh u1 u2 P) (k : GInv X D v1 uh u1 g r) (hr : BB ≤ r) : g < BB ∧ g * v2 ≤ r * BB + u2 := by
  have e := k.eq
  have h3 : uh * BB ≤ v1 * BB := Nat.mul_le_mul_right _ h.uv
  have h4 := h.b3
  have hg : g < BB := by
    rcases Nat.lt_or_ge g BB with h1 | h1
    · exact h1
    · exfalso
      have h2 : BB * v1 ≤ g * v1 := Nat.mul_le_mul_right _ h1
      rw [Nat.mul_comm BB v1] at h2
      rw [BB_eq] at *
      omega
  refine ⟨hg,?_⟩
  have h5 : g * v2 ≤ BB * BB := Nat.mul_le_mul (by omega) (by have := h.b2;rw [BB_eq];omega)
  have h6 : BB * BB ≤ r * BB := Nat.mul_le_mul_right _ hr
  omega
theorem val_top_set {o : List Nat} {k d X : Nat} (hl : k < o.length) (hz : ∀ m,k + 1 ≤ m → gr o m = 0) : val (o.set k d) = val (o.take k) + BB ^ k * d := by
  have h1 := val_set (l := o) (k := k) (v := d) hl
  have h2 : val o = val (o.take k) + BB ^ k * gr o k := by
    rw [← val_take_succ];exact val_top hz
  omega
theorem long_right {S n L j g bo ca : Nat} {u q v o : List Nat} (h : LongInv S (val v) n L u q (j + 1)) (hv : Low v) (hn : v.length = n) (hj : j + n < L) (hG : Guess (val u) (BB ^ j * val v) g) (hg : g < BB)
    (hS : SubInv u v o L g j n bo ca) (hd : bo + ca ≤ gr u (j + n)) :
    gr u (j + n) = bo + ca ∧ LongInv S (val v) n L (o.set (j + n) 0) (q.set j g) j := by
  have e1 := hS.vl
  rw [val_take_all (show v.length ≤ n by omega)] at e1
  have e2 := h.top hv hn
  have e3 := val_take_lt hS.low (j + n)
  have e4 := hG.hi
  have e5 : BB ^ j * val v < BB ^ (j + n) := by
    rw [Nat.pow_add];exact Nat.mul_lt_mul_of_pos_left (val_low_lt hv hn) (Nat.pow_pos BB_pos)
  obtain ⟨d,hdd⟩ : ∃ d,gr u (j + n) = bo + ca + d := ⟨gr u (j + n) - (bo + ca),by omega⟩
  have e6 : BB ^ j * (g * val v) = g * (BB ^ j * val v) := by grind
  rw [e6] at e1
  have e7 : (g + 1) * (BB ^ j * val v) = g * (BB ^ j * val v) + BB ^ j * val v := by rw [Nat.add_mul,Nat.one_mul]
  rw [e7] at e4
  have e8 : BB ^ (j + n) * (bo + ca + d) = BB ^ (j + n) * (bo + ca) + BB ^ (j + n) * d := Nat.mul_add _ _ _
  rw [hdd,e8] at e2
  have hd0 : d = 0 := by
    rcases Nat.eq_zero_or_pos d with e | e
    · exact e
    · exfalso
      have : BB ^ (j + n) * 1 ≤ BB ^ (j + n) * d := Nat.mul_le_mul_left _ e
      omega
  subst hd0
  refine ⟨by omega,?_⟩
  have hol : j + n < o.length := by rw [hS.len];exact hj
  have hz : ∀ m,j + n + 1 ≤ m → gr o m = 0 := fun m hm => by
    rw [hS.same m (by omega)];exact gr_zero_of (h.bound hv hn) hm
  have e9 := val_top_set (X := 0) (d := 0) hol hz
  have hjq : j < q.length := by have := h.lq;omega
  have e10 := val_set (l := q) (k := j) (v := g) hjq
  rw [h.zero j (by omega)] at e10
  have e11 := h.eq
  refine ⟨by simp [hS.len],low_set hS.low (by omega),by simpa using h.lq,low_set h.lowq (by rw [BB_eq] at hg;exact hg),?_,?_,?_⟩
  · intro m hm
    rw [gr_set hjq,if_neg (by omega)]
    exact h.zero m (by omega)
  · rw [e9]
    have e12 : val (q.set j g) = val q + BB ^ j * g := by omega
    rw [e12]
    have e13 : val v * (val q + BB ^ j * g) = val v * val q + g * (BB ^ j * val v) := by grind
    rw [e13]
    omega
  · rw [e9,Nat.mul_comm (val v)]
    omega
theorem long_wrong {S n L j g bo ca c : Nat} {u q v o o2 : List Nat} (h : LongInv S (val v) n L u q (j + 1)) (hv : Low v) (hn : v.length = n) (hj : j + n < L) (hG : Guess (val u) (BB ^ j * val v) g) (hg : g < BB)
    (hS : SubInv u v o L g j n bo ca) (hd : gr u (j + n) < bo + ca) :
    bo + ca = gr u (j + n) + 1 ∧ 1 ≤ g ∧ (AddInv (o.set (j + n) 999999999) v o2 L j n c → c = 1 ∧ gr o2 (j + n) = 999999999 ∧ LongInv S (val v) n L (o2.set (j + n) 0) (q.set j (g - 1)) j) := by
  have e1 := hS.vl
  rw [val_take_all (show v.length ≤ n by omega)] at e1
  have e2 := h.top hv hn
  have e3 := val_take_lt hS.low (j + n)
  have e4 := hG.lo
  have e5 : BB ^ j * val v < BB ^ (j + n) := by
    rw [Nat.pow_add];exact Nat.mul_lt_mul_of_pos_left (val_low_lt hv hn) (Nat.pow_pos BB_pos)
  obtain ⟨d,hdd⟩ : ∃ d,bo + ca = gr u (j + n) + 1 + d := ⟨bo + ca - gr u (j + n) - 1,by omega⟩
  have e6 : BB ^ j * (g * val v) = g * (BB ^ j * val v) := by grind
  rw [e6] at e1
  have e8 : BB ^ (j + n) * (gr u (j + n) + 1 + d) = BB ^ (j + n) * gr u (j + n) + BB ^ (j + n) + BB ^ (j + n) * d := by rw [Nat.mul_add,Nat.mul_add,Nat.mul_one]
  rw [hdd,e8] at e1
  have hd0 : d = 0 := by
    rcases Nat.eq_zero_or_pos d with e | e
    · exact e
    · exfalso
      have : BB ^ (j + n) * 1 ≤ BB ^ (j + n) * d := Nat.mul_le_mul_left _ e
      omega
  subst hd0
  have hg1 : 1 ≤ g := by
    rcases Nat.eq_zero_or_pos g with e | e
    · subst e;simp at e1;omega
    · exact e
  refine ⟨by omega,hg1,fun hA => ?_⟩
  have hol : j + n < o.length := by rw [hS.len];exact hj
  have ho2 : j + n < o2.length := by rw [hA.len];exact hj
  have a1 := hA.vl
  rw [val_take_all (show v.length ≤ n by omega),take_set_ge (Nat.le_refl _)] at a1
  have a3 := val_take_lt hA.low (j + n)
  have hc : c = 0 ∨ c = 1 := by have := hA.car;omega
  have hc1 : c = 1 := by
    rcases hc with rfl | rfl
    · exfalso;simp at e1 a1;omega
    · rfl
  subst hc1
  have g2 : gr o2 (j + n) = 999999999 := by
    rw [hA.same _ (Nat.le_refl _),gr_set hol,if_pos rfl]
  refine ⟨rfl,g2,?_⟩
  have hz : ∀ m,j + n + 1 ≤ m → gr o2 m = 0 := fun m hm => by
    rw [hA.same m (by omega),gr_set hol,if_neg (by omega),hS.same m (by omega)]
    exact gr_zero_of (h.bound hv hn) hm
  have e9 := val_top_set (X := 0) (d := 0) ho2 hz
  have hjq : j < q.length := by have := h.lq;omega
  have e10 := val_set (l := q) (k := j) (v := g - 1) hjq
  rw [h.zero j (by omega)] at e10
  have e11 := h.eq
  obtain ⟨g',rfl⟩ : ∃ g',g = g' + 1 := ⟨g - 1,by omega⟩
  rw [Nat.add_sub_cancel] at *
  have e7 : (g' + 1) * (BB ^ j * val v) = g' * (BB ^ j * val v) + BB ^ j * val v := by rw [Nat.add_mul,Nat.one_mul]
  rw [e7] at e1 e4
  refine ⟨by simp [hA.len],low_set hA.low (by omega),by simpa using h.lq,low_set h.lowq (by rw [BB_eq] at hg;omega),?_,?_,?_⟩
  · intro m hm
    rw [gr_set hjq,if_neg (by omega)]
    exact h.zero m (by omega)
  · rw [e9]
    have e12 : val (q.set j g') = val q + BB ^ j * g' := by omega
    rw [e12]
    have e13 : val v * (val q + BB ^ j * g') = val v * val q + g' * (BB ^ j * val v) := by grind
    rw [e13]
    simp only [Nat.mul_one,Nat.mul_zero,Nat.add_zero] at *
    omega
  · rw [e9,Nat.mul_comm (val v)]
    simp only [Nat.mul_one,Nat.mul_zero,Nat.add_zero] at *
    omega
theorem LongInv.done {S n L : Nat} {u q v : List Nat} (h : LongInv S (val v) n L u q 0) : val q = S / val v ∧ val u = S % val v := by
  have h1 := h.lt
  have h2 := h.eq
  simp at h1
  have hp : 0 < val v := by omega
  have h3 : S = val u + val v * val q := h2.symm
  constructor
  · rw [h3,Nat.add_mul_div_left _ _ hp,Nat.div_eq_of_lt h1];omega
  · rw [h3,Nat.add_mul_mod_self_left,Nat.mod_eq_of_lt h1]
end Go.Proofs.YtidfgdchcpmnfaaGreat
