/-
  Lemmas for the theorem vmats_holds, part 27 of 32.
-/
import Derived.Test.YtidfgdchcpmnfaaGreatMt06
import Derived.Test.YtidfgdchcpmnfaaGreatMt11
import Derived.Test.YtidfgdchcpmnfaaGreatMt12
import Derived.Test.YtidfgdchcpmnfaaGreatMt21
import Derived.Test.YtidfgdchcpmnfaaGreatMt26
namespace Go.Proofs.YtidfgdchcpmnfaaGreat
open Go.RowKit
set_option maxRecDepth 100000
set_option maxHeartbeats 4000000
set_option linter.unusedSimpArgs false
set_option linter.unusedVariables false
theorem fdiv_of_dvd {x y : Int} (h : y ∣ x) : x.fdiv y = x / y := by
  rw [Int.fdiv_eq_ediv,if_pos (.inr h),Int.sub_zero]
theorem rfdiv_pos {n d : Int} (hd : 0 < d) : n.fdiv ((Int.gcd n d : Nat) : Int) = (Rat.divInt n d).num ∧ d.fdiv ((Int.gcd n d : Nat) : Int) = (Rat.divInt n d).den := by
  rw [divInt_num_pos hd,divInt_den_pos hd]
  exact ⟨fdiv_of_dvd (Int.gcd_dvd_left _ _),fdiv_of_dvd (Int.gcd_dvd_right _ _)⟩
theorem rfdiv_neg {n d : Int} (hd : d < 0) : n.fdiv (-((Int.gcd n d : Nat) : Int)) = (Rat.divInt n d).num ∧ d.fdiv (-((Int.gcd n d : Nat) : Int)) = (Rat.divInt n d).den := by
  rw [divInt_num_neg hd,divInt_den_neg hd]
  exact ⟨fdiv_of_dvd (Int.neg_dvd.2 (Int.gcd_dvd_left _ _)),fdiv_of_dvd (Int.neg_dvd.2 (Int.gcd_dvd_right _ _))⟩
theorem rwhole_any (k : Int) (w : World) (h0 : -9223372036854775808 ≤ k) (h1 : k ≤ 9223372036854775807) :
    Calls Tryz.prog 98 #[.int .i64 k] w (GInt k w) := by
  have hB_0 : Below w.heap.size w w := Below.refl _ _
  go_enter Tryz.func98,Tryz.ntmps98
  go_wp2_with fail
  (with_reducible refine (rof_any _ _ (by omega) (by omega)).mono ?_)
  rintro e w1 ⟨v1,rfl,hi1,hb1⟩
  obtain ⟨g1,p1,n1,c1,rfl⟩ := hi1.form
  obtain ⟨hA1,f0⟩ := bx1 w rfl [.bool false,.slice none 0 0] 28
  have q0_1 := (f0.to hb1)
  obtain ⟨a0,c0,b0,d0⟩ := q0_1.cf2
  have e0 := (Below.tr (Below.tr hB_0 hA1) hb1)
  go_wp2_with fail
  exact bodyPost_ret (v := .agg #[.bool g1,.slice p1 n1 c1]) (by simp [results,Tryz.results98,go_sem,a0,c0,b0,d0]) rfl ⟨_,rfl,(hi1.sets2 q0_1 rfl rfl (.bool g1) (.slice p1 n1 c1)),(Below.sets2 e0 (b := w.heap.size) (by omega) (.bool g1) (.slice p1 n1 c1))⟩
theorem rWholeQ_any (k : Int) (w : World) (h0 : -9223372036854775808 ≤ k) (h1 : k ≤ 9223372036854775807) :
    Calls Tryz.prog 79 #[.int .i64 k] w (GQ (k : Rat) w) := by
  have hB_0 : Below w.heap.size w w := Below.refl _ _
  go_enter Tryz.func79,Tryz.ntmps79
  go_wp2_with fail
  (with_reducible refine (rwhole_any _ _ (by omega) (by omega)).mono ?_)
  rintro e w1 ⟨v1,rfl,hi1,hb1⟩
  obtain ⟨g1,p1,n1,c1,rfl⟩ := hi1.form
  go_wp2_with fail
  (with_reducible refine (rwhole_any _ _ (by omega) (by omega)).mono ?_)
  rintro e w2 ⟨v2,rfl,hi2,hb2⟩
  obtain ⟨g2,p2,n2,c2,rfl⟩ := hi2.form
  obtain ⟨hA1,k0⟩ := bx1 w rfl [.bool false,.slice none 0 0,.bool false,.slice none 0 0] 30
  have q0_2 := ((k0.to hb1).to hb2)
  obtain ⟨a0,e0,b0,f0,c0,g0,d0,i0⟩ := q0_2.cf4
  have l0 := (hi1.below hb2)
  have j0 := (Below.tr (Below.tr (Below.tr hB_0 hA1) hb1) hb2)
  go_wp2_with fail
  exact bodyPost_ret (v := .agg #[.bool g1,.slice p1 n1 c1,.bool g2,.slice p2 n2 c2]) (by simp [results,Tryz.results79,go_sem,a0,e0,b0,f0,c0,g0,d0,i0]) rfl ⟨_,rfl,RQ.mk' (l0.sets4 q0_2 rfl rfl rfl rfl (.bool g1) (.slice p1 n1 c1) (.bool g2) (.slice p2 n2 c2)) (hi2.sets4 q0_2 rfl rfl rfl rfl (.bool g1) (.slice p1 n1 c1) (.bool g2) (.slice p2 n2 c2)) (int_num k).symm (by rw [int_den];rfl),(Below.sets4 j0 (b := w.heap.size) (by omega) (.bool g1) (.slice p1 n1 c1) (.bool g2) (.slice p2 n2 c2))⟩
theorem rIntQ_any (k : Int) (w : World) (h0 : -9223372036854775808 ≤ k) (h1 : k ≤ 9223372036854775807) :
    Calls Tryz.prog 24 #[.int .i64 k] w (GQ (k : Rat) w) := by
  have hB_0 : Below w.heap.size w w := Below.refl _ _
  go_enter Tryz.func24,Tryz.ntmps24
  go_wp2_with fail
  (with_reducible refine (rWholeQ_any _ _ (by omega) (by omega)).mono ?_)
  rintro e w1 ⟨v1,rfl,hi1,hb1⟩
  obtain ⟨g1,p1,n1,c1,h1,o1,m1,e1,rfl⟩ := hi1.form
  obtain ⟨hA1,k0⟩ := bx1 w rfl [.bool false,.slice none 0 0,.bool false,.slice none 0 0] 30
  have q0_1 := (k0.to hb1)
  obtain ⟨a0,e0,b0,f0,c0,g0,d0,i0⟩ := q0_1.cf4
  have j0 := (Below.tr (Below.tr hB_0 hA1) hb1)
  go_wp2_with fail
  exact bodyPost_ret (v := .agg #[.bool g1,.slice p1 n1 c1,.bool h1,.slice o1 m1 e1]) (by simp [results,Tryz.results24,go_sem,a0,e0,b0,f0,c0,g0,d0,i0]) rfl ⟨_,rfl,(hi1.sets4 q0_1 rfl rfl rfl rfl (.bool g1) (.slice p1 n1 c1) (.bool h1) (.slice o1 m1 e1)),(Below.sets4 j0 (b := w.heap.size) (by omega) (.bool g1) (.slice p1 n1 c1) (.bool h1) (.slice o1 m1 e1))⟩
theorem rvalidQ_fff (x y : Int) (w : World) (b d : Bool) (p o : Option Addr) (n c m e : Nat) (k1 : RawV w (.agg #[.bool b,.slice p n c]) false x) (k2 : RawV w (.agg #[.bool d,.slice o m e]) false y) (hl : isz x ≤ 999999999) (hl2 : isz y ≤ 999999999) :
    Calls Tryz.prog 84 #[.agg #[.bool b,.slice p n c,.bool d,.slice o m e]] w fun e w' => e = .returned (.bool (false && (false && (decide (0 < y) && decide (Int.gcd x y = 1))))) ∧ Below w.heap.size w w' := by
  have HX : Hid (false = (false && (false && (decide (0 < y) && decide (Int.gcd x y = 1))))) := by unfold Hid;simp
  have hB_0 : Below w.heap.size w w := Below.refl _ _
  go_enter Tryz.func84,Tryz.ntmps84
  go_wp2_with fail
  obtain ⟨hA1,c0⟩ := bx1 w rfl [.bool b,.slice p n c,.bool d,.slice o m e] 30
  have b0 := (k1.below hA1)
  (with_reducible refine (rvalid_any _ _ _ _ b0).mono ?_)
  rintro e w1 ⟨rfl,hb1⟩
  have a0 := (Below.tr (Below.tr hB_0 hA1) hb1)
  go_wp2_with fail
  go_ret
  exact ⟨ret_bool HX.out,a0⟩
theorem rvalidQ_ftf (x y : Int) (w : World) (b d : Bool) (p o : Option Addr) (n c m e : Nat) (k1 : RawV w (.agg #[.bool b,.slice p n c]) false x) (k2 : RawV w (.agg #[.bool d,.slice o m e]) true y) (hl : isz x ≤ 999999999) (hl2 : isz y ≤ 999999999) :
    Calls Tryz.prog 84 #[.agg #[.bool b,.slice p n c,.bool d,.slice o m e]] w fun e w' => e = .returned (.bool (false && (true && (decide (0 < y) && decide (Int.gcd x y = 1))))) ∧ Below w.heap.size w w' := by
  have HX : Hid (false = (false && (true && (decide (0 < y) && decide (Int.gcd x y = 1))))) := by unfold Hid;simp
  have hB_0 : Below w.heap.size w w := Below.refl _ _
  go_enter Tryz.func84,Tryz.ntmps84
  go_wp2_with fail
  obtain ⟨hA1,c0⟩ := bx1 w rfl [.bool b,.slice p n c,.bool d,.slice o m e] 30
  have b0 := (k1.below hA1)
  (with_reducible refine (rvalid_any _ _ _ _ b0).mono ?_)
  rintro e w1 ⟨rfl,hb1⟩
  have a0 := (Below.tr (Below.tr hB_0 hA1) hb1)
  go_wp2_with fail
  go_ret
  exact ⟨ret_bool HX.out,a0⟩
theorem rvalidQ_tff (x y : Int) (w : World) (b d : Bool) (p o : Option Addr) (n c m e : Nat) (k1 : RawV w (.agg #[.bool b,.slice p n c]) true x) (k2 : RawV w (.agg #[.bool d,.slice o m e]) false y) (hl : isz x ≤ 999999999) (hl2 : isz y ≤ 999999999) :
    Calls Tryz.prog 84 #[.agg #[.bool b,.slice p n c,.bool d,.slice o m e]] w fun e w' => e = .returned (.bool (true && (false && (decide (0 < y) && decide (Int.gcd x y = 1))))) ∧ Below w.heap.size w w' := by
  have HX : Hid (false = (true && (false && (decide (0 < y) && decide (Int.gcd x y = 1))))) := by unfold Hid;simp
  have hB_0 : Below w.heap.size w w := Below.refl _ _
  go_enter Tryz.func84,Tryz.ntmps84
  go_wp2_with fail
  obtain ⟨hA1,b0⟩ := bx1 w rfl [.bool b,.slice p n c,.bool d,.slice o m e] 30
  have c0 := (k1.below hA1)
  (with_reducible refine (rvalid_any _ _ _ _ c0).mono ?_)
  rintro e w1 ⟨rfl,hb1⟩
  have q0_1 := (b0.to hb1)
  obtain ⟨e0,f0,g0,h0⟩ := q0_1.cs4
  go_wp2_with fail
  have k2_1 := ((k2.below hA1).below hb1)
  have d0 := k2_1
  (with_reducible refine (rvalid_any _ _ _ _ d0).mono ?_)
  rintro e w2 ⟨rfl,hb2⟩
  have a0 := (Below.tr (Below.tr (Below.tr hB_0 hA1) hb1) hb2)
  go_wp2_with fail
  go_ret
  exact ⟨ret_bool HX.out,a0⟩
theorem rvalidQ_ttf (x y : Int) (w : World) (b d : Bool) (p o : Option Addr) (n c m e : Nat) (k1 : RawV w (.agg #[.bool b,.slice p n c]) true x) (k2 : RawV w (.agg #[.bool d,.slice o m e]) true y) (hl : isz x ≤ 999999999) (hl2 : isz y ≤ 999999999) (hd : ¬ 0 < y) :
    Calls Tryz.prog 84 #[.agg #[.bool b,.slice p n c,.bool d,.slice o m e]] w fun e w' => e = .returned (.bool (true && (true && (decide (0 < y) && decide (Int.gcd x y = 1))))) ∧ Below w.heap.size w w' := by
  have HX : Hid (false = (true && (true && (decide (0 < y) && decide (Int.gcd x y = 1))))) := by unfold Hid;simp [hd]
  have hsg : decide (sgn y ≤ 0) = true := by have := sgn_le hd;simpa using this
  clear hd
  have hB_0 : Below w.heap.size w w := Below.refl _ _
  go_enter Tryz.func84,Tryz.ntmps84
  go_wp2_with fail
  obtain ⟨hA1,b0⟩ := bx1 w rfl [.bool b,.slice p n c,.bool d,.slice o m e] 30
  have c0 := (k1.below hA1)
  (with_reducible refine (rvalid_any _ _ _ _ c0).mono ?_)
  rintro e w1 ⟨rfl,hb1⟩
  have q0_1 := (b0.to hb1)
  obtain ⟨f0,h0,j0,l0⟩ := q0_1.cs4
  go_wp2_with fail
  have k2_1 := ((k2.below hA1).below hb1)
  have d0 := k2_1
  (with_reducible refine (rvalid_any _ _ _ _ d0).mono ?_)
  rintro e w2 ⟨rfl,hb2⟩
  have q0_2 := (q0_1.to hb2)
  obtain ⟨g0,i0,k0,m0⟩ := q0_2.cs4
  go_wp2_with fail
  have k2_2 := (k2_1.below hb2)
  have e0 := k2_2.raw
  (with_reducible refine (rsign_any _ (y) _ e0 (by omega)).mono ?_)
  rintro e w3 ⟨rfl,hb3⟩
  have a0 := (Below.tr (Below.tr (Below.tr (Below.tr hB_0 hA1) hb1) hb2) hb3)
  go_wp2_with fail
  go_ret
  exact ⟨ret_bool HX.out,a0⟩
theorem rvalidQ_ttt (x y : Int) (w : World) (b d : Bool) (p o : Option Addr) (n c m e : Nat) (k1 : RawV w (.agg #[.bool b,.slice p n c]) true x) (k2 : RawV w (.agg #[.bool d,.slice o m e]) true y) (hl : isz x ≤ 999999999) (hl2 : isz y ≤ 999999999) (hd : 0 < y) :
    Calls Tryz.prog 84 #[.agg #[.bool b,.slice p n c,.bool d,.slice o m e]] w fun e w' => e = .returned (.bool (true && (true && (decide (0 < y) && decide (Int.gcd x y = 1))))) ∧ Below w.heap.size w w' := by
  have HX : Hid ((cmpI ((Int.gcd x y : Nat) : Int) 1 == 0) = (true && (true && (decide (0 < y) && decide (Int.gcd x y = 1))))) := by unfold Hid;rw [cmp_eq_zero];simp [hd];omega
  have hsg : decide (sgn y ≤ 0) = false := by rw [sgn_pos hd];rfl
  have hlg : isz ((Int.gcd x y : Nat) : Int) ≤ 999999999 := isz_gcd_le (by omega) (by omega)
  have h1g : isz 1 ≤ 999999999 := Nat.le_trans (isz_le (k := 1) (by rw [BB_eq];decide)) (by omega)
  clear hd
  have hB_0 : Below w.heap.size w w := Below.refl _ _
  go_enter Tryz.func84,Tryz.ntmps84
  go_wp2_with fail
  obtain ⟨hA1,b0⟩ := bx1 w rfl [.bool b,.slice p n c,.bool d,.slice o m e] 30
  have c0 := (k1.below hA1)
  (with_reducible refine (rvalid_any _ _ _ _ c0).mono ?_)
  rintro e w1 ⟨rfl,hb1⟩
  have q0_1 := (b0.to hb1)
  obtain ⟨k0,n0,q0,t0⟩ := q0_1.cs4
  go_wp2_with fail
  have k2_1 := ((k2.below hA1).below hb1)
  have d0 := k2_1
  (with_reducible refine (rvalid_any _ _ _ _ d0).mono ?_)
  rintro e w2 ⟨rfl,hb2⟩
  have q0_2 := (q0_1.to hb2)
  obtain ⟨l0,o0,r0,u0⟩ := q0_2.cs4
  go_wp2_with fail
  have k2_2 := (k2_1.below hb2)
  have e0 := k2_2.raw
  (with_reducible refine (rsign_any _ (y) _ e0 (by omega)).mono ?_)
  rintro e w3 ⟨rfl,hb3⟩
  have q0_3 := (q0_2.to hb3)
  obtain ⟨m0,p0,s0,v0⟩ := q0_3.cs4
  go_wp2_with fail
  have k1_3 := ((((k1.below hA1).below hb1).below hb2).below hb3)
  have f0 := k1_3.raw
  have k2_3 := (k2_2.below hb3)
  have g0 := k2_3.raw
  (with_reducible refine (rgcd_any _ _ (x) (y) _ f0 g0 (by omega) (by omega)).mono ?_)
  rintro e w4 ⟨v4,rfl,hi4,hb4⟩
  obtain ⟨g4,p4,n4,c4,rfl⟩ := hi4.form
  go_wp2_with fail
  (with_reducible refine (rwhole_any _ _ (by omega) (by omega)).mono ?_)
  rintro e w5 ⟨v5,rfl,hi5,hb5⟩
  obtain ⟨g5,p5,n5,c5,rfl⟩ := hi5.form
  go_wp2_with fail
  have j0 := (hi4.below hb5)
  have h0 := j0.raw
  have i0 := hi5.raw
  (with_reducible refine (rcompare_any _ _ ((Int.gcd (x) (y) : Int)) (1) _ h0 i0 hlg h1g).mono ?_)
  rintro e w6 ⟨rfl,hb6⟩
  have a0 := (Below.tr (Below.tr (Below.tr (Below.tr (Below.tr (Below.tr (Below.tr hB_0 hA1) hb1) hb2) hb3) hb4) hb5) hb6)
  go_wp2_with fail
  go_ret
  exact ⟨ret_bool HX.out,a0⟩
theorem rvalidQ_any (v : Value) (ok : Bool) (q : Rat) (w : World) (h : QRaw w v ok q) (hn : Qn v 999999999) :
    Calls Tryz.prog 84 #[v] w fun e w' => e = .returned (.bool ok) ∧ Below w.heap.size w w' := by
  obtain ⟨b,s,c,t,o1,o2,x,y,e,h1,h2,rfl,_⟩ := h
  obtain ⟨b1,p1,n1,c1,b2,p2,n2,c2,e1,l1,l2⟩ := hn
  rw [e1] at e
  cases e
  subst e1
  have l3 := h1.raw.len
  have l4 := h2.raw.len
  cases o1
  · cases o2
    · exact rvalidQ_fff x y w _ _ _ _ _ _ _ _ h1 h2 (by omega) (by omega)
    · exact rvalidQ_ftf x y w _ _ _ _ _ _ _ _ h1 h2 (by omega) (by omega)
  · cases o2
    · exact rvalidQ_tff x y w _ _ _ _ _ _ _ _ h1 h2 (by omega) (by omega)
    · by_cases hd : 0 < y
      · exact rvalidQ_ttt x y w _ _ _ _ _ _ _ _ h1 h2 (by omega) (by omega) hd
      · exact rvalidQ_ttf x y w _ _ _ _ _ _ _ _ h1 h2 (by omega) (by omega) hd
theorem rvalueQ_True (v : Value) (q : Rat) (w : World) (h : QRaw w v true q) (hn : Qn v 999999999) :
    Calls Tryz.prog 77 #[v] w (GQ q w) := by
  obtain ⟨b,p,n,c,d,o,m,e,rfl⟩ := h.form
  have hB_0 : Below w.heap.size w w := Below.refl _ _
  go_enter Tryz.func77,Tryz.ntmps77
  go_wp2_with fail
  obtain ⟨hA1,j0,k0⟩ := bx2 w rfl [.bool b,.slice p n c,.bool d,.slice o m e] 30 [.bool false,.slice none 0 0,.bool false,.slice none 0 0] 30
  have l0 := (h.below hA1)
  (with_reducible refine (rvalidQ_any _ _ _ _ l0 hn).mono ?_)
  rintro e w1 ⟨rfl,hb1⟩
  have q0_1 := (j0.to hb1)
  obtain ⟨m0,n0,o0,p0⟩ := q0_1.cs4
  have q1_1 := (k0.to hb1)
  obtain ⟨a0,e0,b0,f0,c0,g0,d0,h0⟩ := q1_1.cf4
  have h_1 := ((h.below hA1).below hb1)
  have i0 := (Below.tr (Below.tr hB_0 hA1) hb1)
  go_wp2_with fail
  exact bodyPost_ret (v := .agg #[.bool b,.slice p n c,.bool d,.slice o m e]) (by simp [results,Tryz.results77,go_sem,a0,e0,b0,f0,c0,g0,d0,h0]) rfl ⟨_,rfl,QRaw.rq (h_1.sets4 q1_1 rfl rfl rfl rfl (.bool b) (.slice p n c) (.bool d) (.slice o m e)),(Below.sets4 i0 (b := w.heap.size + 1) (by omega) (.bool b) (.slice p n c) (.bool d) (.slice o m e))⟩
theorem rvalueQ_False (v : Value) (q : Rat) (w : World) (h : QRaw w v false q) (hn : Qn v 999999999) :
    Calls Tryz.prog 77 #[v] w (GQ q w) := by
  obtain ⟨b,p,n,c,d,o,m,e,rfl⟩ := h.form
  have HX : Hid (q = ((0 : Int) : Rat)) := by unfold Hid;rw [h.no];rfl
  have hB_0 : Below w.heap.size w w := Below.refl _ _
  go_enter Tryz.func77,Tryz.ntmps77
  go_wp2_with fail
  obtain ⟨hA1,l0,j0⟩ := bx2 w rfl [.bool b,.slice p n c,.bool d,.slice o m e] 30 [.bool false,.slice none 0 0,.bool false,.slice none 0 0] 30
  have k0 := (h.below hA1)
  (with_reducible refine (rvalidQ_any _ _ _ _ k0 hn).mono ?_)
  rintro e w1 ⟨rfl,hb1⟩
  go_wp2_with fail
  (with_reducible refine (rWholeQ_any _ _ (by omega) (by omega)).mono ?_)
  rintro e w2 ⟨v2,rfl,hi2,hb2⟩
  obtain ⟨g2,p2,n2,c2,h2,o2,m2,e2,rfl⟩ := hi2.form
  have q1_2 := ((j0.to hb1).to hb2)
  obtain ⟨a0,e0,b0,f0,c0,g0,d0,h0⟩ := q1_2.cf4
  have i0 := (Below.tr (Below.tr (Below.tr hB_0 hA1) hb1) hb2)
  go_wp2_with fail
  exact bodyPost_ret (v := .agg #[.bool g2,.slice p2 n2 c2,.bool h2,.slice o2 m2 e2]) (by simp [results,Tryz.results77,go_sem,a0,e0,b0,f0,c0,g0,d0,h0]) rfl ⟨_,rfl,by rw [HX.out];exact (hi2.sets4 q1_2 rfl rfl rfl rfl (.bool g2) (.slice p2 n2 c2) (.bool h2) (.slice o2 m2 e2)),(Below.sets4 i0 (b := w.heap.size + 1) (by omega) (.bool g2) (.slice p2 n2 c2) (.bool h2) (.slice o2 m2 e2))⟩
theorem rvalueQ_raw (v : Value) (ok : Bool) (q : Rat) (w : World) (h : QRaw w v ok q) (hn : Qn v 999999999) :
    Calls Tryz.prog 77 #[v] w (GQ q w) := by
  cases ok
  · exact rvalueQ_False v q w h hn
  · exact rvalueQ_True v q w h hn
theorem rvalueQ_any (v : Value) (q : Rat) (w : World) (h : RQ w v q) (hl : rsz q ≤ 999999999) :
    Calls Tryz.prog 77 #[v] w (GQ q w) := rvalueQ_raw v true q w h.raw (h.qn hl)
theorem rreducedQ_False (v u : Value) (x y : Int) (w : World) (hv : RInt w v x) (hu : RInt w u y) (hl : isz x ≤ 400000000) (hl2 : isz y ≤ 400000000) (hd : 0 < y) :
    Calls Tryz.prog 86 #[v,u] w (GQ (Rat.divInt x y) w) := by
  obtain ⟨b,p,n,c,rfl⟩ := hv.form
  obtain ⟨d,o,m,e,rfl⟩ := hu.form
  have HX := Lib.hid (rfdiv_pos (n := x) hd)
  have hlh0 : isz ((Int.gcd x y : Nat) : Int) ≤ 400000000 := isz_gcd_le (by omega) hl2
  have hlh : isz ((Int.gcd x y : Nat) : Int) ≤ 1000000000 := by omega
  have hlg : isz ((Int.gcd x y : Nat) : Int) ≤ 400000000 := by exact hlh0
  have hg00 : ((Int.gcd x y : Nat) : Int) ≠ 0 := gcd_ne (by omega)
  have hg0 : ((Int.gcd x y : Nat) : Int) ≠ 0 := by omega
  have hsg : decide (sgn y < 0) = false := by rw [sgn_pos hd];rfl
  clear hd hg00
  have hB_0 : Below w.heap.size w w := Below.refl _ _
  go_enter Tryz.func86,Tryz.ntmps86
  go_wp2_with fail
  obtain ⟨hA1,y1,z1,a2⟩ := bx3 w rfl [.bool b,.slice p n c] 28 [.bool d,.slice o m e] 28 [.bool false,.slice none 0 0,.bool false,.slice none 0 0] 30
  have e2 := (hv.below hA1).raw
  have f2 := (hu.below hA1).raw
  (with_reducible refine (rgcd_any _ _ (x) (y) _ e2 f2 (by omega) (by omega)).mono ?_)
  rintro e w1 ⟨v1,rfl,hi1,hb1⟩
  obtain ⟨g1,p1,n1,c1,rfl⟩ := hi1.form
  have q1_1 := (z1.to hb1)
  obtain ⟨p2,r2⟩ := q1_1.cs2
  have q0_1 := (y1.to hb1)
  have s0 := (q0_1).1
  have x0 := (q1_1).1
  have q2_1 := (a2.to hb1)
  have d1 := (q2_1).1
  go_wp2_with fail
  have hu_1 := ((hu.below hA1).below hb1)
  obtain ⟨hA2,b2⟩ := bx1 w1 rfl [.bool g1,.slice p1 n1 c1] 28
  have g2 := (hu_1.below hA2).raw
  (with_reducible refine (rsign_any _ (y) _ g2 (by omega)).mono ?_)
  rintro e w2 ⟨rfl,hb2⟩
  have q0_2 := ((q0_1.to hA2).to hb2)
  obtain ⟨n2,o2⟩ := q0_2.cs2
  have k1 := (b2.to hb2)
  obtain ⟨q1,s1⟩ := k1.cs2
  go_wp2_with fail
  have hv_2 := ((((hv.below hA1).below hb1).below hA2).below hb2)
  have h2 := hv_2.raw
  have j1 := ((hi1.below hA2).below hb2)
  have i2 := j1.raw
  (with_reducible refine (rdivide_any _ _ (x) ((Int.gcd (x) (y) : Int)) _ h2 i2 (by omega) hlg hg0).mono ?_)
  rintro e w3 ⟨v3,u3,rfl,hi3,hj3,hb3⟩
  obtain ⟨g3,p3,n3,c3,rfl⟩ := hi3.form
  obtain ⟨h3,o3,m3,e3,rfl⟩ := hj3.form
  have q1_3 := (((q1_1.to hA2).to hb2).to hb3)
  obtain ⟨q2,s2⟩ := q1_3.cs2
  have a0 := (k1.to hb3)
  obtain ⟨r1,t1⟩ := a0.cs2
  have q0_3 := (q0_2.to hb3)
  have t0 := (q0_3).1
  have y0 := (q1_3).1
  have q2_3 := (((q2_1.to hA2).to hb2).to hb3)
  have e1 := (q2_3).1
  have k0 := (a0).1
  obtain ⟨hA3,t2⟩ := bx1 w3 rfl [.bool false,.slice none 0 0] 28
  have u0 := ((q0_3.to hA3)).1
  have z0 := ((q1_3.to hA3)).1
  have f1 := ((q2_3.to hA3)).1
  have l0 := ((a0.to hA3)).1
  go_wp2_with fail
  have hu_3 := (((hu_1.below hA2).below hb2).below hb3)
  obtain ⟨hA4,c2,d2⟩ := bx2 w3 rfl [.bool g3,.slice p3 n3 c3] 28 [.bool h3,.slice o3 m3 e3] 28
  have j2 := (hu_3.below hA4).raw
  have l2 := (j1.below hb3)
  have k2 := (l2.below hA4).raw
  (with_reducible refine (rdivide_any _ _ (y) ((Int.gcd (x) (y) : Int)) _ j2 k2 (by omega) hlg hg0).mono ?_)
  rintro e w4 ⟨v4,u4,rfl,hi4,hj4,hb4⟩
  obtain ⟨g4,p4,n4,c4,rfl⟩ := hi4.form
  obtain ⟨h4,o4,m4,e4,rfl⟩ := hj4.form
  have j0 := (c2.to hb4)
  obtain ⟨u1,x1⟩ := j0.cs2
  have q2_4 := ((q2_3.to hA4).to hb4)
  obtain ⟨b0,f0,c0,g0,d0,h0,e0,i0⟩ := q2_4.cf4
  have q0_4 := ((q0_3.to hA4).to hb4)
  have v0 := (q0_4).1
  have q1_4 := ((q1_3.to hA4).to hb4)
  have a1 := (q1_4).1
  have h1 := (q2_4).1
  have l1 := ((a0.to hA4).to hb4)
  have m0 := (l1).1
  have o0 := (j0).1
  have m1 := (d2.to hb4)
  have q0 := (m1).1
  obtain ⟨hA5,u2⟩ := bx1 w4 rfl [.bool false,.slice none 0 0] 28
  have w0 := ((q0_4.to hA5)).1
  have b1 := ((q1_4.to hA5)).1
  have i1 := ((q2_4.to hA5)).1
  have n0 := ((l1.to hA5)).1
  have p0 := ((j0.to hA5)).1
  have r0 := ((m1.to hA5)).1
  obtain ⟨hA6,v2,x2⟩ := bx2 w4 rfl [.bool g4,.slice p4 n4 c4] 28 [.bool h4,.slice o4 m4 e4] 28
  have m2 := ((hi3.below hA4).below hb4)
  obtain ⟨hA7,y2,z2⟩ := bx2 ((((w4.setCell ⟨w.heap.size + 1 + 1,0,none⟩ (.bool g3)).setCell ⟨w.heap.size + 1 + 1,1,none⟩ (.slice p3 n3 c3)).setCell ⟨w.heap.size + 1 + 1,2,none⟩ (.bool g4)).setCell ⟨w.heap.size + 1 + 1,3,none⟩ (.slice p4 n4 c4)) (by simp : _ = w4.heap.size) [.bool g4,.slice p4 n4 c4] 28 [.bool h4,.slice o4 m4 e4] 28
  have o1 := (Below.tr (Below.tr (Below.tr (Below.tr (Below.tr (Below.tr (Below.tr hB_0 hA1) hb1) hA2) hb2) hb3) hA4) hb4)
  go_wp2_with fail
  exact bodyPost_ret (v := .agg #[.bool g3,.slice p3 n3 c3,.bool g4,.slice p4 n4 c4]) (by simp [results,Tryz.results86,go_sem,s0,x0,d1,t0,y0,e1,k0,u0,z0,f1,l0,v0,a1,h1,m0,o0,q0,w0,b1,i1,n0,p0,r0,b0,f0,c0,g0,d0,h0,e0,i0]) rfl ⟨_,rfl,RQ.mk' ((m2.sets4 q2_4 rfl rfl rfl rfl (.bool g3) (.slice p3 n3 c3) (.bool g4) (.slice p4 n4 c4)).below hA7) ((hi4.sets4 q2_4 rfl rfl rfl rfl (.bool g3) (.slice p3 n3 c3) (.bool g4) (.slice p4 n4 c4)).below hA7) HX.out.1 HX.out.2,(Below.tr (Below.sets4 o1 (b := w.heap.size + 1 + 1) (by omega) (.bool g3) (.slice p3 n3 c3) (.bool g4) (.slice p4 n4 c4)) hA7)⟩
theorem rreducedQ_True (v u : Value) (x y : Int) (w : World) (hv : RInt w v x) (hu : RInt w u y) (hl : isz x ≤ 400000000) (hl2 : isz y ≤ 400000000) (hd : y < 0) :
    Calls Tryz.prog 86 #[v,u] w (GQ (Rat.divInt x y) w) := by
  obtain ⟨b,p,n,c,rfl⟩ := hv.form
  obtain ⟨d,o,m,e,rfl⟩ := hu.form
  have HX := Lib.hid (rfdiv_neg (n := x) hd)
  have hlh0 : isz ((Int.gcd x y : Nat) : Int) ≤ 400000000 := isz_gcd_le (by omega) hl2
  have hlh : isz ((Int.gcd x y : Nat) : Int) ≤ 1000000000 := by omega
  have hlg : isz (-((Int.gcd x y : Nat) : Int)) ≤ 400000000 := by rw [isz_neg];exact hlh0
  have hg00 : ((Int.gcd x y : Nat) : Int) ≠ 0 := gcd_ne (by omega)
  have hg0 : (-((Int.gcd x y : Nat) : Int)) ≠ 0 := by omega
  have hsg : decide (sgn y < 0) = true := by rw [sgn_neg hd];rfl
  clear hd hg00
  have hB_0 : Below w.heap.size w w := Below.refl _ _
  go_enter Tryz.func86,Tryz.ntmps86
  go_wp2_with fail
  obtain ⟨hA1,c2,d2,e2⟩ := bx3 w rfl [.bool b,.slice p n c] 28 [.bool d,.slice o m e] 28 [.bool false,.slice none 0 0,.bool false,.slice none 0 0] 30
  have i2 := (hv.below hA1).raw
  have j2 := (hu.below hA1).raw
  (with_reducible refine (rgcd_any _ _ (x) (y) _ i2 j2 (by omega) (by omega)).mono ?_)
  rintro e w1 ⟨v1,rfl,hi1,hb1⟩
  obtain ⟨g1,p1,n1,c1,rfl⟩ := hi1.form
  have q1_1 := (d2.to hb1)
  obtain ⟨v2,y2⟩ := q1_1.cs2
  have q0_1 := (c2.to hb1)
  have x0 := (q0_1).1
  have d1 := (q1_1).1
  have q2_1 := (e2.to hb1)
  have j1 := (q2_1).1
  go_wp2_with fail
  have hu_1 := ((hu.below hA1).below hb1)
  obtain ⟨hA2,f2⟩ := bx1 w1 rfl [.bool g1,.slice p1 n1 c1] 28
  have k2 := (hu_1.below hA2).raw
  (with_reducible refine (rsign_any _ (y) _ k2 (by omega)).mono ?_)
  rintro e w2 ⟨rfl,hb2⟩
  have q1 := (f2.to hb2)
  obtain ⟨u1,y1⟩ := q1.cs2
  go_wp2_with fail
  have q2 := ((hi1.below hA2).below hb2)
  have l2 := q2.raw
  (with_reducible refine (rneg_any _ ((Int.gcd (x) (y) : Int)) _ l2 hlh).mono ?_)
  rintro e w3 ⟨v3,rfl,hi3,hb3⟩
  obtain ⟨g3,p3,n3,c3,rfl⟩ := hi3.form
  have a0 := (q1.to hb3)
  obtain ⟨c0,e0,d0,f0⟩ := a0.cf2
  have q0_3 := (((q0_1.to hA2).to hb2).to hb3)
  obtain ⟨t2,u2⟩ := q0_3.cs2
  go_wp2_with fail
  have hv_3 := (((((hv.below hA1).below hb1).below hA2).below hb2).below hb3)
  have m2 := (hv_3.sets2 a0 rfl rfl (.bool g3) (.slice p3 n3 c3)).raw
  have n2 := (hi3.sets2 a0 rfl rfl (.bool g3) (.slice p3 n3 c3)).raw
  (with_reducible refine (rdivide_any _ _ (x) (-(((Int.gcd (x) (y) : Int)))) _ m2 n2 (by omega) hlg hg0).mono ?_)
  rintro e w4 ⟨v4,u4,rfl,hi4,hj4,hb4⟩
  obtain ⟨g4,p4,n4,c4,rfl⟩ := hi4.form
  obtain ⟨h4,o4,m4,e4,rfl⟩ := hj4.form
  have q1_4 := (((((q1_1.to hA2).to hb2).to hb3).other2 (b := w1.heap.size) (by omega) (.bool g3) (.slice p3 n3 c3)).to hb4)
  obtain ⟨x2,z2⟩ := q1_4.cs2
  have b0 := ((a0.store2 (.bool g3) (.slice p3 n3 c3)).to hb4)
  obtain ⟨x1,z1⟩ := b0.cs2
  have q0_4 := ((q0_3.other2 (b := w1.heap.size) (by omega) (.bool g3) (.slice p3 n3 c3)).to hb4)
  have y0 := (q0_4).1
  have e1 := (q1_4).1
  have q2_4 := (((((q2_1.to hA2).to hb2).to hb3).other2 (b := w1.heap.size) (by omega) (.bool g3) (.slice p3 n3 c3)).to hb4)
  have k1 := (q2_4).1
  have p0 := (b0).1
  obtain ⟨hA3,a3⟩ := bx1 w4 rfl [.bool false,.slice none 0 0] 28
  have z0 := ((q0_4.to hA3)).1
  have f1 := ((q1_4.to hA3)).1
  have l1 := ((q2_4.to hA3)).1
  have q0 := ((b0.to hA3)).1
  go_wp2_with fail
  have hu_4 := (((((hu_1.below hA2).below hb2).below hb3).sets2 a0 rfl rfl (.bool g3) (.slice p3 n3 c3)).below hb4)
  obtain ⟨hA4,g2,h2⟩ := bx2 w4 rfl [.bool g4,.slice p4 n4 c4] 28 [.bool h4,.slice o4 m4 e4] 28
  have o2 := (hu_4.below hA4).raw
  have r2 := ((hi3.sets2 a0 rfl rfl (.bool g3) (.slice p3 n3 c3)).below hb4)
  have p2 := (r2.below hA4).raw
  (with_reducible refine (rdivide_any _ _ (y) (-(((Int.gcd (x) (y) : Int)))) _ o2 p2 (by omega) hlg hg0).mono ?_)
  rintro e w5 ⟨v5,u5,rfl,hi5,hj5,hb5⟩
  obtain ⟨g5,p5,n5,c5,rfl⟩ := hi5.form
  obtain ⟨h5,o5,m5,e5,rfl⟩ := hj5.form
  have o0 := (g2.to hb5)
  obtain ⟨a2,b2⟩ := o0.cs2
  have q2_5 := ((q2_4.to hA4).to hb5)
  obtain ⟨g0,k0,h0,l0,i0,m0,j0,n0⟩ := q2_5.cf4
  have q0_5 := ((q0_4.to hA4).to hb5)
  have a1 := (q0_5).1
  have q1_5 := ((q1_4.to hA4).to hb5)
  have h1 := (q1_5).1
  have m1 := (q2_5).1
  have r1 := ((b0.to hA4).to hb5)
  have r0 := (r1).1
  have t0 := (o0).1
  have s1 := (h2.to hb5)
  have v0 := (s1).1
  obtain ⟨hA5,b3⟩ := bx1 w5 rfl [.bool false,.slice none 0 0] 28
  have b1 := ((q0_5.to hA5)).1
  have i1 := ((q1_5.to hA5)).1
  have o1 := ((q2_5.to hA5)).1
  have s0 := ((r1.to hA5)).1
  have u0 := ((o0.to hA5)).1
  have w0 := ((s1.to hA5)).1
  obtain ⟨hA6,d3,e3⟩ := bx2 w5 rfl [.bool g5,.slice p5 n5 c5] 28 [.bool h5,.slice o5 m5 e5] 28
  have s2 := ((hi4.below hA4).below hb5)
  obtain ⟨hA7,f3,h3⟩ := bx2 ((((w5.setCell ⟨w.heap.size + 1 + 1,0,none⟩ (.bool g4)).setCell ⟨w.heap.size + 1 + 1,1,none⟩ (.slice p4 n4 c4)).setCell ⟨w.heap.size + 1 + 1,2,none⟩ (.bool g5)).setCell ⟨w.heap.size + 1 + 1,3,none⟩ (.slice p5 n5 c5)) (by simp : _ = w5.heap.size) [.bool g5,.slice p5 n5 c5] 28 [.bool h5,.slice o5 m5 e5] 28
  have t1 := (Below.tr (Below.tr (Below.tr (Below.sets2 (Below.tr (Below.tr (Below.tr (Below.tr (Below.tr hB_0 hA1) hb1) hA2) hb2) hb3) (b := w1.heap.size) (by omega) (.bool g3) (.slice p3 n3 c3)) hb4) hA4) hb5)
  go_wp2_with fail
  exact bodyPost_ret (v := .agg #[.bool g4,.slice p4 n4 c4,.bool g5,.slice p5 n5 c5]) (by simp [results,Tryz.results86,go_sem,x0,d1,j1,c0,e0,d0,f0,y0,e1,k1,p0,z0,f1,l1,q0,a1,h1,m1,r0,t0,v0,b1,i1,o1,s0,u0,w0,g0,k0,h0,l0,i0,m0,j0,n0]) rfl ⟨_,rfl,RQ.mk' ((s2.sets4 q2_5 rfl rfl rfl rfl (.bool g4) (.slice p4 n4 c4) (.bool g5) (.slice p5 n5 c5)).below hA7) ((hi5.sets4 q2_5 rfl rfl rfl rfl (.bool g4) (.slice p4 n4 c4) (.bool g5) (.slice p5 n5 c5)).below hA7) HX.out.1 HX.out.2,(Below.tr (Below.sets4 t1 (b := w.heap.size + 1 + 1) (by omega) (.bool g4) (.slice p4 n4 c4) (.bool g5) (.slice p5 n5 c5)) hA7)⟩
theorem rreducedQ_any (v u : Value) (x y : Int) (w : World) (hv : RInt w v x) (hu : RInt w u y) (hl : isz x ≤ 400000000) (hl2 : isz y ≤ 400000000) (hd : y ≠ 0) :
    Calls Tryz.prog 86 #[v,u] w (GQ (Rat.divInt x y) w) := by
  rcases Int.lt_trichotomy y 0 with h | h | h
  · exact rreducedQ_True v u x y w hv hu hl hl2 h
  · exact absurd h hd
  · exact rreducedQ_False v u x y w hv hu hl hl2 h
end Go.Proofs.YtidfgdchcpmnfaaGreat
namespace Go.Proofs.YtidfgdchcpmnfaaGreat
open Go.RowKit
set_option maxRecDepth 100000
set_option maxHeartbeats 4000000
set_option linter.unusedSimpArgs false
set_option linter.unusedVariables false
theorem rnewQ_ok (v u : Value) (x y : Int) (w : World) (hv : RInt w v x) (hu : RInt w u y) (hl : isz x ≤ 400000000) (hl2 : isz y ≤ 400000000) (hd : y ≠ 0) :
    Calls Tryz.prog 97 #[v,u] w (GQC (Rat.divInt x y) 0 w) := by
  obtain ⟨b,p,n,c,rfl⟩ := hv.form
  obtain ⟨d,o,m,e,rfl⟩ := hu.form
  have hsg2 : (sgn y == 0) = false := by have := sgn_ne hd;simpa using this
  have hB_0 : Below w.heap.size w w := Below.refl _ _
  go_enter Tryz.func97,Tryz.ntmps97
  go_wp2_with fail
  obtain ⟨hA1,j0,k0,l0⟩ := bx3 w rfl [.bool b,.slice p n c] 28 [.bool d,.slice o m e] 28 [.bool false,.slice none 0 0,.bool false,.slice none 0 0] 30
  have m0 := (hu.below hA1).raw
  (with_reducible refine (rsign_any _ (y) _ m0 (by omega)).mono ?_)
  rintro e w1 ⟨rfl,hb1⟩
  have q0_1 := (j0.to hb1)
  obtain ⟨p0,q0⟩ := q0_1.cs2
  have q1_1 := (k0.to hb1)
  obtain ⟨r0,s0⟩ := q1_1.cs2
  go_wp2_with fail
  have hv_1 := ((hv.below hA1).below hb1)
  have n0 := hv_1
  have hu_1 := ((hu.below hA1).below hb1)
  have o0 := hu_1
  (with_reducible refine (rreducedQ_any _ _ (x) (y) _ n0 o0 hl hl2 hd).mono ?_)
  rintro e w2 ⟨v2,rfl,hi2,hb2⟩
  obtain ⟨g2,p2,n2,c2,h2,o2,m2,e2,rfl⟩ := hi2.form
  have q2_2 := ((l0.to hb1).to hb2)
  obtain ⟨a0,e0,b0,f0,c0,g0,d0,h0⟩ := q2_2.cf4
  have i0 := (Below.tr (Below.tr (Below.tr hB_0 hA1) hb1) hb2)
  go_wp2_with fail
  exact bodyPost_ret (v := .tuple #[.agg #[.bool g2,.slice p2 n2 c2,.bool h2,.slice o2 m2 e2],.int .i64 0]) (by simp [results,Tryz.results97,go_sem,a0,e0,b0,f0,c0,g0,d0,h0]) rfl ⟨_,rfl,(hi2.sets4 q2_2 rfl rfl rfl rfl (.bool g2) (.slice p2 n2 c2) (.bool h2) (.slice o2 m2 e2)),(Below.sets4 i0 (b := w.heap.size + 1 + 1) (by omega) (.bool g2) (.slice p2 n2 c2) (.bool h2) (.slice o2 m2 e2))⟩
theorem isz_i64' {x : Int} (h0 : -9223372036854775808 ≤ x) (h1 : x ≤ 9223372036854775807) : isz x ≤ 400000000 :=
  Nat.le_trans (isz_le (k := 3) (by rw [BB_eq];omega)) (by omega)
theorem rofQ_any (i k : Int) (w : World) (h0 : -9223372036854775808 ≤ i) (h1 : i ≤ 9223372036854775807) (h2 : -9223372036854775808 ≤ k) (h3 : k ≤ 9223372036854775807) (hk : k ≠ 0) :
    Calls Tryz.prog 47 #[.int .i64 i,.int .i64 k] w (GQC (Rat.divInt i k) 0 w) := by
  have hz1 := isz_i64' h0 h1
  have hz2 := isz_i64' h2 h3
  have hB_0 : Below w.heap.size w w := Below.refl _ _
  go_enter Tryz.func47,Tryz.ntmps47
  go_wp2_with fail
  (with_reducible refine (rwhole_any _ _ (by omega) (by omega)).mono ?_)
  rintro e w1 ⟨v1,rfl,hi1,hb1⟩
  obtain ⟨g1,p1,n1,c1,rfl⟩ := hi1.form
  go_wp2_with fail
  (with_reducible refine (rwhole_any _ _ (by omega) (by omega)).mono ?_)
  rintro e w2 ⟨v2,rfl,hi2,hb2⟩
  obtain ⟨g2,p2,n2,c2,rfl⟩ := hi2.form
  go_wp2_with fail
  have n0 := (hi1.below hb2)
  have l0 := n0
  have m0 := hi2
  (with_reducible refine (rnewQ_ok _ _ (i) (k) _ l0 m0 hz1 hz2 hk).mono ?_)
  rintro e w3 ⟨v3,rfl,hi3,hb3⟩
  obtain ⟨g3,p3,n3,c3,h3,o3,m3,e3,rfl⟩ := hi3.form
  obtain ⟨hA1,k0⟩ := bx1 w rfl [.bool false,.slice none 0 0,.bool false,.slice none 0 0] 30
  have q0_3 := (((k0.to hb1).to hb2).to hb3)
  obtain ⟨a0,e0,b0,f0,c0,g0,d0,i0⟩ := q0_3.cf4
  have j0 := (Below.tr (Below.tr (Below.tr (Below.tr hB_0 hA1) hb1) hb2) hb3)
  go_wp2_with fail
  exact bodyPost_ret (v := .tuple #[.agg #[.bool g3,.slice p3 n3 c3,.bool h3,.slice o3 m3 e3],.int .i64 0]) (by simp [results,Tryz.results47,go_sem,a0,e0,b0,f0,c0,g0,d0,i0]) rfl ⟨_,rfl,(hi3.sets4 q0_3 rfl rfl rfl rfl (.bool g3) (.slice p3 n3 c3) (.bool h3) (.slice o3 m3 e3)),(Below.sets4 j0 (b := w.heap.size) (by omega) (.bool g3) (.slice p3 n3 c3) (.bool h3) (.slice o3 m3 e3))⟩
theorem rsignQ_any (v : Value) (q : Rat) (w : World) (fa : RQ w v q) (hl : rsz q ≤ 999999999) :
    Calls Tryz.prog 22 #[v] w (fun e w' => e = .returned (.int .i64 (sgn q.num)) ∧ Below w.heap.size w w') := by
  obtain ⟨b,p,n,c,d,o,m,e,rfl⟩ := fa.form
  have hb1 := rsz_num q
  have hb2 := rsz_den q
  have b0 := field_Rat_0
  have hB_0 : Below w.heap.size w w := Below.refl _ _
  go_enter Tryz.func22,Tryz.ntmps22
  go_wp2_with fail
  obtain ⟨hA1,e0⟩ := bx1 w rfl [.bool b,.slice p n c,.bool d,.slice o m e] 30
  have c0 := (fa.below hA1)
  (with_reducible refine (rvalueQ_any _ (q) _ c0 (by omega)).mono ?_)
  rintro e w1 ⟨v1,rfl,hi1,hb1⟩
  obtain ⟨g1,p1,n1,c1,h1,o1,m1,e1,rfl⟩ := hi1.form
  go_wp2_with fail
  have d0 := hi1.num.raw
  (with_reducible refine (rsign_any _ (((q)).num) _ d0 (by omega)).mono ?_)
  rintro e w2 ⟨rfl,hb2⟩
  have a0 := (Below.tr (Below.tr (Below.tr hB_0 hA1) hb1) hb2)
  go_wp2_with fail
  go_ret
  exact ⟨rfl,a0⟩
theorem rnegQ_any (v : Value) (q : Rat) (w : World) (fa : RQ w v q) (hl : rsz q ≤ 999999999) :
    Calls Tryz.prog 111 #[v] w (GQ (-q) w) := by
  obtain ⟨b,p,n,c,d,o,m,e,rfl⟩ := fa.form
  have hb1 := rsz_num q
  have hb2 := rsz_den q
  have hB_0 : Below w.heap.size w w := Below.refl _ _
  go_enter Tryz.func111,Tryz.ntmps111
  go_wp2_with fail
  obtain ⟨hA1,m0,n0⟩ := bx2 w rfl [.bool b,.slice p n c,.bool d,.slice o m e] 30 [.bool false,.slice none 0 0,.bool false,.slice none 0 0] 30
  have p0 := (fa.below hA1)
  (with_reducible refine (rvalueQ_any _ (q) _ p0 (by omega)).mono ?_)
  rintro e w1 ⟨v1,rfl,hi1,hb1⟩
  obtain ⟨g1,p1,n1,c1,h1,o1,m1,e1,rfl⟩ := hi1.form
  have q0_1 := (m0.to hb1)
  have i0 := (q0_1).1
  have q1_1 := (n0.to hb1)
  have j0 := (q1_1).1
  go_wp2_with fail
  obtain ⟨hA2,o0⟩ := bx1 w1 rfl [.bool g1,.slice p1 n1 c1,.bool h1,.slice o1 m1 e1] 30
  have S0_2 := (o0.drew).bs4
  have k0 : HeldC (w.heap.size + 1) (BS4 w1.heap.size (.bool g1) (.slice p1 n1 c1) (.bool h1) (.slice o1 m1 e1)) := (BS4.hc (by omega))
  have tk1 : True := trivial
  go_region_held3 (BS4 w1.heap.size (.bool g1) (.slice p1 n1 c1) (.bool h1) (.slice o1 m1 e1)) (first | with_reducible exact S0_2 | with_reducible exact HeldK.go BS4.hk (by assumption) (by assumption) | with_reducible exact HeldC.go4 k0 (by assumption) | (simp;done))
    (first
      | (((have := tk1);clear tk1;have q0 := (hi1.below hA2).drew.num.raw;go_at_call 126;(with_reducible refine (rneg_any _ (((q)).num) _ q0 (by omega)).mono ?_);rintro e w2 ⟨v2,rfl,hi2,hb2⟩;obtain ⟨g2,p2,n2,c2,rfl⟩ := hi2.form;have q1_2 := ((q1_1.to hA2).drew.to hb2);obtain ⟨a0,e0,b0,f0,c0,g0,d0,h0⟩ := q1_2.cf4)))
  have r0 := ((hi1.below hA2).drew.below hb2)
  have l0 := (Below.tr (Below.tr (Below.tr (Below.tr hB_0 hA1) hb1) hA2).drew hb2)
  go_wp2_with fail
  exact bodyPost_ret (v := .agg #[.bool g2,.slice p2 n2 c2,.bool h1,.slice o1 m1 e1]) (by simp [results,Tryz.results111,go_sem,i0,j0,a0,e0,b0,f0,c0,g0,d0,h0]) rfl ⟨_,rfl,RQ.mk' (hi2.sets4 q1_2 rfl rfl rfl rfl (.bool g2) (.slice p2 n2 c2) (.bool h1) (.slice o1 m1 e1)) (r0.sets4 q1_2 rfl rfl rfl rfl (.bool g2) (.slice p2 n2 c2) (.bool h1) (.slice o1 m1 e1)).den (rat_neg_num q).symm (by rw [rat_neg_den]),(Below.sets4 l0 (b := w.heap.size + 1) (by omega) (.bool g2) (.slice p2 n2 c2) (.bool h1) (.slice o1 m1 e1))⟩
theorem raddQ_any (v u : Value) (x y : Rat) (w : World) (fa : RQ w v x) (fb : RQ w u y) (hl : rsz x ≤ 190000000) (hl2 : rsz y ≤ 190000000) :
    Calls Tryz.prog 43 #[v,u] w (GQ (x + y) w) := by
  obtain ⟨b,p,n,c,d,o,m,e,rfl⟩ := fa.form
  obtain ⟨f,i,j,k,g,r,t,a,rfl⟩ := fb.form
  have hb1 := rsz_num x
  have hb2 := rsz_den x
  have hb3 := rsz_num y
  have hb4 := rsz_den y
  have hc1 := isz_mul x.num y.den
  have hc2 := isz_mul y.num x.den
  have hc3 := isz_add (x.num * y.den) (y.num * x.den)
  have hc4 := isz_mul x.den y.den
  have HX := Lib.hid (rat_add x y)
  have hd0 := den_mul_ne x y
  have hB_0 : Below w.heap.size w w := Below.refl _ _
  go_enter Tryz.func43,Tryz.ntmps43
  go_wp2_with fail
  obtain ⟨hA1,v0,w0,x0⟩ := bx3 w rfl [.bool b,.slice p n c,.bool d,.slice o m e] 30 [.bool f,.slice i j k,.bool g,.slice r t a] 30 [.bool false,.slice none 0 0,.bool false,.slice none 0 0] 30
  have a1 := (fa.below hA1)
  (with_reducible refine (rvalueQ_any _ (x) _ a1 (by omega)).mono ?_)
  rintro e w1 ⟨v1,rfl,hi1,hb1⟩
  obtain ⟨g1,p1,n1,c1,h1,o1,m1,e1,rfl⟩ := hi1.form
  have q1_1 := (w0.to hb1)
  obtain ⟨a2,b2,d2,f2⟩ := q1_1.cs4
  have q0_1 := (v0.to hb1)
  have j0 := (q0_1).1
  have l0 := (q1_1).1
  have q2_1 := (x0.to hb1)
  have n0 := (q2_1).1
  go_wp2_with fail
  have fb_1 := ((fb.below hA1).below hb1)
  obtain ⟨hA2,y0⟩ := bx1 w1 rfl [.bool g1,.slice p1 n1 c1,.bool h1,.slice o1 m1 e1] 30
  have b1 := (fb_1.below hA2)
  (with_reducible refine (rvalueQ_any _ (y) _ b1 (by omega)).mono ?_)
  rintro e w2 ⟨v2,rfl,hi2,hb2⟩
  obtain ⟨g2,p2,n2,c2,h2,o2,m2,e2,rfl⟩ := hi2.form
  have q0_2 := ((q0_1.to hA2).to hb2)
  have k0 := (q0_2).1
  have q1_2 := ((q1_1.to hA2).to hb2)
  have m0 := (q1_2).1
  have q2_2 := ((q2_1.to hA2).to hb2)
  have o0 := (q2_2).1
  have s0 := (y0.to hb2)
  have i0 := (s0).1
  go_wp2_with fail
  obtain ⟨hA3,z0⟩ := bx1 w2 rfl [.bool g2,.slice p2 n2 c2,.bool h2,.slice o2 m2 e2] 30
  have S0_3 := (AndS.mk ((s0.to hA3).drew).bs4 (z0.drew).bs4)
  have t0 : HeldC (w.heap.size + 1 + 1) (AndS (BS4 w1.heap.size (.bool g1) (.slice p1 n1 c1) (.bool h1) (.slice o1 m1 e1)) (BS4 w2.heap.size (.bool g2) (.slice p2 n2 c2) (.bool h2) (.slice o2 m2 e2))) := (AndS.hc (BS4.hc (by omega)) (BS4.hc (by omega)))
  have tk1 : True := trivial
  have tk2 : True := trivial
  have tk3 : True := trivial
  have tk4 : True := trivial
  have tk5 : True := trivial
  go_region_held3 (AndS (BS4 w1.heap.size (.bool g1) (.slice p1 n1 c1) (.bool h1) (.slice o1 m1 e1)) (BS4 w2.heap.size (.bool g2) (.slice p2 n2 c2) (.bool h2) (.slice o2 m2 e2))) (first | with_reducible exact S0_3 | with_reducible exact HeldK.go (AndS.hk BS4.hk BS4.hk) (by assumption) (by assumption) | with_reducible exact HeldC.go4 t0 (by assumption) | (simp;done))
    (first
      | (((have := tk1);clear tk1;have p0 := ((hi1.below hA2).below hb2);have d1 := (p0.below hA3).drew.num.raw;have f1 := (hi2.below hA3).drew.den.raw;go_at_call 88;(with_reducible refine (rmul_any _ _ (((x)).num) ((((y)).den : Int)) _ d1 f1 (by omega) (by omega)).mono ?_);rintro e w3 ⟨v3,rfl,hi3,hb3⟩;obtain ⟨g3,p3,n3,c3,rfl⟩ := hi3.form))
      | (((have := tk2);clear tk2;have r0 := ((hi2.below hA3).drew.below hb3);have i1 := r0.num.raw;have q0 := ((p0.below hA3).drew.below hb3);have j1 := q0.den.raw;go_at_call 88;(with_reducible refine (rmul_any _ _ (((y)).num) ((((x)).den : Int)) _ i1 j1 (by omega) (by omega)).mono ?_);rintro e w4 ⟨v4,rfl,hi4,hb4⟩;obtain ⟨g4,p4,n4,c4,rfl⟩ := hi4.form))
      | (((have := tk3);clear tk3;have y1 := (hi3.below hb4);have k1 := y1.raw;have l1 := hi4.raw;go_at_call 87;(with_reducible refine (radd_any _ _ ((((x)).num) * ((((y)).den : Int))) ((((y)).num) * ((((x)).den : Int))) _ k1 l1 (by omega) (by omega)).mono ?_);rintro e w5 ⟨v5,rfl,hi5,hb5⟩;obtain ⟨g5,p5,n5,c5,rfl⟩ := hi5.form))
      | (((have := tk4);clear tk4;have u1 := ((q0.below hb4).below hb5);have q1 := u1.den.raw;have x1 := ((r0.below hb4).below hb5);have r1 := x1.den.raw;go_at_call 88;(with_reducible refine (rmul_any _ _ ((((x)).den : Int)) ((((y)).den : Int)) _ q1 r1 (by omega) (by omega)).mono ?_);rintro e w6 ⟨v6,rfl,hi6,hb6⟩;obtain ⟨g6,p6,n6,c6,rfl⟩ := hi6.form))
      | (((have := tk5);clear tk5;have z1 := (hi5.below hb6);have s1 := z1;have t1 := hi6;go_at_call 86;(with_reducible refine (rreducedQ_any _ _ (((((x)).num) * ((((y)).den : Int))) + ((((y)).num) * ((((x)).den : Int)))) (((((x)).den : Int)) * ((((y)).den : Int))) _ s1 t1 (by omega) (by omega) hd0).mono ?_);rintro e w7 ⟨v7,rfl,hi7,hb7⟩;obtain ⟨g7,p7,n7,c7,h7,o7,m7,e7,rfl⟩ := hi7.form;have q2_7 := ((((((q2_2.to hA3).drew.to hb3).to hb4).to hb5).to hb6).to hb7);obtain ⟨a0,e0,b0,f0,c0,g0,d0,h0⟩ := q2_7.cf4)))
  have u0 := (Below.tr (Below.tr (Below.tr (Below.tr (Below.tr (Below.tr (Below.tr (Below.tr (Below.tr (Below.tr hB_0 hA1) hb1) hA2) hb2) hA3).drew hb3) hb4) hb5) hb6) hb7)
  go_wp2_with fail
  exact bodyPost_ret (v := .agg #[.bool g7,.slice p7 n7 c7,.bool h7,.slice o7 m7 e7]) (by simp [results,Tryz.results43,go_sem,j0,l0,n0,k0,m0,o0,i0,a0,e0,b0,f0,c0,g0,d0,h0]) rfl ⟨_,rfl,by rw [← HX.out];exact (hi7.sets4 q2_7 rfl rfl rfl rfl (.bool g7) (.slice p7 n7 c7) (.bool h7) (.slice o7 m7 e7)),(Below.sets4 u0 (b := w.heap.size + 1 + 1) (by omega) (.bool g7) (.slice p7 n7 c7) (.bool h7) (.slice o7 m7 e7))⟩
theorem rmulQ_any (v u : Value) (x y : Rat) (w : World) (fa : RQ w v x) (fb : RQ w u y) (hl : rsz x ≤ 190000000) (hl2 : rsz y ≤ 190000000) :
    Calls Tryz.prog 44 #[v,u] w (GQ (x * y) w) := by
  obtain ⟨b,p,n,c,d,o,m,e,rfl⟩ := fa.form
  obtain ⟨f,i,j,k,g,r,t,a,rfl⟩ := fb.form
  have hb1 := rsz_num x
  have hb2 := rsz_den x
  have hb3 := rsz_num y
  have hb4 := rsz_den y
  have hc1 := isz_mul x.num y.num
  have hc4 := isz_mul x.den y.den
  have HX := Lib.hid (rat_mul x y)
  have hd0 := den_mul_ne x y
  have hB_0 : Below w.heap.size w w := Below.refl _ _
  go_enter Tryz.func44,Tryz.ntmps44
  go_wp2_with fail
  obtain ⟨hA1,t0,u0,v0⟩ := bx3 w rfl [.bool b,.slice p n c,.bool d,.slice o m e] 30 [.bool f,.slice i j k,.bool g,.slice r t a] 30 [.bool false,.slice none 0 0,.bool false,.slice none 0 0] 30
  have y0 := (fa.below hA1)
  (with_reducible refine (rvalueQ_any _ (x) _ y0 (by omega)).mono ?_)
  rintro e w1 ⟨v1,rfl,hi1,hb1⟩
  obtain ⟨g1,p1,n1,c1,h1,o1,m1,e1,rfl⟩ := hi1.form
  have q1_1 := (u0.to hb1)
  obtain ⟨r1,s1,t1,u1⟩ := q1_1.cs4
  have q0_1 := (t0.to hb1)
  have j0 := (q0_1).1
  have l0 := (q1_1).1
  have q2_1 := (v0.to hb1)
  have n0 := (q2_1).1
  go_wp2_with fail
  have fb_1 := ((fb.below hA1).below hb1)
  obtain ⟨hA2,w0⟩ := bx1 w1 rfl [.bool g1,.slice p1 n1 c1,.bool h1,.slice o1 m1 e1] 30
  have z0 := (fb_1.below hA2)
  (with_reducible refine (rvalueQ_any _ (y) _ z0 (by omega)).mono ?_)
  rintro e w2 ⟨v2,rfl,hi2,hb2⟩
  obtain ⟨g2,p2,n2,c2,h2,o2,m2,e2,rfl⟩ := hi2.form
  have q0_2 := ((q0_1.to hA2).to hb2)
  have k0 := (q0_2).1
  have q1_2 := ((q1_1.to hA2).to hb2)
  have m0 := (q1_2).1
  have q2_2 := ((q2_1.to hA2).to hb2)
  have o0 := (q2_2).1
  have q0 := (w0.to hb2)
  have i0 := (q0).1
  go_wp2_with fail
  obtain ⟨hA3,x0⟩ := bx1 w2 rfl [.bool g2,.slice p2 n2 c2,.bool h2,.slice o2 m2 e2] 30
  have S0_3 := (AndS.mk ((q0.to hA3).drew).bs4 (x0.drew).bs4)
  have r0 : HeldC (w.heap.size + 1 + 1) (AndS (BS4 w1.heap.size (.bool g1) (.slice p1 n1 c1) (.bool h1) (.slice o1 m1 e1)) (BS4 w2.heap.size (.bool g2) (.slice p2 n2 c2) (.bool h2) (.slice o2 m2 e2))) := (AndS.hc (BS4.hc (by omega)) (BS4.hc (by omega)))
  have tk1 : True := trivial
  have tk2 : True := trivial
  have tk3 : True := trivial
  go_region_held3 (AndS (BS4 w1.heap.size (.bool g1) (.slice p1 n1 c1) (.bool h1) (.slice o1 m1 e1)) (BS4 w2.heap.size (.bool g2) (.slice p2 n2 c2) (.bool h2) (.slice o2 m2 e2))) (first | with_reducible exact S0_3 | with_reducible exact HeldK.go (AndS.hk BS4.hk BS4.hk) (by assumption) (by assumption) | with_reducible exact HeldC.go4 r0 (by assumption) | (simp;done))
    (first
      | (((have := tk1);clear tk1;have p0 := ((hi1.below hA2).below hb2);have a1 := (p0.below hA3).drew.num.raw;have b1 := (hi2.below hA3).drew.num.raw;go_at_call 88;(with_reducible refine (rmul_any _ _ (((x)).num) (((y)).num) _ a1 b1 (by omega) (by omega)).mono ?_);rintro e w3 ⟨v3,rfl,hi3,hb3⟩;obtain ⟨g3,p3,n3,c3,rfl⟩ := hi3.form))
      | (((have := tk2);clear tk2;have k1 := ((p0.below hA3).drew.below hb3);have d1 := k1.den.raw;have l1 := ((hi2.below hA3).drew.below hb3);have f1 := l1.den.raw;go_at_call 88;(with_reducible refine (rmul_any _ _ ((((x)).den : Int)) ((((y)).den : Int)) _ d1 f1 (by omega) (by omega)).mono ?_);rintro e w4 ⟨v4,rfl,hi4,hb4⟩;obtain ⟨g4,p4,n4,c4,rfl⟩ := hi4.form))
      | (((have := tk3);clear tk3;have q1 := (hi3.below hb4);have i1 := q1;have j1 := hi4;go_at_call 86;(with_reducible refine (rreducedQ_any _ _ ((((x)).num) * (((y)).num)) (((((x)).den : Int)) * ((((y)).den : Int))) _ i1 j1 (by omega) (by omega) hd0).mono ?_);rintro e w5 ⟨v5,rfl,hi5,hb5⟩;obtain ⟨g5,p5,n5,c5,h5,o5,m5,e5,rfl⟩ := hi5.form;have q2_5 := ((((q2_2.to hA3).drew.to hb3).to hb4).to hb5);obtain ⟨a0,e0,b0,f0,c0,g0,d0,h0⟩ := q2_5.cf4)))
  have s0 := (Below.tr (Below.tr (Below.tr (Below.tr (Below.tr (Below.tr (Below.tr (Below.tr hB_0 hA1) hb1) hA2) hb2) hA3).drew hb3) hb4) hb5)
  go_wp2_with fail
  exact bodyPost_ret (v := .agg #[.bool g5,.slice p5 n5 c5,.bool h5,.slice o5 m5 e5]) (by simp [results,Tryz.results44,go_sem,j0,l0,n0,k0,m0,o0,i0,a0,e0,b0,f0,c0,g0,d0,h0]) rfl ⟨_,rfl,by rw [← HX.out];exact (hi5.sets4 q2_5 rfl rfl rfl rfl (.bool g5) (.slice p5 n5 c5) (.bool h5) (.slice o5 m5 e5)),(Below.sets4 s0 (b := w.heap.size + 1 + 1) (by omega) (.bool g5) (.slice p5 n5 c5) (.bool h5) (.slice o5 m5 e5))⟩
theorem rsubQ_any (v u : Value) (x y : Rat) (w : World) (fa : RQ w v x) (fb : RQ w u y) (hl : rsz x ≤ 190000000) (hl2 : rsz y ≤ 190000000) :
    Calls Tryz.prog 78 #[v,u] w (GQ (x - y) w) := by
  obtain ⟨b,p,n,c,d,o,m,e,rfl⟩ := fa.form
  obtain ⟨f,i,j,k,g,r,t,a,rfl⟩ := fb.form
  have hb1 := rsz_num x
  have hb2 := rsz_den x
  have hb3 := rsz_num y
  have hb4 := rsz_den y
  have hc5 : rsz (-y) ≤ 190000000 := by rw [rsz_neg];exact hl2
  have hB_0 : Below w.heap.size w w := Below.refl _ _
  go_enter Tryz.func78,Tryz.ntmps78
  go_wp2_with fail
  obtain ⟨hA1,l0,m0,i0⟩ := bx3 w rfl [.bool b,.slice p n c,.bool d,.slice o m e] 30 [.bool f,.slice i j k,.bool g,.slice r t a] 30 [.bool false,.slice none 0 0,.bool false,.slice none 0 0] 30
  have S0_1 := (AndS.mk (l0.drew).bs4 (AndS.mk (m0.drew).bs4 (BN.of (i0.drew))))
  have j0 : HeldC (w.heap.size + 1 + 1) (AndS (BS4 w.heap.size (.bool b) (.slice p n c) (.bool d) (.slice o m e)) (AndS (BS4 (w.heap.size + 1) (.bool f) (.slice i j k) (.bool g) (.slice r t a)) (BN (w.heap.size + 1 + 1)))) := (AndS.hc (BS4.hc (by omega)) (AndS.hc (BS4.hc (by omega)) BN.hc))
  have tk1 : True := trivial
  have tk2 : True := trivial
  go_region_held3 (AndS (BS4 w.heap.size (.bool b) (.slice p n c) (.bool d) (.slice o m e)) (AndS (BS4 (w.heap.size + 1) (.bool f) (.slice i j k) (.bool g) (.slice r t a)) (BN (w.heap.size + 1 + 1)))) (first | with_reducible exact S0_1 | with_reducible exact HeldK.go (AndS.hk BS4.hk (AndS.hk BS4.hk BN.hk)) (by assumption) (by assumption) | with_reducible exact HeldC.go4 j0 (by assumption) | (simp;done))
    (first
      | (((have := tk1);clear tk1;have n0 := (fb.below hA1).drew;go_at_call 111;(with_reducible refine (rnegQ_any _ (y) _ n0 (by omega)).mono ?_);rintro e w1 ⟨v1,rfl,hi1,hb1⟩;obtain ⟨g1,p1,n1,c1,h1,o1,m1,e1,rfl⟩ := hi1.form))
      | (((have := tk2);clear tk2;have fa_1 := ((fa.below hA1).drew.below hb1);have o0 := fa_1;have p0 := hi1;go_at_call 43;(with_reducible refine (raddQ_any _ _ (x) (-(y)) _ o0 p0 hl hc5).mono ?_);rintro e w2 ⟨v2,rfl,hi2,hb2⟩;obtain ⟨g2,p2,n2,c2,h2,o2,m2,e2,rfl⟩ := hi2.form;have q2_2 := ((i0.drew.to hb1).to hb2);obtain ⟨a0,e0,b0,f0,c0,g0,d0,h0⟩ := q2_2.cf4)))
  have k0 := (Below.tr (Below.tr (Below.tr hB_0 hA1).drew hb1) hb2)
  go_wp2_with fail
  exact bodyPost_ret (v := .agg #[.bool g2,.slice p2 n2 c2,.bool h2,.slice o2 m2 e2]) (by simp [results,Tryz.results78,go_sem,a0,e0,b0,f0,c0,g0,d0,h0]) rfl ⟨_,rfl,by rw [Rat.sub_eq_add_neg];exact (hi2.sets4 q2_2 rfl rfl rfl rfl (.bool g2) (.slice p2 n2 c2) (.bool h2) (.slice o2 m2 e2)),(Below.sets4 k0 (b := w.heap.size + 1 + 1) (by omega) (.bool g2) (.slice p2 n2 c2) (.bool h2) (.slice o2 m2 e2))⟩
theorem sgn_subQ (x y : Rat) : sgn (x - y).num = cmpQ x y := by
  unfold cmpQ
  have h1 := Rat.lt_iff (x - y) 0
  have h2 := Rat.lt_iff 0 (x - y)
  simp at h1 h2
  by_cases hx : x < y
  · rw [if_pos hx,sgn_neg (h1.1 (by grind))]
  · rw [if_neg hx]
    by_cases hy : y < x
    · rw [if_pos hy,sgn_pos (h2.1 (by grind))]
    · rw [if_neg hy]
      have : x - y = 0 := by grind
      rw [this];rfl
theorem rcompareQ_any (v u : Value) (x y : Rat) (w : World) (fa : RQ w v x) (fb : RQ w u y) (hl : rsz x ≤ 190000000) (hl2 : rsz y ≤ 190000000) :
    Calls Tryz.prog 23 #[v,u] w (fun e w' => e = .returned (.int .i64 (cmpQ x y)) ∧ Below w.heap.size w w') := by
  obtain ⟨b,p,n,c,d,o,m,e,rfl⟩ := fa.form
  obtain ⟨f,i,j,k,g,r,t,a,rfl⟩ := fb.form
  have hb1 := rsz_num x
  have hb2 := rsz_den x
  have hb3 := rsz_num y
  have hb4 := rsz_den y
  have hc5 := rsz_sub x y
  have hB_0 : Below w.heap.size w w := Below.refl _ _
  go_enter Tryz.func23,Tryz.ntmps23
  go_wp2_with fail
  obtain ⟨hA1,e0,f0⟩ := bx2 w rfl [.bool b,.slice p n c,.bool d,.slice o m e] 30 [.bool f,.slice i j k,.bool g,.slice r t a] 30
  have b0 := (fa.below hA1)
  have c0 := (fb.below hA1)
  (with_reducible refine (rsubQ_any _ _ (x) (y) _ b0 c0 hl hl2).mono ?_)
  rintro e w1 ⟨v1,rfl,hi1,hb1⟩
  obtain ⟨g1,p1,n1,c1,h1,o1,m1,e1,rfl⟩ := hi1.form
  go_wp2_with fail
  have d0 := hi1
  (with_reducible refine (rsignQ_any _ ((x) - (y)) _ d0 (by omega)).mono ?_)
  rintro e w2 ⟨rfl,hb2⟩
  have a0 := (Below.tr (Below.tr (Below.tr hB_0 hA1) hb1) hb2)
  go_wp2_with fail
  go_ret
  exact ⟨ret_int (sgn_subQ x y),a0⟩
end Go.Proofs.YtidfgdchcpmnfaaGreat
namespace Go.Proofs.YtidfgdchcpmnfaaGreat
open Go.RowKit
set_option maxRecDepth 100000
set_option maxHeartbeats 4000000
set_option linter.unusedSimpArgs false
set_option linter.unusedVariables false
theorem rsame_any (v u : Value) (x y : Rat) (w : World) (fa : RQ w v x) (fb : RQ w u y) (hl : rsz x ≤ 190000000) (hl2 : rsz y ≤ 190000000) :
    Calls Tryz.prog 75 #[v,u] w (GB (decide (x = y)) w) := by
  have hn1 := fa.qn (k := 999999999) (by omega)
  have hn2 := fb.qn (k := 999999999) (by omega)
  obtain ⟨b,p,n,c,d,o,m,e,rfl⟩ := fa.form
  obtain ⟨f,i,j,k,g,r,t,a,rfl⟩ := fb.form
  have HX : Hid ((cmpQ x y == 0) = decide (x = y)) := Lib.hid (by
    have := cmpQ_zero x y
    rw [Bool.eq_iff_iff]
    simp only [beq_iff_eq,decide_eq_true_eq]
    exact this)
  have hB_0 : Below w.heap.size w w := Below.refl _ _
  go_enter Tryz.func75,Tryz.ntmps75
  go_wp2_with fail
  obtain ⟨hA1,b0,c0⟩ := bx2 w rfl [.bool b,.slice p n c,.bool d,.slice o m e] 30 [.bool f,.slice i j k,.bool g,.slice r t a] 30
  have d0 := (fa.below hA1).raw
  (with_reducible refine (rvalidQ_any _ _ _ _ d0 hn1).mono ?_)
  rintro e w1 ⟨rfl,hb1⟩
  have q1_1 := (c0.to hb1)
  obtain ⟨l0,n0,p0,r0⟩ := q1_1.cs4
  go_wp2_with fail
  have fb_1 := ((fb.below hA1).below hb1)
  have e0 := fb_1.raw
  (with_reducible refine (rvalidQ_any _ _ _ _ e0 hn2).mono ?_)
  rintro e w2 ⟨rfl,hb2⟩
  have q0_2 := ((b0.to hb1).to hb2)
  obtain ⟨h0,i0,j0,k0⟩ := q0_2.cs4
  have q1_2 := (q1_1.to hb2)
  obtain ⟨m0,o0,q0,s0⟩ := q1_2.cs4
  go_wp2_with fail
  have fa_2 := (((fa.below hA1).below hb1).below hb2)
  have f0 := fa_2
  have fb_2 := (fb_1.below hb2)
  have g0 := fb_2
  (with_reducible refine (rcompareQ_any _ _ (x) (y) _ f0 g0 hl hl2).mono ?_)
  rintro e w3 ⟨rfl,hb3⟩
  have a0 := (Below.tr (Below.tr (Below.tr (Below.tr hB_0 hA1) hb1) hb2) hb3)
  go_wp2_with fail
  go_ret
  exact ⟨ret_bool HX.out,a0⟩
theorem rsameRat_any (v u : Value) (x y : Rat) (w : World) (fa : RQ w v x) (fb : RQ w u y) (hl : rsz x ≤ 190000000) (hl2 : rsz y ≤ 190000000) :
    Calls Tryz.prog 21 #[v,u] w (GB (decide (x = y)) w) := by
  obtain ⟨b,p,n,c,d,o,m,e,rfl⟩ := fa.form
  obtain ⟨f,i,j,k,g,r,t,a,rfl⟩ := fb.form
  have hB_0 : Below w.heap.size w w := Below.refl _ _
  go_enter Tryz.func21,Tryz.ntmps21
  go_wp2_with fail
  obtain ⟨hA1,d0,e0⟩ := bx2 w rfl [.bool b,.slice p n c,.bool d,.slice o m e] 30 [.bool f,.slice i j k,.bool g,.slice r t a] 30
  have b0 := (fa.below hA1)
  have c0 := (fb.below hA1)
  (with_reducible refine (rsame_any _ _ _ _ _ b0 c0 hl hl2).mono ?_)
  rintro e w1 ⟨rfl,hb1⟩
  have a0 := (Below.tr (Below.tr hB_0 hA1) hb1)
  go_wp2_with fail
  go_ret
  exact ⟨rfl,a0⟩
end Go.Proofs.YtidfgdchcpmnfaaGreat
