/-
  Lemmas for the theorem vchords_holds, part 27 of 33.
-/
import Derived.Test.YtidfgdchcpmnfaaGreatCd06
import Derived.Test.YtidfgdchcpmnfaaGreatCd11
import Derived.Test.YtidfgdchcpmnfaaGreatCd26
namespace Go.Proofs.YtidfgdchcpmnfaaGreat
open Go.RowKit
set_option maxRecDepth 100000
set_option maxHeartbeats 4000000
set_option linter.unusedSimpArgs false
set_option linter.unusedVariables false
theorem fdiv_of_dvd {x y : Int} (h : y ∣ x) : x.fdiv y = x / y := by
  rw [Int.fdiv_eq_ediv,if_pos (.inr h),Int.sub_zero]
theorem rfdiv_pos {n d : Int} (hd : 0 < d) : n.fdiv ((Int.gcd n d : Nat) : Int) = (Rat.divInt n d).num ∧ d.fdiv ((Int.gcd n d : Nat) : Int) = (Rat.divInt n d).den := by
  rw [divInt_num_pos hd,divInt_den_pos hd]
  exact ⟨fdiv_of_dvd (Int.gcd_dvd_left _ _),fdiv_of_dvd (Int.gcd_dvd_right _ _)⟩
theorem rfdiv_neg {n d : Int} (hd : d < 0) : n.fdiv (-((Int.gcd n d : Nat) : Int)) = (Rat.divInt n d).num ∧ d.fdiv (-((Int.gcd n d : Nat) : Int)) = (Rat.divInt n d).den := by
  rw [divInt_num_neg hd,divInt_den_neg hd]
  exact ⟨fdiv_of_dvd (Int.neg_dvd.2 (Int.gcd_dvd_left _ _)),fdiv_of_dvd (Int.neg_dvd.2 (Int.gcd_dvd_right _ _))⟩
theorem rwhole_any (k : Int) (w : World) (h0 : -9223372036854775808 ≤ k) (h1 : k ≤ 9223372036854775807) :
    Calls Tryz.prog 98 #[.int .i64 k] w (GInt k w) := by
  have hB_0 : Below w.heap.size w w := Below.refl _ _
  go_enter Tryz.func98,Tryz.ntmps98
  go_wp2_with fail
  (with_reducible refine (rof_any _ _ (by omega) (by omega)).mono ?_)
  rintro e w1 ⟨v1,rfl,hi1,hb1⟩
  obtain ⟨g1,p1,n1,c1,rfl⟩ := hi1.form
  obtain ⟨hA1,f0⟩ := bx1 w rfl [.bool false,.slice none 0 0] 28
  have q0_1 := (f0.to hb1)
  obtain ⟨a0,c0,b0,d0⟩ := q0_1.cf2
  have e0 := (Below.tr (Below.tr hB_0 hA1) hb1)
  go_wp2_with fail
  exact bodyPost_ret (v := .agg #[.bool g1,.slice p1 n1 c1]) (by simp [results,Tryz.results98,go_sem,a0,c0,b0,d0]) rfl ⟨_,rfl,(hi1.sets2 q0_1 rfl rfl (.bool g1) (.slice p1 n1 c1)),(Below.sets2 e0 (b := w.heap.size) (by omega) (.bool g1) (.slice p1 n1 c1))⟩
theorem rWholeQ_any (k : Int) (w : World) (h0 : -9223372036854775808 ≤ k) (h1 : k ≤ 9223372036854775807) :
    Calls Tryz.prog 79 #[.int .i64 k] w (GQ (k : Rat) w) := by
  have hB_0 : Below w.heap.size w w := Below.refl _ _
  go_enter Tryz.func79,Tryz.ntmps79
  go_wp2_with fail
  (with_reducible refine (rwhole_any _ _ (by omega) (by omega)).mono ?_)
  rintro e w1 ⟨v1,rfl,hi1,hb1⟩
  obtain ⟨g1,p1,n1,c1,rfl⟩ := hi1.form
  go_wp2_with fail
  (with_reducible refine (rwhole_any _ _ (by omega) (by omega)).mono ?_)
  rintro e w2 ⟨v2,rfl,hi2,hb2⟩
  obtain ⟨g2,p2,n2,c2,rfl⟩ := hi2.form
  obtain ⟨hA1,k0⟩ := bx1 w rfl [.bool false,.slice none 0 0,.bool false,.slice none 0 0] 30
  have q0_2 := ((k0.to hb1).to hb2)
  obtain ⟨a0,e0,b0,f0,c0,g0,d0,i0⟩ := q0_2.cf4
  have l0 := (hi1.below hb2)
  have j0 := (Below.tr (Below.tr (Below.tr hB_0 hA1) hb1) hb2)
  go_wp2_with fail
  exact bodyPost_ret (v := .agg #[.bool g1,.slice p1 n1 c1,.bool g2,.slice p2 n2 c2]) (by simp [results,Tryz.results79,go_sem,a0,e0,b0,f0,c0,g0,d0,i0]) rfl ⟨_,rfl,RQ.mk' (l0.sets4 q0_2 rfl rfl rfl rfl (.bool g1) (.slice p1 n1 c1) (.bool g2) (.slice p2 n2 c2)) (hi2.sets4 q0_2 rfl rfl rfl rfl (.bool g1) (.slice p1 n1 c1) (.bool g2) (.slice p2 n2 c2)) (int_num k).symm (by rw [int_den];rfl),(Below.sets4 j0 (b := w.heap.size) (by omega) (.bool g1) (.slice p1 n1 c1) (.bool g2) (.slice p2 n2 c2))⟩
theorem rIntQ_any (k : Int) (w : World) (h0 : -9223372036854775808 ≤ k) (h1 : k ≤ 9223372036854775807) :
    Calls Tryz.prog 24 #[.int .i64 k] w (GQ (k : Rat) w) := by
  have hB_0 : Below w.heap.size w w := Below.refl _ _
  go_enter Tryz.func24,Tryz.ntmps24
  go_wp2_with fail
  (with_reducible refine (rWholeQ_any _ _ (by omega) (by omega)).mono ?_)
  rintro e w1 ⟨v1,rfl,hi1,hb1⟩
  obtain ⟨g1,p1,n1,c1,h1,o1,m1,e1,rfl⟩ := hi1.form
  obtain ⟨hA1,k0⟩ := bx1 w rfl [.bool false,.slice none 0 0,.bool false,.slice none 0 0] 30
  have q0_1 := (k0.to hb1)
  obtain ⟨a0,e0,b0,f0,c0,g0,d0,i0⟩ := q0_1.cf4
  have j0 := (Below.tr (Below.tr hB_0 hA1) hb1)
  go_wp2_with fail
  exact bodyPost_ret (v := .agg #[.bool g1,.slice p1 n1 c1,.bool h1,.slice o1 m1 e1]) (by simp [results,Tryz.results24,go_sem,a0,e0,b0,f0,c0,g0,d0,i0]) rfl ⟨_,rfl,(hi1.sets4 q0_1 rfl rfl rfl rfl (.bool g1) (.slice p1 n1 c1) (.bool h1) (.slice o1 m1 e1)),(Below.sets4 j0 (b := w.heap.size) (by omega) (.bool g1) (.slice p1 n1 c1) (.bool h1) (.slice o1 m1 e1))⟩
theorem rvalidQ_fff (x y : Int) (w : World) (b d : Bool) (p o : Option Addr) (n c m e : Nat) (k1 : RawV w (.agg #[.bool b,.slice p n c]) false x) (k2 : RawV w (.agg #[.bool d,.slice o m e]) false y) (hl : isz x ≤ 999999999) (hl2 : isz y ≤ 999999999) :
    Calls Tryz.prog 84 #[.agg #[.bool b,.slice p n c,.bool d,.slice o m e]] w fun e w' => e = .returned (.bool (false && (false && (decide (0 < y) && decide (Int.gcd x y = 1))))) ∧ Below w.heap.size w w' := by
  have HX : Hid (false = (false && (false && (decide (0 < y) && decide (Int.gcd x y = 1))))) := by unfold Hid;simp
  have hB_0 : Below w.heap.size w w := Below.refl _ _
  go_enter Tryz.func84,Tryz.ntmps84
  go_wp2_with fail
  obtain ⟨hA1,c0⟩ := bx1 w rfl [.bool b,.slice p n c,.bool d,.slice o m e] 30
  have b0 := (k1.below hA1)
  (with_reducible refine (rvalid_any _ _ _ _ b0).mono ?_)
  rintro e w1 ⟨rfl,hb1⟩
  have a0 := (Below.tr (Below.tr hB_0 hA1) hb1)
  go_wp2_with fail
  go_ret
  exact ⟨ret_bool HX.out,a0⟩
theorem rvalidQ_ftf (x y : Int) (w : World) (b d : Bool) (p o : Option Addr) (n c m e : Nat) (k1 : RawV w (.agg #[.bool b,.slice p n c]) false x) (k2 : RawV w (.agg #[.bool d,.slice o m e]) true y) (hl : isz x ≤ 999999999) (hl2 : isz y ≤ 999999999) :
    Calls Tryz.prog 84 #[.agg #[.bool b,.slice p n c,.bool d,.slice o m e]] w fun e w' => e = .returned (.bool (false && (true && (decide (0 < y) && decide (Int.gcd x y = 1))))) ∧ Below w.heap.size w w' := by
  have HX : Hid (false = (false && (true && (decide (0 < y) && decide (Int.gcd x y = 1))))) := by unfold Hid;simp
  have hB_0 : Below w.heap.size w w := Below.refl _ _
  go_enter Tryz.func84,Tryz.ntmps84
  go_wp2_with fail
  obtain ⟨hA1,c0⟩ := bx1 w rfl [.bool b,.slice p n c,.bool d,.slice o m e] 30
  have b0 := (k1.below hA1)
  (with_reducible refine (rvalid_any _ _ _ _ b0).mono ?_)
  rintro e w1 ⟨rfl,hb1⟩
  have a0 := (Below.tr (Below.tr hB_0 hA1) hb1)
  go_wp2_with fail
  go_ret
  exact ⟨ret_bool HX.out,a0⟩
theorem rvalidQ_tff (x y : Int) (w : World) (b d : Bool) (p o : Option Addr) (n c m e : Nat) (k1 : RawV w (.agg #[.bool b,.slice p n c]) true x) (k2 : RawV w (.agg #[.bool d,.slice o m e]) false y) (hl : isz x ≤ 999999999) (hl2 : isz y ≤ 999999999) :
    Calls Tryz.prog 84 #[.agg #[.bool b,.slice p n c,.bool d,.slice o m e]] w fun e w' => e = .returned (.bool (true && (false && (decide (0 < y) && decide (Int.gcd x y = 1))))) ∧ Below w.heap.size w w' := by
  have HX : Hid (false = (true && (false && (decide (0 < y) && decide (Int.gcd x y = 1))))) := by unfold Hid;simp
  have hB_0 : Below w.heap.size w w := Below.refl _ _
  go_enter Tryz.func84,Tryz.ntmps84
  go_wp2_with fail
  obtain ⟨hA1,b0⟩ := bx1 w rfl [.bool b,.slice p n c,.bool d,.slice o m e] 30
  have c0 := (k1.below hA1)
  (with_reducible refine (rvalid_any _ _ _ _ c0).mono ?_)
  rintro e w1 ⟨rfl,hb1⟩
  have q0_1 := (b0.to hb1)
  obtain ⟨e0,f0,g0,h0⟩ := q0_1.cs4
  go_wp2_with fail
  have k2_1 := ((k2.below hA1).below hb1)
  have d0 := k2_1
  (with_reducible refine (rvalid_any _ _ _ _ d0).mono ?_)
  rintro e w2 ⟨rfl,hb2⟩
  have a0 := (Below.tr (Below.tr (Below.tr hB_0 hA1) hb1) hb2)
  go_wp2_with fail
  go_ret
  exact ⟨ret_bool HX.out,a0⟩
theorem rvalidQ_ttf (x y : Int) (w : World) (b d : Bool) (p o : Option Addr) (n c m e : Nat) (k1 : RawV w (.agg #[.bool b,.slice p n c]) true x) (k2 : RawV w (.agg #[.bool d,.slice o m e]) true y) (hl : isz x ≤ 999999999) (hl2 : isz y ≤ 999999999) (hd : ¬ 0 < y) :
    Calls Tryz.prog 84 #[.agg #[.bool b,.slice p n c,.bool d,.slice o m e]] w fun e w' => e = .returned (.bool (true && (true && (decide (0 < y) && decide (Int.gcd x y = 1))))) ∧ Below w.heap.size w w' := by
  have HX : Hid (false = (true && (true && (decide (0 < y) && decide (Int.gcd x y = 1))))) := by unfold Hid;simp [hd]
  have hsg : decide (sgn y ≤ 0) = true := by have := sgn_le hd;simpa using this
  clear hd
  have hB_0 : Below w.heap.size w w := Below.refl _ _
  go_enter Tryz.func84,Tryz.ntmps84
  go_wp2_with fail
  obtain ⟨hA1,b0⟩ := bx1 w rfl [.bool b,.slice p n c,.bool d,.slice o m e] 30
  have c0 := (k1.below hA1)
  (with_reducible refine (rvalid_any _ _ _ _ c0).mono ?_)
  rintro e w1 ⟨rfl,hb1⟩
  have q0_1 := (b0.to hb1)
  obtain ⟨f0,h0,j0,l0⟩ := q0_1.cs4
  go_wp2_with fail
  have k2_1 := ((k2.below hA1).below hb1)
  have d0 := k2_1
  (with_reducible refine (rvalid_any _ _ _ _ d0).mono ?_)
  rintro e w2 ⟨rfl,hb2⟩
  have q0_2 := (q0_1.to hb2)
  obtain ⟨g0,i0,k0,m0⟩ := q0_2.cs4
  go_wp2_with fail
  have k2_2 := (k2_1.below hb2)
  have e0 := k2_2.raw
  (with_reducible refine (rsign_any _ (y) _ e0 (by omega)).mono ?_)
  rintro e w3 ⟨rfl,hb3⟩
  have a0 := (Below.tr (Below.tr (Below.tr (Below.tr hB_0 hA1) hb1) hb2) hb3)
  go_wp2_with fail
  go_ret
  exact ⟨ret_bool HX.out,a0⟩
theorem rvalidQ_ttt (x y : Int) (w : World) (b d : Bool) (p o : Option Addr) (n c m e : Nat) (k1 : RawV w (.agg #[.bool b,.slice p n c]) true x) (k2 : RawV w (.agg #[.bool d,.slice o m e]) true y) (hl : isz x ≤ 999999999) (hl2 : isz y ≤ 999999999) (hd : 0 < y) :
    Calls Tryz.prog 84 #[.agg #[.bool b,.slice p n c,.bool d,.slice o m e]] w fun e w' => e = .returned (.bool (true && (true && (decide (0 < y) && decide (Int.gcd x y = 1))))) ∧ Below w.heap.size w w' := by
  have HX : Hid ((cmpI ((Int.gcd x y : Nat) : Int) 1 == 0) = (true && (true && (decide (0 < y) && decide (Int.gcd x y = 1))))) := by unfold Hid;rw [cmp_eq_zero];simp [hd];omega
  have hsg : decide (sgn y ≤ 0) = false := by rw [sgn_pos hd];rfl
  have hlg : isz ((Int.gcd x y : Nat) : Int) ≤ 999999999 := isz_gcd_le (by omega) (by omega)
  have h1g : isz 1 ≤ 999999999 := Nat.le_trans (isz_le (k := 1) (by rw [BB_eq];decide)) (by omega)
  clear hd
  have hB_0 : Below w.heap.size w w := Below.refl _ _
  go_enter Tryz.func84,Tryz.ntmps84
  go_wp2_with fail
  obtain ⟨hA1,b0⟩ := bx1 w rfl [.bool b,.slice p n c,.bool d,.slice o m e] 30
  have c0 := (k1.below hA1)
  (with_reducible refine (rvalid_any _ _ _ _ c0).mono ?_)
  rintro e w1 ⟨rfl,hb1⟩
  have q0_1 := (b0.to hb1)
  obtain ⟨k0,n0,q0,t0⟩ := q0_1.cs4
  go_wp2_with fail
  have k2_1 := ((k2.below hA1).below hb1)
  have d0 := k2_1
  (with_reducible refine (rvalid_any _ _ _ _ d0).mono ?_)
  rintro e w2 ⟨rfl,hb2⟩
  have q0_2 := (q0_1.to hb2)
  obtain ⟨l0,o0,r0,u0⟩ := q0_2.cs4
  go_wp2_with fail
  have k2_2 := (k2_1.below hb2)
  have e0 := k2_2.raw
  (with_reducible refine (rsign_any _ (y) _ e0 (by omega)).mono ?_)
  rintro e w3 ⟨rfl,hb3⟩
  have q0_3 := (q0_2.to hb3)
  obtain ⟨m0,p0,s0,v0⟩ := q0_3.cs4
  go_wp2_with fail
  have k1_3 := ((((k1.below hA1).below hb1).below hb2).below hb3)
  have f0 := k1_3.raw
  have k2_3 := (k2_2.below hb3)
  have g0 := k2_3.raw
  (with_reducible refine (rgcd_any _ _ (x) (y) _ f0 g0 (by omega) (by omega)).mono ?_)
  rintro e w4 ⟨v4,rfl,hi4,hb4⟩
  obtain ⟨g4,p4,n4,c4,rfl⟩ := hi4.form
  go_wp2_with fail
  (with_reducible refine (rwhole_any _ _ (by omega) (by omega)).mono ?_)
  rintro e w5 ⟨v5,rfl,hi5,hb5⟩
  obtain ⟨g5,p5,n5,c5,rfl⟩ := hi5.form
  go_wp2_with fail
  have j0 := (hi4.below hb5)
  have h0 := j0.raw
  have i0 := hi5.raw
  (with_reducible refine (rcompare_any _ _ ((Int.gcd (x) (y) : Int)) (1) _ h0 i0 hlg h1g).mono ?_)
  rintro e w6 ⟨rfl,hb6⟩
  have a0 := (Below.tr (Below.tr (Below.tr (Below.tr (Below.tr (Below.tr (Below.tr hB_0 hA1) hb1) hb2) hb3) hb4) hb5) hb6)
  go_wp2_with fail
  go_ret
  exact ⟨ret_bool HX.out,a0⟩
theorem rvalidQ_any (v : Value) (ok : Bool) (q : Rat) (w : World) (h : QRaw w v ok q) (hn : Qn v 999999999) :
    Calls Tryz.prog 84 #[v] w fun e w' => e = .returned (.bool ok) ∧ Below w.heap.size w w' := by
  obtain ⟨b,s,c,t,o1,o2,x,y,e,h1,h2,rfl,_⟩ := h
  obtain ⟨b1,p1,n1,c1,b2,p2,n2,c2,e1,l1,l2⟩ := hn
  rw [e1] at e
  cases e
  subst e1
  have l3 := h1.raw.len
  have l4 := h2.raw.len
  cases o1
  · cases o2
    · exact rvalidQ_fff x y w _ _ _ _ _ _ _ _ h1 h2 (by omega) (by omega)
    · exact rvalidQ_ftf x y w _ _ _ _ _ _ _ _ h1 h2 (by omega) (by omega)
  · cases o2
    · exact rvalidQ_tff x y w _ _ _ _ _ _ _ _ h1 h2 (by omega) (by omega)
    · by_cases hd : 0 < y
      · exact rvalidQ_ttt x y w _ _ _ _ _ _ _ _ h1 h2 (by omega) (by omega) hd
      · exact rvalidQ_ttf x y w _ _ _ _ _ _ _ _ h1 h2 (by omega) (by omega) hd
theorem rvalueQ_True (v : Value) (q : Rat) (w : World) (h : QRaw w v true q) (hn : Qn v 999999999) :
    Calls Tryz.prog 77 #[v] w (GQ q w) := by
  obtain ⟨b,p,n,c,d,o,m,e,rfl⟩ := h.form
  have hB_0 : Below w.heap.size w w := Below.refl _ _
  go_enter Tryz.func77,Tryz.ntmps77
  go_wp2_with fail
  obtain ⟨hA1,j0,k0⟩ := bx2 w rfl [.bool b,.slice p n c,.bool d,.slice o m e] 30 [.bool false,.slice none 0 0,.bool false,.slice none 0 0] 30
  have l0 := (h.below hA1)
  (with_reducible refine (rvalidQ_any _ _ _ _ l0 hn).mono ?_)
  rintro e w1 ⟨rfl,hb1⟩
  have q0_1 := (j0.to hb1)
  obtain ⟨m0,n0,o0,p0⟩ := q0_1.cs4
  have q1_1 := (k0.to hb1)
  obtain ⟨a0,e0,b0,f0,c0,g0,d0,h0⟩ := q1_1.cf4
  have h_1 := ((h.below hA1).below hb1)
  have i0 := (Below.tr (Below.tr hB_0 hA1) hb1)
  go_wp2_with fail
  exact bodyPost_ret (v := .agg #[.bool b,.slice p n c,.bool d,.slice o m e]) (by simp [results,Tryz.results77,go_sem,a0,e0,b0,f0,c0,g0,d0,h0]) rfl ⟨_,rfl,QRaw.rq (h_1.sets4 q1_1 rfl rfl rfl rfl (.bool b) (.slice p n c) (.bool d) (.slice o m e)),(Below.sets4 i0 (b := w.heap.size + 1) (by omega) (.bool b) (.slice p n c) (.bool d) (.slice o m e))⟩
theorem rvalueQ_False (v : Value) (q : Rat) (w : World) (h : QRaw w v false q) (hn : Qn v 999999999) :
    Calls Tryz.prog 77 #[v] w (GQ q w) := by
  obtain ⟨b,p,n,c,d,o,m,e,rfl⟩ := h.form
  have HX : Hid (q = ((0 : Int) : Rat)) := by unfold Hid;rw [h.no];rfl
  have hB_0 : Below w.heap.size w w := Below.refl _ _
  go_enter Tryz.func77,Tryz.ntmps77
  go_wp2_with fail
  obtain ⟨hA1,l0,j0⟩ := bx2 w rfl [.bool b,.slice p n c,.bool d,.slice o m e] 30 [.bool false,.slice none 0 0,.bool false,.slice none 0 0] 30
  have k0 := (h.below hA1)
  (with_reducible refine (rvalidQ_any _ _ _ _ k0 hn).mono ?_)
  rintro e w1 ⟨rfl,hb1⟩
  go_wp2_with fail
  (with_reducible refine (rWholeQ_any _ _ (by omega) (by omega)).mono ?_)
  rintro e w2 ⟨v2,rfl,hi2,hb2⟩
  obtain ⟨g2,p2,n2,c2,h2,o2,m2,e2,rfl⟩ := hi2.form
  have q1_2 := ((j0.to hb1).to hb2)
  obtain ⟨a0,e0,b0,f0,c0,g0,d0,h0⟩ := q1_2.cf4
  have i0 := (Below.tr (Below.tr (Below.tr hB_0 hA1) hb1) hb2)
  go_wp2_with fail
  exact bodyPost_ret (v := .agg #[.bool g2,.slice p2 n2 c2,.bool h2,.slice o2 m2 e2]) (by simp [results,Tryz.results77,go_sem,a0,e0,b0,f0,c0,g0,d0,h0]) rfl ⟨_,rfl,by rw [HX.out];exact (hi2.sets4 q1_2 rfl rfl rfl rfl (.bool g2) (.slice p2 n2 c2) (.bool h2) (.slice o2 m2 e2)),(Below.sets4 i0 (b := w.heap.size + 1) (by omega) (.bool g2) (.slice p2 n2 c2) (.bool h2) (.slice o2 m2 e2))⟩
theorem rvalueQ_raw (v : Value) (ok : Bool) (q : Rat) (w : World) (h : QRaw w v ok q) (hn : Qn v 999999999) :
    Calls Tryz.prog 77 #[v] w (GQ q w) := by
  cases ok
  · exact rvalueQ_False v q w h hn
  · exact rvalueQ_True v q w h hn
theorem rvalueQ_any (v : Value) (q : Rat) (w : World) (h : RQ w v q) (hl : rsz q ≤ 999999999) :
    Calls Tryz.prog 77 #[v] w (GQ q w) := rvalueQ_raw v true q w h.raw (h.qn hl)
theorem rreducedQ_False (v u : Value) (x y : Int) (w : World) (hv : RInt w v x) (hu : RInt w u y) (hl : isz x ≤ 400000000) (hl2 : isz y ≤ 400000000) (hd : 0 < y) :
    Calls Tryz.prog 86 #[v,u] w (GQ (Rat.divInt x y) w) := by
  obtain ⟨b,p,n,c,rfl⟩ := hv.form
  obtain ⟨d,o,m,e,rfl⟩ := hu.form
  have HX := Lib.hid (rfdiv_pos (n := x) hd)
  have hlh0 : isz ((Int.gcd x y : Nat) : Int) ≤ 400000000 := isz_gcd_le (by omega) hl2
  have hlh : isz ((Int.gcd x y : Nat) : Int) ≤ 1000000000 := by omega
  have hlg : isz ((Int.gcd x y : Nat) : Int) ≤ 400000000 := by exact hlh0
  have hg00 : ((Int.gcd x y : Nat) : Int) ≠ 0 := gcd_ne (by omega)
  have hg0 : ((Int.gcd x y : Nat) : Int) ≠ 0 := by omega
  have hsg : decide (sgn y < 0) = false := by rw [sgn_pos hd];rfl
  clear hd hg00
  have hB_0 : Below w.heap.size w w := Below.refl _ _
  go_enter Tryz.func86,Tryz.ntmps86
  go_wp2_with fail
  obtain ⟨hA1,y1,z1,a2⟩ := bx3 w rfl [.bool b,.slice p n c] 28 [.bool d,.slice o m e] 28 [.bool false,.slice none 0 0,.bool false,.slice none 0 0] 30
  have e2 := (hv.below hA1).raw
  have f2 := (hu.below hA1).raw
  (with_reducible refine (rgcd_any _ _ (x) (y) _ e2 f2 (by omega) (by omega)).mono ?_)
  rintro e w1 ⟨v1,rfl,hi1,hb1⟩
  obtain ⟨g1,p1,n1,c1,rfl⟩ := hi1.form
  have q1_1 := (z1.to hb1)
  obtain ⟨p2,r2⟩ := q1_1.cs2
  have q0_1 := (y1.to hb1)
  have s0 := (q0_1).1
  have x0 := (q1_1).1
  have q2_1 := (a2.to hb1)
  have d1 := (q2_1).1
  go_wp2_with fail
  have hu_1 := ((hu.below hA1).below hb1)
  obtain ⟨hA2,b2⟩ := bx1 w1 rfl [.bool g1,.slice p1 n1 c1] 28
  have g2 := (hu_1.below hA2).raw
  (with_reducible refine (rsign_any _ (y) _ g2 (by omega)).mono ?_)
  rintro e w2 ⟨rfl,hb2⟩
  have q0_2 := ((q0_1.to hA2).to hb2)
  obtain ⟨n2,o2⟩ := q0_2.cs2
  have k1 := (b2.to hb2)
  obtain ⟨q1,s1⟩ := k1.cs2
  go_wp2_with fail
  have hv_2 := ((((hv.below hA1).below hb1).below hA2).below hb2)
  have h2 := hv_2.raw
  have j1 := ((hi1.below hA2).below hb2)
  have i2 := j1.raw
  (with_reducible refine (rdivide_any _ _ (x) ((Int.gcd (x) (y) : Int)) _ h2 i2 (by omega) hlg hg0).mono ?_)
  rintro e w3 ⟨v3,u3,rfl,hi3,hj3,hb3⟩
  obtain ⟨g3,p3,n3,c3,rfl⟩ := hi3.form
  obtain ⟨h3,o3,m3,e3,rfl⟩ := hj3.form
  have q1_3 := (((q1_1.to hA2).to hb2).to hb3)
  obtain ⟨q2,s2⟩ := q1_3.cs2
  have a0 := (k1.to hb3)
  obtain ⟨r1,t1⟩ := a0.cs2
  have q0_3 := (q0_2.to hb3)
  have t0 := (q0_3).1
  have y0 := (q1_3).1
  have q2_3 := (((q2_1.to hA2).to hb2).to hb3)
  have e1 := (q2_3).1
  have k0 := (a0).1
  obtain ⟨hA3,t2⟩ := bx1 w3 rfl [.bool false,.slice none 0 0] 28
  have u0 := ((q0_3.to hA3)).1
  have z0 := ((q1_3.to hA3)).1
  have f1 := ((q2_3.to hA3)).1
  have l0 := ((a0.to hA3)).1
  go_wp2_with fail
  have hu_3 := (((hu_1.below hA2).below hb2).below hb3)
  obtain ⟨hA4,c2,d2⟩ := bx2 w3 rfl [.bool g3,.slice p3 n3 c3] 28 [.bool h3,.slice o3 m3 e3] 28
  have j2 := (hu_3.below hA4).raw
  have l2 := (j1.below hb3)
  have k2 := (l2.below hA4).raw
  (with_reducible refine (rdivide_any _ _ (y) ((Int.gcd (x) (y) : Int)) _ j2 k2 (by omega) hlg hg0).mono ?_)
  rintro e w4 ⟨v4,u4,rfl,hi4,hj4,hb4⟩
  obtain ⟨g4,p4,n4,c4,rfl⟩ := hi4.form
  obtain ⟨h4,o4,m4,e4,rfl⟩ := hj4.form
  have j0 := (c2.to hb4)
  obtain ⟨u1,x1⟩ := j0.cs2
  have q2_4 := ((q2_3.to hA4).to hb4)
  obtain ⟨b0,f0,c0,g0,d0,h0,e0,i0⟩ := q2_4.cf4
  have q0_4 := ((q0_3.to hA4).to hb4)
  have v0 := (q0_4).1
  have q1_4 := ((q1_3.to hA4).to hb4)
  have a1 := (q1_4).1
  have h1 := (q2_4).1
  have l1 := ((a0.to hA4).to hb4)
  have m0 := (l1).1
  have o0 := (j0).1
  have m1 := (d2.to hb4)
  have q0 := (m1).1
  obtain ⟨hA5,u2⟩ := bx1 w4 rfl [.bool false,.slice none 0 0] 28
  have w0 := ((q0_4.to hA5)).1
  have b1 := ((q1_4.to hA5)).1
  have i1 := ((q2_4.to hA5)).1
  have n0 := ((l1.to hA5)).1
  have p0 := ((j0.to hA5)).1
  have r0 := ((m1.to hA5)).1
  obtain ⟨hA6,v2,x2⟩ := bx2 w4 rfl [.bool g4,.slice p4 n4 c4] 28 [.bool h4,.slice o4 m4 e4] 28
  have m2 := ((hi3.below hA4).below hb4)
  obtain ⟨hA7,y2,z2⟩ := bx2 ((((w4.setCell ⟨w.heap.size + 1 + 1,0,none⟩ (.bool g3)).setCell ⟨w.heap.size + 1 + 1,1,none⟩ (.slice p3 n3 c3)).setCell ⟨w.heap.size + 1 + 1,2,none⟩ (.bool g4)).setCell ⟨w.heap.size + 1 + 1,3,none⟩ (.slice p4 n4 c4)) (by simp : _ = w4.heap.size) [.bool g4,.slice p4 n4 c4] 28 [.bool h4,.slice o4 m4 e4] 28
  have o1 := (Below.tr (Below.tr (Below.tr (Below.tr (Below.tr (Below.tr (Below.tr hB_0 hA1) hb1) hA2) hb2) hb3) hA4) hb4)
  go_wp2_with fail
  exact bodyPost_ret (v := .agg #[.bool g3,.slice p3 n3 c3,.bool g4,.slice p4 n4 c4]) (by simp [results,Tryz.results86,go_sem,s0,x0,d1,t0,y0,e1,k0,u0,z0,f1,l0,v0,a1,h1,m0,o0,q0,w0,b1,i1,n0,p0,r0,b0,f0,c0,g0,d0,h0,e0,i0]) rfl ⟨_,rfl,RQ.mk' ((m2.sets4 q2_4 rfl rfl rfl rfl (.bool g3) (.slice p3 n3 c3) (.bool g4) (.slice p4 n4 c4)).below hA7) ((hi4.sets4 q2_4 rfl rfl rfl rfl (.bool g3) (.slice p3 n3 c3) (.bool g4) (.slice p4 n4 c4)).below hA7) HX.out.1 HX.out.2,(Below.tr (Below.sets4 o1 (b := w.heap.size + 1 + 1) (by omega) (.bool g3) (.slice p3 n3 c3) (.bool g4) (.slice p4 n4 c4)) hA7)⟩
theorem rreducedQ_True (v u : Value) (x y : Int) (w : World) (hv : RInt w v x) (hu : RInt w u y) (hl : isz x ≤ 400000000) (hl2 : isz y ≤ 400000000) (hd : y < 0) :
    Calls Tryz.prog 86 #[v,u] w (GQ (Rat.divInt x y) w) := by
  obtain ⟨b,p,n,c,rfl⟩ := hv.form
  obtain ⟨d,o,m,e,rfl⟩ := hu.form
  have HX := Lib.hid (rfdiv_neg (n := x) hd)
  have hlh0 : isz ((Int.gcd x y : Nat) : Int) ≤ 400000000 := isz_gcd_le (by omega) hl2
  have hlh : isz ((Int.gcd x y : Nat) : Int) ≤ 1000000000 := by omega
  have hlg : isz (-((Int.gcd x y : Nat) : Int)) ≤ 400000000 := by rw [isz_neg];exact hlh0
  have hg00 : ((Int.gcd x y : Nat) : Int) ≠ 0 := gcd_ne (by omega)
  have hg0 : (-((Int.gcd x y : Nat) : Int)) ≠ 0 := by omega
  have hsg : decide (sgn y < 0) = true := by rw [sgn_neg hd];rfl
  clear hd hg00
  have hB_0 : Below w.heap.size w w := Below.refl _ _
  go_enter Tryz.func86,Tryz.ntmps86
  go_wp2_with fail
  obtain ⟨hA1,c2,d2,e2⟩ := bx3 w rfl [.bool b,.slice p n c] 28 [.bool d,.slice o m e] 28 [.bool false,.slice none 0 0,.bool false,.slice none 0 0] 30
  have i2 := (hv.below hA1).raw
  have j2 := (hu.below hA1).raw
  (with_reducible refine (rgcd_any _ _ (x) (y) _ i2 j2 (by omega) (by omega)).mono ?_)
  rintro e w1 ⟨v1,rfl,hi1,hb1⟩
  obtain ⟨g1,p1,n1,c1,rfl⟩ := hi1.form
  have q1_1 := (d2.to hb1)
  obtain ⟨v2,y2⟩ := q1_1.cs2
  have q0_1 := (c2.to hb1)
  have x0 := (q0_1).1
  have d1 := (q1_1).1
  have q2_1 := (e2.to hb1)
  have j1 := (q2_1).1
  go_wp2_with fail
  have hu_1 := ((hu.below hA1).below hb1)
  obtain ⟨hA2,f2⟩ := bx1 w1 rfl [.bool g1,.slice p1 n1 c1] 28
  have k2 := (hu_1.below hA2).raw
  (with_reducible refine (rsign_any _ (y) _ k2 (by omega)).mono ?_)
  rintro e w2 ⟨rfl,hb2⟩
  have q1 := (f2.to hb2)
  obtain ⟨u1,y1⟩ := q1.cs2
  go_wp2_with fail
  have q2 := ((hi1.below hA2).below hb2)
  have l2 := q2.raw
  (with_reducible refine (rneg_any _ ((Int.gcd (x) (y) : Int)) _ l2 hlh).mono ?_)
  rintro e w3 ⟨v3,rfl,hi3,hb3⟩
  obtain ⟨g3,p3,n3,c3,rfl⟩ := hi3.form
  have a0 := (q1.to hb3)
  obtain ⟨c0,e0,d0,f0⟩ := a0.cf2
  have q0_3 := (((q0_1.to hA2).to hb2).to hb3)
  obtain ⟨t2,u2⟩ := q0_3.cs2
  go_wp2_with fail
  have hv_3 := (((((hv.below hA1).below hb1).below hA2).below hb2).below hb3)
  have m2 := (hv_3.sets2 a0 rfl rfl (.bool g3) (.slice p3 n3 c3)).raw
  have n2 := (hi3.sets2 a0 rfl rfl (.bool g3) (.slice p3 n3 c3)).raw
  (with_reducible refine (rdivide_any _ _ (x) (-(((Int.gcd (x) (y) : Int)))) _ m2 n2 (by omega) hlg hg0).mono ?_)
  rintro e w4 ⟨v4,u4,rfl,hi4,hj4,hb4⟩
  obtain ⟨g4,p4,n4,c4,rfl⟩ := hi4.form
  obtain ⟨h4,o4,m4,e4,rfl⟩ := hj4.form
  have q1_4 := (((((q1_1.to hA2).to hb2).to hb3).other2 (b := w1.heap.size) (by omega) (.bool g3) (.slice p3 n3 c3)).to hb4)
  obtain ⟨x2,z2⟩ := q1_4.cs2
  have b0 := ((a0.store2 (.bool g3) (.slice p3 n3 c3)).to hb4)
  obtain ⟨x1,z1⟩ := b0.cs2
  have q0_4 := ((q0_3.other2 (b := w1.heap.size) (by omega) (.bool g3) (.slice p3 n3 c3)).to hb4)
  have y0 := (q0_4).1
  have e1 := (q1_4).1
  have q2_4 := (((((q2_1.to hA2).to hb2).to hb3).other2 (b := w1.heap.size) (by omega) (.bool g3) (.slice p3 n3 c3)).to hb4)
  have k1 := (q2_4).1
  have p0 := (b0).1
  obtain ⟨hA3,a3⟩ := bx1 w4 rfl [.bool false,.slice none 0 0] 28
  have z0 := ((q0_4.to hA3)).1
  have f1 := ((q1_4.to hA3)).1
  have l1 := ((q2_4.to hA3)).1
  have q0 := ((b0.to hA3)).1
  go_wp2_with fail
  have hu_4 := (((((hu_1.below hA2).below hb2).below hb3).sets2 a0 rfl rfl (.bool g3) (.slice p3 n3 c3)).below hb4)
  obtain ⟨hA4,g2,h2⟩ := bx2 w4 rfl [.bool g4,.slice p4 n4 c4] 28 [.bool h4,.slice o4 m4 e4] 28
  have o2 := (hu_4.below hA4).raw
  have r2 := ((hi3.sets2 a0 rfl rfl (.bool g3) (.slice p3 n3 c3)).below hb4)
  have p2 := (r2.below hA4).raw
  (with_reducible refine (rdivide_any _ _ (y) (-(((Int.gcd (x) (y) : Int)))) _ o2 p2 (by omega) hlg hg0).mono ?_)
  rintro e w5 ⟨v5,u5,rfl,hi5,hj5,hb5⟩
  obtain ⟨g5,p5,n5,c5,rfl⟩ := hi5.form
  obtain ⟨h5,o5,m5,e5,rfl⟩ := hj5.form
  have o0 := (g2.to hb5)
  obtain ⟨a2,b2⟩ := o0.cs2
  have q2_5 := ((q2_4.to hA4).to hb5)
  obtain ⟨g0,k0,h0,l0,i0,m0,j0,n0⟩ := q2_5.cf4
  have q0_5 := ((q0_4.to hA4).to hb5)
  have a1 := (q0_5).1
  have q1_5 := ((q1_4.to hA4).to hb5)
  have h1 := (q1_5).1
  have m1 := (q2_5).1
  have r1 := ((b0.to hA4).to hb5)
  have r0 := (r1).1
  have t0 := (o0).1
  have s1 := (h2.to hb5)
  have v0 := (s1).1
  obtain ⟨hA5,b3⟩ := bx1 w5 rfl [.bool false,.slice none 0 0] 28
  have b1 := ((q0_5.to hA5)).1
  have i1 := ((q1_5.to hA5)).1
  have o1 := ((q2_5.to hA5)).1
  have s0 := ((r1.to hA5)).1
  have u0 := ((o0.to hA5)).1
  have w0 := ((s1.to hA5)).1
  obtain ⟨hA6,d3,e3⟩ := bx2 w5 rfl [.bool g5,.slice p5 n5 c5] 28 [.bool h5,.slice o5 m5 e5] 28
  have s2 := ((hi4.below hA4).below hb5)
  obtain ⟨hA7,f3,h3⟩ := bx2 ((((w5.setCell ⟨w.heap.size + 1 + 1,0,none⟩ (.bool g4)).setCell ⟨w.heap.size + 1 + 1,1,none⟩ (.slice p4 n4 c4)).setCell ⟨w.heap.size + 1 + 1,2,none⟩ (.bool g5)).setCell ⟨w.heap.size + 1 + 1,3,none⟩ (.slice p5 n5 c5)) (by simp : _ = w5.heap.size) [.bool g5,.slice p5 n5 c5] 28 [.bool h5,.slice o5 m5 e5] 28
  have t1 := (Below.tr (Below.tr (Below.tr (Below.sets2 (Below.tr (Below.tr (Below.tr (Below.tr (Below.tr hB_0 hA1) hb1) hA2) hb2) hb3) (b := w1.heap.size) (by omega) (.bool g3) (.slice p3 n3 c3)) hb4) hA4) hb5)
  go_wp2_with fail
  exact bodyPost_ret (v := .agg #[.bool g4,.slice p4 n4 c4,.bool g5,.slice p5 n5 c5]) (by simp [results,Tryz.results86,go_sem,x0,d1,j1,c0,e0,d0,f0,y0,e1,k1,p0,z0,f1,l1,q0,a1,h1,m1,r0,t0,v0,b1,i1,o1,s0,u0,w0,g0,k0,h0,l0,i0,m0,j0,n0]) rfl ⟨_,rfl,RQ.mk' ((s2.sets4 q2_5 rfl rfl rfl rfl (.bool g4) (.slice p4 n4 c4) (.bool g5) (.slice p5 n5 c5)).below hA7) ((hi5.sets4 q2_5 rfl rfl rfl rfl (.bool g4) (.slice p4 n4 c4) (.bool g5) (.slice p5 n5 c5)).below hA7) HX.out.1 HX.out.2,(Below.tr (Below.sets4 t1 (b := w.heap.size + 1 + 1) (by omega) (.bool g4) (.slice p4 n4 c4) (.bool g5) (.slice p5 n5 c5)) hA7)⟩
theorem rreducedQ_any (v u : Value) (x y : Int) (w : World) (hv : RInt w v x) (hu : RInt w u y) (hl : isz x ≤ 400000000) (hl2 : isz y ≤ 400000000) (hd : y ≠ 0) :
    Calls Tryz.prog 86 #[v,u] w (GQ (Rat.divInt x y) w) := by
  rcases Int.lt_trichotomy y 0 with h | h | h
  · exact rreducedQ_True v u x y w hv hu hl hl2 h
  · exact absurd h hd
  · exact rreducedQ_False v u x y w hv hu hl hl2 h
end Go.Proofs.YtidfgdchcpmnfaaGreat
