/-
  Lemmas for the theorem vchords_holds, part 6 of 33.
-/
import Derived.Test.YtidfgdchcpmnfaaGreatCd01
import Derived.Test.YtidfgdchcpmnfaaGreatCd04
import Derived.Test.YtidfgdchcpmnfaaGreatCd05
namespace Go.Proofs.YtidfgdchcpmnfaaGreat
open Go.RowKit
set_option maxRecDepth 100000
set_option maxHeartbeats 2000000
set_option linter.unusedSimpArgs false
set_option linter.unusedVariables false
theorem cmpI_sign {x y : Int} (h : x.sign ≠ y.sign) : cmpI x.sign y.sign = cmpI x y := by
  rcases Int.lt_trichotomy x 0 with hx | rfl | hx <;> rcases Int.lt_trichotomy y 0 with hy | rfl | hy
  · exact absurd (by rw [Int.sign_eq_neg_one_of_neg hx,Int.sign_eq_neg_one_of_neg hy]) h
  · rw [Int.sign_eq_neg_one_of_neg hx];simp [cmpI,hx]
  · rw [Int.sign_eq_neg_one_of_neg hx,Int.sign_eq_one_of_pos hy];unfold cmpI;rw [if_pos (by omega),if_pos (by omega)]
  · rw [Int.sign_eq_neg_one_of_neg hy];unfold cmpI;simp;omega
  · simp at h
  · rw [Int.sign_eq_one_of_pos hy];unfold cmpI;simp;omega
  · rw [Int.sign_eq_one_of_pos hx,Int.sign_eq_neg_one_of_neg hy];unfold cmpI;rw [if_neg (by omega),if_pos (by omega),if_neg (by omega),if_pos (by omega)]
  · rw [Int.sign_eq_one_of_pos hx];unfold cmpI;simp;omega
  · exact absurd (by rw [Int.sign_eq_one_of_pos hx,Int.sign_eq_one_of_pos hy]) h
theorem cmpI_abs {x y : Int} (h : x.sign = y.sign) (b : Bool) (hb : x ≠ 0 → b = decide (x < 0)) : (if b then -cmpI (x.natAbs : Nat) (y.natAbs : Nat) else cmpI (x.natAbs : Nat) (y.natAbs : Nat)) = cmpI x y := by
  rcases Int.lt_trichotomy x 0 with hx | rfl | hx
  · have hy : y < 0 := by
      rw [Int.sign_eq_neg_one_of_neg hx] at h
      exact Int.sign_eq_neg_one_iff_neg.1 h.symm
    rw [hb (by omega)]
    simp only [hx,decide_true,if_true]
    unfold cmpI
    split <;> split <;> (try split) <;> (try split) <;> omega
  · simp at h
    have : y = 0 := Int.sign_eq_zero_iff_zero.1 h.symm
    subst this
    cases b <;> simp [cmpI]
  · have hy : 0 < y := by
      rw [Int.sign_eq_one_of_pos hx] at h
      exact Int.sign_eq_one_iff_pos.1 h.symm
    rw [hb (by omega)]
    have : ¬ x < 0 := by omega
    simp only [this,decide_false,Bool.false_eq_true,if_false]
    unfold cmpI
    split <;> split <;> (try split) <;> (try split) <;> omega
theorem cmpI_bd (x y : Int) : -1 ≤ cmpI x y ∧ cmpI x y ≤ 1 := by unfold cmpI;split <;> (try split) <;> omega
theorem compareI_any (v u : Value) (x y : Int) (w : World) (hv : Raw w v x) (hu : Raw w u y) :
    Calls Tryz.prog 132 #[v,u] w fun e w' => e = .returned (.int .i64 (cmpI x y)) ∧ Below w.heap.size w w' := by
  obtain ⟨b,p,n,c,rfl⟩ := hv.form
  obtain ⟨d,o,m,e,rfl⟩ := hu.form
  have HS := Lib.hid (fun h : x ≠ 0 => hv.sign h)
  obtain ⟨sx,hsx⟩ : ∃ sx,x.sign = sx := ⟨_,rfl⟩
  obtain ⟨sy,hsy⟩ : ∃ sy,y.sign = sy := ⟨_,rfl⟩
  have HSX := Lib.hid hsx
  have HSY := Lib.hid hsy
  clear hsx hsy
  obtain ⟨cv,hcv⟩ : ∃ cv,cmpI (val (dig x.natAbs)) (val (dig y.natAbs)) = cv := ⟨_,rfl⟩
  have hc1 : -1 ≤ cv := by rw [← hcv];exact (cmpI_bd _ _).1
  have hc2 : cv ≤ 1 := by rw [← hcv];exact (cmpI_bd _ _).2
  have HCV := Lib.hid hcv
  clear hcv
  have hB_0 : Below w.heap.size w w := Below.refl _ _
  have hv_1 := hv.alloc (.cells #[.bool b,.slice p n c] 28)
  have hu_1 := hu.alloc (.cells #[.bool b,.slice p n c] 28)
  have hB_1 := Below.alloc hB_0 hB_0.size (.cells #[.bool b,.slice p n c] 28)
  clear hB_0
  have q_1 : Bx (w.alloc (.cells #[.bool b,.slice p n c] 28)) (w.heap.size) [.bool b,.slice p n c] := by
    have := Bx.new w [.bool b,.slice p n c] 28
    simpa using this
  have hv_2 := hv_1.alloc (.cells #[.bool d,.slice o m e] 28)
  have hu_2 := hu_1.alloc (.cells #[.bool d,.slice o m e] 28)
  have hB_2 := Below.alloc hB_1 hB_1.size (.cells #[.bool d,.slice o m e] 28)
  have q_2 := q_1.alloc (.cells #[.bool d,.slice o m e] 28)
  clear hv_1 hu_1 hB_1 q_1
  have t_2 : Bx ((w.alloc (.cells #[.bool b,.slice p n c] 28)).alloc (.cells #[.bool d,.slice o m e] 28)) (w.heap.size + 1) [.bool d,.slice o m e] := by
    have := Bx.new (w.alloc (.cells #[.bool b,.slice p n c] 28)) [.bool d,.slice o m e] 28
    simpa using this
  have hv_3 := hv_2.drew
  have hu_3 := hu_2.drew
  have hB_3 := hB_2.drew
  have q_3 := q_2.drew
  have t_3 := t_2.drew
  clear hv_2 hu_2 hB_2 q_2 t_2
  have S0 : (fun w' : World => w'.cell? ⟨w.heap.size,0,none⟩ = some (.bool b) ∧ w'.cell? ⟨w.heap.size,1,none⟩ = some (.slice p n c) ∧ w'.cell? ⟨w.heap.size + 1,0,none⟩ = some (.bool d) ∧ w'.cell? ⟨w.heap.size + 1,1,none⟩ = some (.slice o m e) ∧ w.heap.size + 1 < w'.heap.size) ((w.alloc (.cells #[.bool b,.slice p n c] 28)).alloc (.cells #[.bool d,.slice o m e] 28)).drew := ⟨q_3.c0,q_3.c1,t_3.c0,t_3.c1,t_3.1⟩
  have K : ∀ A B : World,(fun w' : World => w'.cell? ⟨w.heap.size,0,none⟩ = some (.bool b) ∧ w'.cell? ⟨w.heap.size,1,none⟩ = some (.slice p n c) ∧ w'.cell? ⟨w.heap.size + 1,0,none⟩ = some (.bool d) ∧ w'.cell? ⟨w.heap.size + 1,1,none⟩ = some (.slice o m e) ∧ w.heap.size + 1 < w'.heap.size) A → Below A.heap.size A B → (fun w' : World => w'.cell? ⟨w.heap.size,0,none⟩ = some (.bool b) ∧ w'.cell? ⟨w.heap.size,1,none⟩ = some (.slice p n c) ∧ w'.cell? ⟨w.heap.size + 1,0,none⟩ = some (.bool d) ∧ w'.cell? ⟨w.heap.size + 1,1,none⟩ = some (.slice o m e) ∧ w.heap.size + 1 < w'.heap.size) B := by
    rintro A B ⟨h0,h1,h2,h3,h4⟩ hb
    have hs := hb.size
    exact ⟨by rw [(bcell hb).1 _ _ (by omega)];exact h0,by rw [(bcell hb).1 _ _ (by omega)];exact h1,by rw [(bcell hb).1 _ _ (by omega)];exact h2,by rw [(bcell hb).1 _ _ (by omega)];exact h3,by omega⟩
  have tk1 : True := trivial
  have tk2 : True := trivial
  by_cases hs : sx = sy
  · have hne : (sx != sy) = false := by simpa using hs
    have HE := Lib.hid hs
    clear hs
    go_enter Tryz.func132,Tryz.ntmps132
    go_wp2_with fail
    go_region_held3 (fun w' : World => w'.cell? ⟨w.heap.size,0,none⟩ = some (.bool b) ∧ w'.cell? ⟨w.heap.size,1,none⟩ = some (.slice p n c) ∧ w'.cell? ⟨w.heap.size + 1,0,none⟩ = some (.bool d) ∧ w'.cell? ⟨w.heap.size + 1,1,none⟩ = some (.slice o m e) ∧ w.heap.size + 1 < w'.heap.size) (first | exact S0 | (simp;done) | exact K _ _ (by assumption) (by assumption))
      (first
        | ((have := tk1;skip);clear tk1;go_at_call 117;refine (sign_any _ x _ hv_3).mono ?_;rintro e w1 ⟨rfl,hb1⟩;have hv_4 := hv_3.below hb1;have hu_4 := hu_3.below hb1;have hB_4 := hB_3.trans (hb1.mono hB_3.size);have q_4 := q_3.to hb1;have t_4 := t_3.to hb1;clear hv_3 hu_3 hB_3 q_3 t_3;rw [HSX.out])
        | ((have := tk2;skip);clear tk2;go_at_call 117;refine (sign_any _ y _ hu_4).mono ?_;rintro e w2 ⟨rfl,hb2⟩;have hv_5 := hv_4.below hb2;have hu_5 := hu_4.below hb2;have hB_5 := hB_4.trans (hb2.mono hB_4.size);have q_5 := q_4.to hb2;have t_5 := t_4.to hb2;clear hv_4 hu_4 hB_4 q_4 t_4;rw [HSY.out]))
    have hv_6 := hv_5.drew
    have hu_6 := hu_5.drew
    have hB_6 := hB_5.drew
    have q_6 := q_5.drew
    have t_6 := t_5.drew
    clear hv_5 hu_5 hB_5 q_5 t_5
    have S0b : (fun w' : World => w'.cell? ⟨w.heap.size,0,none⟩ = some (.bool b) ∧ w'.cell? ⟨w.heap.size,1,none⟩ = some (.slice p n c) ∧ w'.cell? ⟨w.heap.size + 1,0,none⟩ = some (.bool d) ∧ w'.cell? ⟨w.heap.size + 1,1,none⟩ = some (.slice o m e) ∧ w.heap.size + 1 < w'.heap.size) w2.drew := ⟨q_6.c0,q_6.c1,t_6.c0,t_6.c1,t_6.1⟩
    have tk3 : True := trivial
    have tk4 : True := trivial
    go_wp2_with fail
    go_region_held3 (fun w' : World => w'.cell? ⟨w.heap.size,0,none⟩ = some (.bool b) ∧ w'.cell? ⟨w.heap.size,1,none⟩ = some (.slice p n c) ∧ w'.cell? ⟨w.heap.size + 1,0,none⟩ = some (.bool d) ∧ w'.cell? ⟨w.heap.size + 1,1,none⟩ = some (.slice o m e) ∧ w.heap.size + 1 < w'.heap.size) (first | exact S0b | (simp;done) | exact K _ _ (by assumption) (by assumption))
      (first
        | ((have := tk3;skip);clear tk3;go_at_call 119;refine (groups_any _ x _ hv_6).mono ?_;rintro e w3 ⟨s1,rfl,hs1,hb3⟩;have hv_7 := hv_6.below hb3;have hu_7 := hu_6.below hb3;have hB_7 := hB_6.trans (hb3.mono hB_6.size);have q_7 := q_6.to hb3;have t_7 := t_6.to hb3;clear hv_6 hu_6 hB_6 q_6 t_6)
        | ((have := tk4;skip);clear tk4;go_at_call 119;refine (groups_any _ y _ hu_7).mono ?_;rintro e w4 ⟨s2,rfl,hs2,hb4⟩;have hv_8 := hv_7.below hb4;have hu_8 := hu_7.below hb4;have hB_8 := hB_7.trans (hb4.mono hB_7.size);have q_8 := q_7.to hb4;have t_8 := t_7.to hb4;have hs_8 := hs1.below hb4;clear hv_7 hu_7 hB_7 q_7 t_7 hs1)
        | (go_at_call 162;refine (compare_any _ _ _ _ _ hs_8 hs2 (dig_canon _) (dig_canon _)).mono ?_;rintro e w5 ⟨rfl,hb5⟩;have hv_9 := hv_8.below hb5;have hu_9 := hu_8.below hb5;have hB_9 := hB_8.trans (hb5.mono hB_8.size);have q_9 := q_8.to hb5;have t_9 := t_8.to hb5;have hs_9 := hs_8.below hb5;have a0 := hs2.below hb5;clear hv_8 hu_8 hB_8 q_8 t_8 hs_8;rw [HCV.out];have b0 := q_9.c0;have d0 := q_9.c1))
    have hfin := cmpI_abs (HSX.out.trans (HE.out.trans HSY.out.symm)) b HS.out
    rw [← val_dig x.natAbs,← val_dig y.natAbs,HCV.out] at hfin
    have HF := Lib.hid hfin
    clear hfin
    cases b with
    | true =>
      go_wp2_with fail
      go_ret
      exact ⟨by rw [← HF.out];rfl,hB_9⟩
    | false =>
      go_wp2_with fail
      go_ret
      exact ⟨by rw [← HF.out];rfl,hB_9⟩
  · have hne : (sx != sy) = true := by simpa using hs
    have HE := Lib.hid hs
    clear hs
    go_enter Tryz.func132,Tryz.ntmps132
    go_wp2_with fail
    go_region_held3 (fun w' : World => w'.cell? ⟨w.heap.size,0,none⟩ = some (.bool b) ∧ w'.cell? ⟨w.heap.size,1,none⟩ = some (.slice p n c) ∧ w'.cell? ⟨w.heap.size + 1,0,none⟩ = some (.bool d) ∧ w'.cell? ⟨w.heap.size + 1,1,none⟩ = some (.slice o m e) ∧ w.heap.size + 1 < w'.heap.size) (first | exact S0 | (simp;done) | exact K _ _ (by assumption) (by assumption))
      (first
        | ((have := tk1;skip);clear tk1;go_at_call 117;refine (sign_any _ x _ hv_3).mono ?_;rintro e w1 ⟨rfl,hb1⟩;have hv_4 := hv_3.below hb1;have hu_4 := hu_3.below hb1;have hB_4 := hB_3.trans (hb1.mono hB_3.size);have q_4 := q_3.to hb1;have t_4 := t_3.to hb1;clear hv_3 hu_3 hB_3 q_3 t_3;rw [HSX.out])
        | ((have := tk2;skip);clear tk2;go_at_call 117;refine (sign_any _ y _ hu_4).mono ?_;rintro e w2 ⟨rfl,hb2⟩;have hv_5 := hv_4.below hb2;have hu_5 := hu_4.below hb2;have hB_5 := hB_4.trans (hb2.mono hB_4.size);have q_5 := q_4.to hb2;have t_5 := t_4.to hb2;clear hv_4 hu_4 hB_4 q_4 t_4;rw [HSY.out]))
    go_wp2_with fail
    refine (cmpInt_any _ _ _).mono ?_
    rintro e w' ⟨rfl,rfl⟩
    go_wp2_with fail
    go_ret
    exact ⟨by rw [← HSX.out,← HSY.out,cmpI_sign (fun h => HE.out (HSX.out.symm.trans (h.trans HSY.out)))];rfl,hB_5⟩
end Go.Proofs.YtidfgdchcpmnfaaGreat
namespace Go.Proofs.YtidfgdchcpmnfaaGreat
theorem fdiv_unique {x y q r : Int} (hy : y ≠ 0) (h : x = y * q + r) (h1 : 0 < y → 0 ≤ r ∧ r < y) (h2 : y < 0 → y < r ∧ r ≤ 0) : x.fdiv y = q ∧ x.fmod y = r := by
  have e := Int.fmod_add_mul_fdiv x y
  rcases Int.lt_trichotomy y 0 with h0 | h0 | h0
  · have a1 := Int.fmod_nonneg_of_pos (-x) (show 0 < -y by omega)
    have a2 := Int.fmod_lt_of_pos (-x) (show 0 < -y by omega)
    rw [Int.neg_fmod_neg] at a1 a2
    have ⟨b1,b2⟩ := h2 h0
    have : x.fdiv y = q := by
      generalize x.fdiv y = Q at *
      generalize x.fmod y = R at *
      have h3 : y * (Q - q) = r - R := by rw [Int.mul_sub];omega
      rcases Int.lt_trichotomy Q q with h | h | h
      · have : y * (Q - q) ≥ -y := by
          have := Int.mul_le_mul_of_nonneg_left (show Q - q ≤ -1 by omega) (show 0 ≤ -y by omega)
          rw [Int.neg_mul,Int.neg_mul_neg] at this;omega
        omega
      · exact h
      · have : y * (Q - q) ≤ y := by
          have := Int.mul_le_mul_of_nonneg_left (show 1 ≤ Q - q by omega) (show 0 ≤ -y by omega)
          rw [Int.neg_mul,Int.neg_mul] at this;omega
        omega
    refine ⟨this,?_⟩
    rw [this] at e;omega
  · exact absurd h0 hy
  · have a1 := Int.fmod_nonneg_of_pos x h0
    have a2 := Int.fmod_lt_of_pos x h0
    have ⟨b1,b2⟩ := h1 h0
    have : x.fdiv y = q := by
      generalize x.fdiv y = Q at *
      generalize x.fmod y = R at *
      have h3 : y * (Q - q) = r - R := by rw [Int.mul_sub];omega
      rcases Int.lt_trichotomy Q q with h | h | h
      · have : y * (Q - q) ≤ y * (-1) := Int.mul_le_mul_of_nonneg_left (show Q - q ≤ -1 by omega) (show 0 ≤ y by omega)
        omega
      · exact h
      · have : y * 1 ≤ y * (Q - q) := Int.mul_le_mul_of_nonneg_left (show 1 ≤ Q - q by omega) (show 0 ≤ y by omega)
        omega
    refine ⟨this,?_⟩
    rw [this] at e;omega
theorem fdiv_same (b : Bool) (m n : Nat) (hn : 0 < n) : (sg b m).fdiv (sg b n) = (m / n : Nat) ∧ (sg b m).fmod (sg b n) = sg b (m % n) := by
  have e : (m : Int) = n * (m / n : Nat) + (m % n : Nat) := by exact_mod_cast (Nat.div_add_mod m n).symm
  have hl : m % n < n := Nat.mod_lt _ hn
  refine fdiv_unique ?_ ?_ ?_ ?_ <;> cases b <;> simp only [sg,if_true,if_false,Bool.false_eq_true] <;> first | omega | (rw [Int.neg_mul];omega)
theorem fdiv_exact (b d : Bool) (m n : Nat) (hn : 0 < n) (hbd : (b != d) = true) (h : m % n = 0) : (sg b m).fdiv (sg d n) = sg true (m / n : Nat) ∧ (sg b m).fmod (sg d n) = 0 := by
  have e : (m : Int) = n * (m / n : Nat) + (m % n : Nat) := by exact_mod_cast (Nat.div_add_mod m n).symm
  rw [h] at e
  generalize m / n = q at *
  refine fdiv_unique ?_ ?_ ?_ ?_ <;> cases b <;> cases d <;> simp only [sg,if_true,if_false,Bool.false_eq_true,Int.neg_mul,Int.mul_neg] <;> first | (simp at hbd;done) | omega
theorem fdiv_rest (b d : Bool) (m n : Nat) (hn : 0 < n) (hbd : (b != d) = true) (h : m % n ≠ 0) : (sg b m).fdiv (sg d n) = sg true (m / n + 1 : Nat) ∧ (sg b m).fmod (sg d n) = sg d (n - m % n) := by
  have e : (m : Int) = n * (m / n : Nat) + (m % n : Nat) := by exact_mod_cast (Nat.div_add_mod m n).symm
  have hl : m % n < n := Nat.mod_lt _ hn
  generalize m / n = q at *
  generalize m % n = r at *
  have e2 : (n : Int) * ((q + 1 : Nat) : Int) = n * q + n := by rw [Int.natCast_add,Int.mul_add];simp
  refine fdiv_unique ?_ ?_ ?_ ?_ <;> cases b <;> cases d <;> simp only [sg,if_true,if_false,Bool.false_eq_true,Int.neg_mul,Int.mul_neg] <;> first | (simp at hbd;done) | omega
theorem divInt_num_pos {n d : Int} (hd : 0 < d) : (Rat.divInt n d).num = n / (Int.gcd n d : Nat) := by
  rw [Rat.num_divInt,Int.sign_eq_one_of_pos hd,Int.one_mul,Int.gcd_comm]
theorem divInt_den_pos {n d : Int} (hd : 0 < d) : (((Rat.divInt n d).den : Nat) : Int) = d / (Int.gcd n d : Nat) := by
  rw [Rat.den_divInt,if_neg (by omega),Int.gcd_comm]
  obtain ⟨k,rfl⟩ := Int.eq_ofNat_of_zero_le (Int.le_of_lt hd)
  simp
theorem divInt_neg_neg (n d : Int) : Rat.divInt (-n) (-d) = Rat.divInt n d := by
  rw [Rat.divInt_eq_div,Rat.divInt_eq_div]
  grind
theorem divInt_num_neg {n d : Int} (hd : d < 0) : (Rat.divInt n d).num = n / (-(Int.gcd n d : Nat)) := by
  rw [← divInt_neg_neg,divInt_num_pos (by omega),Int.ediv_neg,Int.gcd_neg,Int.neg_gcd]
  exact Int.neg_ediv_of_dvd (Int.gcd_dvd_left _ _)
theorem divInt_den_neg {n d : Int} (hd : d < 0) : (((Rat.divInt n d).den : Nat) : Int) = d / (-(Int.gcd n d : Nat)) := by
  rw [← divInt_neg_neg,divInt_den_pos (by omega),Int.ediv_neg,Int.gcd_neg,Int.neg_gcd]
  exact Int.neg_ediv_of_dvd (Int.gcd_dvd_right _ _)
theorem divInt_num_one {n d : Int} (hd : 0 < d) (hg : Int.gcd n d = 1) : (Rat.divInt n d).num = n := by rw [divInt_num_pos hd,hg];simp
theorem divInt_den_one {n d : Int} (hd : 0 < d) (hg : Int.gcd n d = 1) : ((Rat.divInt n d).den : Int) = d := by rw [divInt_den_pos hd,hg];simp
theorem rat_gcd (q : Rat) : Int.gcd q.num q.den = 1 := q.reduced
theorem rat_den_pos (q : Rat) : 0 < (q.den : Int) := by have := q.den_nz;omega
theorem rat_add (x y : Rat) : Rat.divInt (x.num * y.den + y.num * x.den) (x.den * y.den) = x + y := by
  rw [Rat.add_def,Rat.normalize_eq_mkRat,← Rat.divInt_ofNat];simp
theorem rat_mul (x y : Rat) : Rat.divInt (x.num * y.num) (x.den * y.den) = x * y := by
  rw [Rat.mul_def,Rat.normalize_eq_mkRat,← Rat.divInt_ofNat];simp
theorem rat_div (x y : Rat) : Rat.divInt (x.num * y.den) (x.den * y.num) = x / y := by
  have hx := Rat.num_divInt_den x
  have hy := Rat.num_divInt_den y
  conv => rhs;rw [← hx,← hy]
  simp only [Rat.divInt_eq_div,Rat.intCast_mul]
  have h1 : ((x.den : Int) : Rat) ≠ 0 := by have := x.den_nz;simp;exact this
  have h2 : ((y.den : Int) : Rat) ≠ 0 := by have := y.den_nz;simp;exact this
  by_cases h3 : (y.num : Rat) = 0
  · rw [h3];grind
  · grind
theorem rat_cmp_lt (x y : Rat) : x.num * y.den < y.num * x.den ↔ x < y := (Rat.lt_iff x y).symm
theorem rat_num_zero (x : Rat) : x.num = 0 ↔ x = 0 := Rat.num_eq_zero
theorem rat_floor (x : Rat) : x.num / x.den = x.floor := (Rat.floor_def x).symm
theorem int_num (n : Int) : ((n : Rat)).num = n := by simp
theorem int_den (n : Int) : ((n : Rat)).den = 1 := by simp
theorem rat_neg_num (x : Rat) : (-x).num = -x.num := Rat.neg_num x
theorem rat_neg_den (x : Rat) : (-x).den = x.den := Rat.neg_den x
theorem divInt_natAbs (n d : Int) : (Rat.divInt n d).num.natAbs ≤ n.natAbs ∧ ((Rat.divInt n d).den ≤ d.natAbs ∨ d = 0) := by
  constructor
  · rw [Rat.num_divInt,Int.natAbs_ediv_of_dvd]
    · rw [Int.natAbs_mul]
      refine Nat.le_trans (Nat.div_le_self _ _) ?_
      rcases Int.lt_trichotomy d 0 with h | h | h
      · simp [Int.sign_eq_neg_one_of_neg h]
      · subst h;simp
      · simp [Int.sign_eq_one_of_pos h]
    · exact Int.dvd_mul_of_dvd_right (Int.gcd_dvd_right _ _)
  · by_cases h : d = 0
    · exact .inr h
    · left;rw [Rat.den_divInt,if_neg h];exact Nat.div_le_self _ _
def rsz (q : Rat) : Nat := max (isz q.num) (nsz q.den)
theorem rsz_divInt (n d : Int) (hd : d ≠ 0) {k : Nat} (h1 : isz n ≤ k) (h2 : isz d ≤ k) : rsz (Rat.divInt n d) ≤ k := by
  have ⟨a,b⟩ := divInt_natAbs n d
  rcases b with b | b
  · exact Nat.max_le.2 ⟨Nat.le_trans (isz_mono a) h1,Nat.le_trans (nsz_mono b) h2⟩
  · exact absurd b hd
theorem rsz_num (q : Rat) : isz q.num ≤ rsz q := Nat.le_max_left _ _
theorem rsz_den (q : Rat) : isz q.den ≤ rsz q := by have : isz (q.den : Int) = nsz q.den := by simp [isz]
                                                    rw [this];exact Nat.le_max_right _ _
theorem rsz_mul (x y : Rat) : rsz (x * y) ≤ rsz x + rsz y := by
  rw [← rat_mul]
  refine rsz_divInt _ _ ?_ ?_ ?_
  · have := rat_den_pos x;have := rat_den_pos y
    exact Int.ne_of_gt (Int.mul_pos (by assumption) (by assumption))
  · have := isz_mul x.num y.num;have := rsz_num x;have := rsz_num y;omega
  · have := isz_mul x.den y.den;have := rsz_den x;have := rsz_den y;omega
theorem rsz_add (x y : Rat) : rsz (x + y) ≤ rsz x + rsz y + 1 := by
  rw [← rat_add]
  refine rsz_divInt _ _ ?_ ?_ ?_
  · have := rat_den_pos x;have := rat_den_pos y
    exact Int.ne_of_gt (Int.mul_pos (by assumption) (by assumption))
  · have h1 := isz_add (x.num * y.den) (y.num * x.den)
    have h2 := isz_mul x.num y.den
    have h3 := isz_mul y.num x.den
    have := rsz_num x;have := rsz_num y
    have := rsz_den x;have := rsz_den y
    omega
  · have := isz_mul x.den y.den;have := rsz_den x;have := rsz_den y;omega
theorem rsz_neg (x : Rat) : rsz (-x) = rsz x := by simp [rsz,isz_neg]
theorem rsz_sub (x y : Rat) : rsz (x - y) ≤ rsz x + rsz y + 1 := by
  rw [Rat.sub_eq_add_neg];have := rsz_add x (-y);rwa [rsz_neg] at this
theorem rsz_div (x y : Rat) (hy : y ≠ 0) : rsz (x / y) ≤ rsz x + rsz y := by
  rw [← rat_div]
  refine rsz_divInt _ _ ?_ ?_ ?_
  · have h1 := rat_den_pos x
    have h2 : y.num ≠ 0 := fun h => hy ((rat_num_zero y).1 h)
    exact fun h => by rcases Int.mul_eq_zero.1 h with h | h <;> omega
  · have := isz_mul x.num y.den;have := rsz_num x;have := rsz_den y;omega
  · have := isz_mul x.den y.num;have := rsz_den x;have := rsz_num y;omega
theorem rsz_int (n : Int) : rsz (n : Rat) ≤ isz n + 1 := by
  unfold rsz
  rw [int_num,int_den]
  have : nsz 1 ≤ 1 := dig_length_le (by rw [BB_eq];omega)
  omega
end Go.Proofs.YtidfgdchcpmnfaaGreat
namespace Go.Proofs.YtidfgdchcpmnfaaGreat
open Go.RowKit
set_option linter.unusedSimpArgs false
set_option linter.unusedVariables false
theorem Below.al {w w' : World} (h : Below w.heap.size w w') (o : Obj) : Below w.heap.size w (w'.alloc o) := h.alloc h.size o
theorem Below.tr {w w' w'' : World} (h : Below w.heap.size w w') (k : Below w'.heap.size w' w'') : Below w.heap.size w w'' := h.trans (k.mono h.size)
theorem Below.drewn {m : Nat} {w w' : World} (h : Below m w w') (k : Nat) : Below m w (w'.drewN k) := by
  induction k with
  | zero => exact h
  | succ k ih => exact ih.drew
theorem Bx.drewN {w : World} {b : Nat} {cs : List Value} (h : Bx w b cs) (k : Nat) : Bx (w.drewN k) b cs := h.to (Below.drewn (Below.refl _ _) k)
theorem Rd.sets2 {w : World} {s : Value} {l : List Nat} (h : Rd w s l) {b : Nat} {u0 u1 : Value} (q : Bx w b [u0,u1]) (h0 : notU32 u0 = true) (h1 : notU32 u1 = true) (x0 x1 : Value) : Rd ((w.setCell ⟨b,0,none⟩ x0).setCell ⟨b,1,none⟩ x1) s l :=
  ((h.setBox (a := ⟨b,0,none⟩) (u := u0) (by exact q.c0) h0 x0).setBox (a := ⟨b,1,none⟩) (u := u1) (by rw [World.cell?_setCell_other _ _ _ _ (by simp)];exact q.c1) h1 x1)
theorem Bx.store2 {w : World} {b : Nat} {u0 u1 : Value} (h : Bx w b [u0,u1]) (x0 x1 : Value) : Bx ((w.setCell ⟨b,0,none⟩ x0).setCell ⟨b,1,none⟩ x1) b [x0,x1] := by
  refine ⟨by simpa [World.setCell] using h.1,fun i u hu => ?_⟩
  match i,hu with
  | 0,hu => simp at hu;subst hu;simp [go_sem,h.c0,h.f0,h.c1,h.f1]
  | 1,hu => simp at hu;subst hu;simp [go_sem,h.c0,h.f0,h.c1,h.f1]
  | _ + 2,hu => simp at hu
theorem Bx.other2 {w : World} {b' : Nat} {cs : List Value} (h : Bx w b' cs) {b : Nat} (hne : b' ≠ b) (x0 x1 : Value) : Bx ((w.setCell ⟨b,0,none⟩ x0).setCell ⟨b,1,none⟩ x1) b' cs := by
  refine ⟨by simpa [World.setCell] using h.1,fun i u hu => ?_⟩
  have := h.2 i u hu
  constructor
  · rw [World.cell?_setCell_far _ _ _ _ (fun e => hne e.symm)];rw [World.cell?_setCell_far _ _ _ _ (fun e => hne e.symm)];exact this.1
  · rw [World.frozen?_setCell];rw [World.frozen?_setCell];exact this.2
theorem Below.sets2 {m : Nat} {w' w : World} (h : Below m w' w) {b : Nat} (hb : m ≤ b) (x0 x1 : Value) : Below m w' ((w.setCell ⟨b,0,none⟩ x0).setCell ⟨b,1,none⟩ x1) :=
  ((h.setCell (p := ⟨b,0,none⟩) hb x0).setCell (p := ⟨b,1,none⟩) hb x1)
theorem Raw.sets2 {w : World} {v : Value} {x : Int} (h : Raw w v x) {b : Nat} {u0 u1 : Value} (q : Bx w b [u0,u1]) (h0 : notU32 u0 = true) (h1 : notU32 u1 = true) (x0 x1 : Value) : Raw ((w.setCell ⟨b,0,none⟩ x0).setCell ⟨b,1,none⟩ x1) v x := by
  obtain ⟨neg,s,l,k1,k2,k3,k4⟩ := h;exact ⟨neg,s,l,k1,k2.sets2 q h0 h1 x0 x1,k3,k4⟩
theorem RInt.sets2 {w : World} {v : Value} {x : Int} (h : RInt w v x) {b : Nat} {u0 u1 : Value} (q : Bx w b [u0,u1]) (h0 : notU32 u0 = true) (h1 : notU32 u1 = true) (x0 x1 : Value) : RInt ((w.setCell ⟨b,0,none⟩ x0).setCell ⟨b,1,none⟩ x1) v x := by
  obtain ⟨s,k1,k2⟩ := h;exact ⟨s,k1,k2.sets2 q h0 h1 x0 x1⟩
theorem Rd.sets4 {w : World} {s : Value} {l : List Nat} (h : Rd w s l) {b : Nat} {u0 u1 u2 u3 : Value} (q : Bx w b [u0,u1,u2,u3]) (h0 : notU32 u0 = true) (h1 : notU32 u1 = true) (h2 : notU32 u2 = true) (h3 : notU32 u3 = true) (x0 x1 x2 x3 : Value) : Rd ((((w.setCell ⟨b,0,none⟩ x0).setCell ⟨b,1,none⟩ x1).setCell ⟨b,2,none⟩ x2).setCell ⟨b,3,none⟩ x3) s l :=
  ((((h.setBox (a := ⟨b,0,none⟩) (u := u0) (by exact q.c0) h0 x0).setBox (a := ⟨b,1,none⟩) (u := u1) (by rw [World.cell?_setCell_other _ _ _ _ (by simp)];exact q.c1) h1 x1).setBox (a := ⟨b,2,none⟩) (u := u2) (by rw [World.cell?_setCell_other _ _ _ _ (by simp)];rw [World.cell?_setCell_other _ _ _ _ (by simp)];exact q.c2) h2 x2).setBox (a := ⟨b,3,none⟩) (u := u3) (by rw [World.cell?_setCell_other _ _ _ _ (by simp)];rw [World.cell?_setCell_other _ _ _ _ (by simp)];rw [World.cell?_setCell_other _ _ _ _ (by simp)];exact q.c3) h3 x3)
theorem Bx.store4 {w : World} {b : Nat} {u0 u1 u2 u3 : Value} (h : Bx w b [u0,u1,u2,u3]) (x0 x1 x2 x3 : Value) : Bx ((((w.setCell ⟨b,0,none⟩ x0).setCell ⟨b,1,none⟩ x1).setCell ⟨b,2,none⟩ x2).setCell ⟨b,3,none⟩ x3) b [x0,x1,x2,x3] := by
  refine ⟨by simpa [World.setCell] using h.1,fun i u hu => ?_⟩
  match i,hu with
  | 0,hu => simp at hu;subst hu;simp [go_sem,h.c0,h.f0,h.c1,h.f1,h.c2,h.f2,h.c3,h.f3]
  | 1,hu => simp at hu;subst hu;simp [go_sem,h.c0,h.f0,h.c1,h.f1,h.c2,h.f2,h.c3,h.f3]
  | 2,hu => simp at hu;subst hu;simp [go_sem,h.c0,h.f0,h.c1,h.f1,h.c2,h.f2,h.c3,h.f3]
  | 3,hu => simp at hu;subst hu;simp [go_sem,h.c0,h.f0,h.c1,h.f1,h.c2,h.f2,h.c3,h.f3]
  | _ + 4,hu => simp at hu
theorem Bx.other4 {w : World} {b' : Nat} {cs : List Value} (h : Bx w b' cs) {b : Nat} (hne : b' ≠ b) (x0 x1 x2 x3 : Value) : Bx ((((w.setCell ⟨b,0,none⟩ x0).setCell ⟨b,1,none⟩ x1).setCell ⟨b,2,none⟩ x2).setCell ⟨b,3,none⟩ x3) b' cs := by
  refine ⟨by simpa [World.setCell] using h.1,fun i u hu => ?_⟩
  have := h.2 i u hu
  constructor
  · rw [World.cell?_setCell_far _ _ _ _ (fun e => hne e.symm)];rw [World.cell?_setCell_far _ _ _ _ (fun e => hne e.symm)];rw [World.cell?_setCell_far _ _ _ _ (fun e => hne e.symm)];rw [World.cell?_setCell_far _ _ _ _ (fun e => hne e.symm)];exact this.1
  · rw [World.frozen?_setCell];rw [World.frozen?_setCell];rw [World.frozen?_setCell];rw [World.frozen?_setCell];exact this.2
theorem Below.sets4 {m : Nat} {w' w : World} (h : Below m w' w) {b : Nat} (hb : m ≤ b) (x0 x1 x2 x3 : Value) : Below m w' ((((w.setCell ⟨b,0,none⟩ x0).setCell ⟨b,1,none⟩ x1).setCell ⟨b,2,none⟩ x2).setCell ⟨b,3,none⟩ x3) :=
  ((((h.setCell (p := ⟨b,0,none⟩) hb x0).setCell (p := ⟨b,1,none⟩) hb x1).setCell (p := ⟨b,2,none⟩) hb x2).setCell (p := ⟨b,3,none⟩) hb x3)
theorem Raw.sets4 {w : World} {v : Value} {x : Int} (h : Raw w v x) {b : Nat} {u0 u1 u2 u3 : Value} (q : Bx w b [u0,u1,u2,u3]) (h0 : notU32 u0 = true) (h1 : notU32 u1 = true) (h2 : notU32 u2 = true) (h3 : notU32 u3 = true) (x0 x1 x2 x3 : Value) : Raw ((((w.setCell ⟨b,0,none⟩ x0).setCell ⟨b,1,none⟩ x1).setCell ⟨b,2,none⟩ x2).setCell ⟨b,3,none⟩ x3) v x := by
  obtain ⟨neg,s,l,k1,k2,k3,k4⟩ := h;exact ⟨neg,s,l,k1,k2.sets4 q h0 h1 h2 h3 x0 x1 x2 x3,k3,k4⟩
theorem RInt.sets4 {w : World} {v : Value} {x : Int} (h : RInt w v x) {b : Nat} {u0 u1 u2 u3 : Value} (q : Bx w b [u0,u1,u2,u3]) (h0 : notU32 u0 = true) (h1 : notU32 u1 = true) (h2 : notU32 u2 = true) (h3 : notU32 u3 = true) (x0 x1 x2 x3 : Value) : RInt ((((w.setCell ⟨b,0,none⟩ x0).setCell ⟨b,1,none⟩ x1).setCell ⟨b,2,none⟩ x2).setCell ⟨b,3,none⟩ x3) v x := by
  obtain ⟨s,k1,k2⟩ := h;exact ⟨s,k1,k2.sets4 q h0 h1 h2 h3 x0 x1 x2 x3⟩
def RawV (w : World) (v : Value) (ok : Bool) (x : Int) : Prop :=
  ∃ neg s l,v = .agg #[.bool neg,s] ∧ Rd w s l ∧ (∀ g ∈ l,g < 4294967296) ∧ x = cnt neg l ∧ ok = vldB neg l
theorem RawV.raw {w : World} {v : Value} {ok : Bool} {x : Int} (h : RawV w v ok x) : Raw w v x := by
  obtain ⟨neg,s,l,k1,k2,k3,k4,_⟩ := h;exact ⟨neg,s,l,k1,k2,k3,k4⟩
theorem RawV.below {w w' : World} {v : Value} {ok : Bool} {x : Int} (h : RawV w v ok x) (hb : Below w.heap.size w w') : RawV w' v ok x := by
  obtain ⟨neg,s,l,k1,k2,k3,k4⟩ := h;exact ⟨neg,s,l,k1,k2.below hb,k3,k4⟩
theorem RawV.zero {w : World} {v : Value} {x : Int} (h : RawV w v false x) : x = 0 := by
  obtain ⟨neg,s,l,k1,k2,k3,k4,k5⟩ := h;rw [k4];unfold cnt;rw [← k5];rfl
theorem RawV.int {w : World} {v : Value} {x : Int} (h : RawV w v true x) : RInt w v x := by
  obtain ⟨neg,s,l,k1,k2,k3,k4,k5⟩ := h
  have hd := dig_cnt neg l
  have hc : cgs neg l = l := by unfold cgs;rw [← k5];rfl
  rw [hc,← k4] at hd
  refine ⟨s,?_,by rw [hd];exact k2⟩
  rw [k1]
  by_cases hx : x = 0
  · have hl : l = [] := by rw [← hd,hx];simp [dig_zero]
    have := (vldB_iff.1 k5.symm).2 hl
    rw [this,hx];simp
  · have := cnt_sign (neg := neg) (l := l) (by rw [← k4];exact hx)
    rw [← k4] at this;rw [← this]
theorem RInt.rawV {w : World} {v : Value} {x : Int} (h : RInt w v x) : RawV w v true x := by
  obtain ⟨s,h1,h2⟩ := h
  exact ⟨_,s,_,h1,h2,fun g hg => by have := dig_low _ g hg;rw [BB_eq] at this;omega,(cnt_dig x).symm,(vldB_dig x).symm⟩
theorem Raw.len {w : World} {b : Bool} {p : Option Addr} {n c : Nat} {x : Int} (h : Raw w (.agg #[.bool b,.slice p n c]) x) : isz x ≤ n := by
  obtain ⟨neg,s,l,k1,k2,k3,k4⟩ := h
  cases k1
  obtain ⟨p',c',e,_⟩ := k2.form
  cases e
  unfold isz nsz
  rw [k4,dig_cnt]
  unfold cgs
  split
  · exact Nat.le_refl _
  · simp
def RQ (w : World) (v : Value) (q : Rat) : Prop := ∃ b s c t,v = .agg #[b,s,c,t] ∧ RInt w (.agg #[b,s]) q.num ∧ RInt w (.agg #[c,t]) (q.den : Int)
theorem RQ.num {w : World} {b s c t : Value} {q : Rat} (h : RQ w (.agg #[b,s,c,t]) q) : RInt w (.agg #[b,s]) q.num := by
  obtain ⟨_,_,_,_,e,h1,h2⟩ := h;cases e;exact h1
theorem RQ.den {w : World} {b s c t : Value} {q : Rat} (h : RQ w (.agg #[b,s,c,t]) q) : RInt w (.agg #[c,t]) (q.den : Int) := by
  obtain ⟨_,_,_,_,e,h1,h2⟩ := h;cases e;exact h2
theorem RQ.mk' {w : World} {b s c t : Value} {q : Rat} {n d : Int} (h1 : RInt w (.agg #[b,s]) n) (h2 : RInt w (.agg #[c,t]) d) (hn : n = q.num) (hd : d = (q.den : Int)) : RQ w (.agg #[b,s,c,t]) q :=
  ⟨b,s,c,t,rfl,hn ▸ h1,hd ▸ h2⟩
theorem RQ.below {w w' : World} {v : Value} {q : Rat} (h : RQ w v q) (hb : Below w.heap.size w w') : RQ w' v q := by
  obtain ⟨b,s,c,t,e,h1,h2⟩ := h;exact ⟨b,s,c,t,e,h1.below hb,h2.below hb⟩
theorem RQ.form {w : World} {v : Value} {q : Rat} (h : RQ w v q) : ∃ b p n c b' p' n' c',v = .agg #[.bool b,.slice p n c,.bool b',.slice p' n' c'] := by
  obtain ⟨b,s,c,t,e,h1,h2⟩ := h
  obtain ⟨_,_,_,_,e1⟩ := h1.form
  obtain ⟨_,_,_,_,e2⟩ := h2.form
  cases e1;cases e2
  exact ⟨_,_,_,_,_,_,_,_,e⟩
def QRaw (w : World) (v : Value) (ok : Bool) (q : Rat) : Prop :=
  ∃ b s c t o1 o2 n d,v = .agg #[b,s,c,t] ∧ RawV w (.agg #[b,s]) o1 n ∧ RawV w (.agg #[c,t]) o2 d ∧ ok = (o1 && (o2 && (decide (0 < d) && decide (Int.gcd n d = 1)))) ∧ q = if ok then Rat.divInt n d else 0
theorem QRaw.below {w w' : World} {v : Value} {ok : Bool} {q : Rat} (h : QRaw w v ok q) (hb : Below w.heap.size w w') : QRaw w' v ok q := by
  obtain ⟨b,s,c,t,o1,o2,n,d,e,h1,h2,h3⟩ := h;exact ⟨b,s,c,t,o1,o2,n,d,e,h1.below hb,h2.below hb,h3⟩
theorem QRaw.form {w : World} {v : Value} {ok : Bool} {q : Rat} (h : QRaw w v ok q) : ∃ b p n c b' p' n' c',v = .agg #[.bool b,.slice p n c,.bool b',.slice p' n' c'] := by
  obtain ⟨b,s,c,t,o1,o2,n,d,e,h1,h2,_⟩ := h
  obtain ⟨_,_,_,_,e1⟩ := h1.raw.form
  obtain ⟨_,_,_,_,e2⟩ := h2.raw.form
  cases e1;cases e2
  exact ⟨_,_,_,_,_,_,_,_,e⟩
theorem QRaw.rq {w : World} {v : Value} {q : Rat} (h : QRaw w v true q) : RQ w v q := by
  obtain ⟨b,s,c,t,o1,o2,n,d,e,h1,h2,h3,h4⟩ := h
  simp only [Bool.true_eq,Bool.and_eq_true,decide_eq_true_eq] at h3
  obtain ⟨rfl,rfl,hd,hg⟩ := h3
  rw [if_pos rfl] at h4
  subst h4
  rw [e]
  exact RQ.mk' h1.int h2.int (divInt_num_one hd hg).symm (divInt_den_one hd hg).symm
theorem QRaw.no {w : World} {v : Value} {q : Rat} (h : QRaw w v false q) : q = 0 := by
  obtain ⟨b,s,c,t,o1,o2,n,d,e,h1,h2,h3,h4⟩ := h
  simpa using h4
theorem RQ.raw {w : World} {v : Value} {q : Rat} (h : RQ w v q) : QRaw w v true q := by
  obtain ⟨b,s,c,t,e,h1,h2⟩ := h
  refine ⟨b,s,c,t,true,true,_,_,e,h1.rawV,h2.rawV,?_,?_⟩
  · simp [rat_gcd];exact Nat.pos_of_ne_zero q.den_nz
  · rw [if_pos rfl,Rat.num_divInt_den]
theorem RawV.sets2 {w : World} {v : Value} {ok : Bool} {x : Int} (h : RawV w v ok x) {b : Nat} {u0 u1 : Value} (q : Bx w b [u0,u1]) (h0 : notU32 u0 = true) (h1 : notU32 u1 = true) (x0 x1 : Value) : RawV ((w.setCell ⟨b,0,none⟩ x0).setCell ⟨b,1,none⟩ x1) v ok x := by
  obtain ⟨neg,s,l,k1,k2,k3,k4⟩ := h;exact ⟨neg,s,l,k1,k2.sets2 q h0 h1 x0 x1,k3,k4⟩
theorem RQ.sets2 {w : World} {v : Value} {x : Rat} (h : RQ w v x) {b : Nat} {u0 u1 : Value} (q : Bx w b [u0,u1]) (h0 : notU32 u0 = true) (h1 : notU32 u1 = true) (x0 x1 : Value) : RQ ((w.setCell ⟨b,0,none⟩ x0).setCell ⟨b,1,none⟩ x1) v x := by
  obtain ⟨a,s,c,t,e,k1,k2⟩ := h;exact ⟨a,s,c,t,e,k1.sets2 q h0 h1 x0 x1,k2.sets2 q h0 h1 x0 x1⟩
theorem QRaw.sets2 {w : World} {v : Value} {ok : Bool} {x : Rat} (h : QRaw w v ok x) {b : Nat} {u0 u1 : Value} (q : Bx w b [u0,u1]) (h0 : notU32 u0 = true) (h1 : notU32 u1 = true) (x0 x1 : Value) : QRaw ((w.setCell ⟨b,0,none⟩ x0).setCell ⟨b,1,none⟩ x1) v ok x := by
  obtain ⟨a,s,c,t,o1,o2,m,d,e,k1,k2,k3⟩ := h;exact ⟨a,s,c,t,o1,o2,m,d,e,k1.sets2 q h0 h1 x0 x1,k2.sets2 q h0 h1 x0 x1,k3⟩
theorem RawV.sets4 {w : World} {v : Value} {ok : Bool} {x : Int} (h : RawV w v ok x) {b : Nat} {u0 u1 u2 u3 : Value} (q : Bx w b [u0,u1,u2,u3]) (h0 : notU32 u0 = true) (h1 : notU32 u1 = true) (h2 : notU32 u2 = true) (h3 : notU32 u3 = true) (x0 x1 x2 x3 : Value) : RawV ((((w.setCell ⟨b,0,none⟩ x0).setCell ⟨b,1,none⟩ x1).setCell ⟨b,2,none⟩ x2).setCell ⟨b,3,none⟩ x3) v ok x := by
  obtain ⟨neg,s,l,k1,k2,k3,k4⟩ := h;exact ⟨neg,s,l,k1,k2.sets4 q h0 h1 h2 h3 x0 x1 x2 x3,k3,k4⟩
theorem RQ.sets4 {w : World} {v : Value} {x : Rat} (h : RQ w v x) {b : Nat} {u0 u1 u2 u3 : Value} (q : Bx w b [u0,u1,u2,u3]) (h0 : notU32 u0 = true) (h1 : notU32 u1 = true) (h2 : notU32 u2 = true) (h3 : notU32 u3 = true) (x0 x1 x2 x3 : Value) : RQ ((((w.setCell ⟨b,0,none⟩ x0).setCell ⟨b,1,none⟩ x1).setCell ⟨b,2,none⟩ x2).setCell ⟨b,3,none⟩ x3) v x := by
  obtain ⟨a,s,c,t,e,k1,k2⟩ := h;exact ⟨a,s,c,t,e,k1.sets4 q h0 h1 h2 h3 x0 x1 x2 x3,k2.sets4 q h0 h1 h2 h3 x0 x1 x2 x3⟩
theorem QRaw.sets4 {w : World} {v : Value} {ok : Bool} {x : Rat} (h : QRaw w v ok x) {b : Nat} {u0 u1 u2 u3 : Value} (q : Bx w b [u0,u1,u2,u3]) (h0 : notU32 u0 = true) (h1 : notU32 u1 = true) (h2 : notU32 u2 = true) (h3 : notU32 u3 = true) (x0 x1 x2 x3 : Value) : QRaw ((((w.setCell ⟨b,0,none⟩ x0).setCell ⟨b,1,none⟩ x1).setCell ⟨b,2,none⟩ x2).setCell ⟨b,3,none⟩ x3) v ok x := by
  obtain ⟨a,s,c,t,o1,o2,m,d,e,k1,k2,k3⟩ := h;exact ⟨a,s,c,t,o1,o2,m,d,e,k1.sets4 q h0 h1 h2 h3 x0 x1 x2 x3,k2.sets4 q h0 h1 h2 h3 x0 x1 x2 x3,k3⟩
theorem RawV.alloc {w : World} {v : Value} {ok : Bool} {x : Int} (h : RawV w v ok x) (o : Obj) : RawV (w.alloc o) v ok x := h.below ((Below.refl _ _).alloc (Nat.le_refl _) _)
theorem RawV.drew {w : World} {v : Value} {ok : Bool} {x : Int} (h : RawV w v ok x) : RawV w.drew v ok x := h.below (Below.refl _ _).drew
theorem RQ.alloc {w : World} {v : Value} {x : Rat} (h : RQ w v x) (o : Obj) : RQ (w.alloc o) v x := h.below ((Below.refl _ _).alloc (Nat.le_refl _) _)
theorem RQ.drew {w : World} {v : Value} {x : Rat} (h : RQ w v x) : RQ w.drew v x := h.below (Below.refl _ _).drew
theorem QRaw.alloc {w : World} {v : Value} {ok : Bool} {x : Rat} (h : QRaw w v ok x) (o : Obj) : QRaw (w.alloc o) v ok x := h.below ((Below.refl _ _).alloc (Nat.le_refl _) _)
theorem QRaw.drew {w : World} {v : Value} {ok : Bool} {x : Rat} (h : QRaw w v ok x) : QRaw w.drew v ok x := h.below (Below.refl _ _).drew
def GQ (q : Rat) (w : World) (e : Ending) (w' : World) : Prop := ∃ v,e = .returned v ∧ RQ w' v q ∧ Below w.heap.size w w'
end Go.Proofs.YtidfgdchcpmnfaaGreat
namespace Go.Proofs.YtidfgdchcpmnfaaGreat
open Go.RowKit
set_option linter.unusedSimpArgs false
set_option linter.unusedVariables false
set_option maxRecDepth 20000
theorem Bx.c4 {w : World} {b : Nat} {u0 u1 u2 u3 u4 : Value} {cs : List Value} (h : Bx w b (u0 :: u1 :: u2 :: u3 :: u4 :: cs)) : w.cell? ⟨b,4,none⟩ = some u4 := (h.2 4 u4 rfl).1
theorem Bx.c5 {w : World} {b : Nat} {u0 u1 u2 u3 u4 u5 : Value} {cs : List Value} (h : Bx w b (u0 :: u1 :: u2 :: u3 :: u4 :: u5 :: cs)) : w.cell? ⟨b,5,none⟩ = some u5 := (h.2 5 u5 rfl).1
theorem Bx.f5 {w : World} {b : Nat} {u0 u1 u2 u3 u4 u5 : Value} {cs : List Value} (h : Bx w b (u0 :: u1 :: u2 :: u3 :: u4 :: u5 :: cs)) : w.frozen? ⟨b,5,none⟩ = false := (h.2 5 u5 rfl).2
theorem Bx.c6 {w : World} {b : Nat} {u0 u1 u2 u3 u4 u5 u6 : Value} {cs : List Value} (h : Bx w b (u0 :: u1 :: u2 :: u3 :: u4 :: u5 :: u6 :: cs)) : w.cell? ⟨b,6,none⟩ = some u6 := (h.2 6 u6 rfl).1
theorem Bx.c7 {w : World} {b : Nat} {u0 u1 u2 u3 u4 u5 u6 u7 : Value} {cs : List Value} (h : Bx w b (u0 :: u1 :: u2 :: u3 :: u4 :: u5 :: u6 :: u7 :: cs)) : w.cell? ⟨b,7,none⟩ = some u7 := (h.2 7 u7 rfl).1
theorem Bx.c8 {w : World} {b : Nat} {u0 u1 u2 u3 u4 u5 u6 u7 u8 : Value} {cs : List Value} (h : Bx w b (u0 :: u1 :: u2 :: u3 :: u4 :: u5 :: u6 :: u7 :: u8 :: cs)) : w.cell? ⟨b,8,none⟩ = some u8 := (h.2 8 u8 rfl).1
theorem Bx.c9 {w : World} {b : Nat} {u0 u1 u2 u3 u4 u5 u6 u7 u8 u9 : Value} {cs : List Value} (h : Bx w b (u0 :: u1 :: u2 :: u3 :: u4 :: u5 :: u6 :: u7 :: u8 :: u9 :: cs)) : w.cell? ⟨b,9,none⟩ = some u9 := (h.2 9 u9 rfl).1
theorem Bx.c10 {w : World} {b : Nat} {u0 u1 u2 u3 u4 u5 u6 u7 u8 u9 u10 : Value} {cs : List Value} (h : Bx w b (u0 :: u1 :: u2 :: u3 :: u4 :: u5 :: u6 :: u7 :: u8 :: u9 :: u10 :: cs)) : w.cell? ⟨b,10,none⟩ = some u10 := (h.2 10 u10 rfl).1
theorem Bx.c13 {w : World} {b : Nat} {u0 u1 u2 u3 u4 u5 u6 u7 u8 u9 u10 u11 u12 u13 : Value} {cs : List Value} (h : Bx w b (u0 :: u1 :: u2 :: u3 :: u4 :: u5 :: u6 :: u7 :: u8 :: u9 :: u10 :: u11 :: u12 :: u13 :: cs)) : w.cell? ⟨b,13,none⟩ = some u13 := (h.2 13 u13 rfl).1
theorem Bx.c14 {w : World} {b : Nat} {u0 u1 u2 u3 u4 u5 u6 u7 u8 u9 u10 u11 u12 u13 u14 : Value} {cs : List Value} (h : Bx w b (u0 :: u1 :: u2 :: u3 :: u4 :: u5 :: u6 :: u7 :: u8 :: u9 :: u10 :: u11 :: u12 :: u13 :: u14 :: cs)) : w.cell? ⟨b,14,none⟩ = some u14 := (h.2 14 u14 rfl).1
theorem Bx.setAt {w : World} {b : Nat} {cs : List Value} (h : Bx w b cs) (k : Nat) (x : Value) : Bx (w.setCell ⟨b,k,none⟩ x) b (cs.set k x) := by
  refine ⟨by simpa [World.setCell] using h.1,fun i u hu => ?_⟩
  rw [List.getElem?_set] at hu
  by_cases e : k = i
  · subst e
    rw [if_pos rfl] at hu
    by_cases hk : k < cs.length
    · rw [if_pos hk] at hu
      cases hu
      have h2 := h.2 k cs[k] (by simp [hk])
      exact ⟨by simp [go_sem,h2.1,h2.2],by rw [World.frozen?_setCell];exact h2.2⟩
    · rw [if_neg hk] at hu;cases hu
  · rw [if_neg e] at hu
    have h2 := h.2 i u hu
    exact ⟨by rw [World.cell?_setCell_other _ _ _ _ (by simp [e])];exact h2.1,by rw [World.frozen?_setCell];exact h2.2⟩
theorem Bx.otherAt {w : World} {b' : Nat} {cs : List Value} (h : Bx w b' cs) {b : Nat} (hne : b' ≠ b) (k : Nat) (x : Value) : Bx (w.setCell ⟨b,k,none⟩ x) b' cs := by
  refine ⟨by simpa [World.setCell] using h.1,fun i u hu => ?_⟩
  have := h.2 i u hu
  constructor
  · rw [World.cell?_setCell_far _ _ _ _ (fun e => hne e.symm)];exact this.1
  · rw [World.frozen?_setCell];exact this.2
theorem RQ.setBox {w : World} {v : Value} {x : Rat} (h : RQ w v x) {a : Addr} {u : Value} (hc : w.cell? a = some u) (hu : notU32 u = true) (u' : Value) : RQ (w.setCell a u') v x := by
  obtain ⟨b,s,c,t,e,k1,k2⟩ := h;exact ⟨b,s,c,t,e,k1.setBox hc hu u',k2.setBox hc hu u'⟩
theorem RawV.setBox {w : World} {v : Value} {ok : Bool} {x : Int} (h : RawV w v ok x) {a : Addr} {u : Value} (hc : w.cell? a = some u) (hu : notU32 u = true) (u' : Value) : RawV (w.setCell a u') v ok x := by
  obtain ⟨neg,s,l,k1,k2,k3,k4⟩ := h;exact ⟨neg,s,l,k1,k2.setBox hc hu u',k3,k4⟩
theorem QRaw.setBox {w : World} {v : Value} {ok : Bool} {x : Rat} (h : QRaw w v ok x) {a : Addr} {u : Value} (hc : w.cell? a = some u) (hu : notU32 u = true) (u' : Value) : QRaw (w.setCell a u') v ok x := by
  obtain ⟨b,s,c,t,o1,o2,m,d,e,k1,k2,k3⟩ := h;exact ⟨b,s,c,t,o1,o2,m,d,e,k1.setBox hc hu u',k2.setBox hc hu u',k3⟩
end Go.Proofs.YtidfgdchcpmnfaaGreat
namespace Go.Proofs.YtidfgdchcpmnfaaGreat
open Go Go.RowKit
set_option linter.unusedSimpArgs false
set_option linter.unusedVariables false
theorem bx1 (w : World) {n : Nat} (h : w.heap.size = n) (c0 : List Value) (t0 : TypeId) : Below w.heap.size w (w.alloc (.cells c0.toArray t0)) ∧ Bx (w.alloc (.cells c0.toArray t0)) (n) c0 := by
  subst h
  exact ⟨(Below.refl _ _).alloc (Nat.le_refl _) _,by have := (Bx.new w c0 t0);simpa using this⟩
theorem bx2 (w : World) {n : Nat} (h : w.heap.size = n) (c0 : List Value) (t0 : TypeId) (c1 : List Value) (t1 : TypeId) : Below w.heap.size w ((w.alloc (.cells c0.toArray t0)).alloc (.cells c1.toArray t1)) ∧ Bx ((w.alloc (.cells c0.toArray t0)).alloc (.cells c1.toArray t1)) (n) c0 ∧ Bx ((w.alloc (.cells c0.toArray t0)).alloc (.cells c1.toArray t1)) (n + 1) c1 := by
  subst h
  exact ⟨Below.al ((Below.refl _ _).alloc (Nat.le_refl _) _) _,by have := ((Bx.new w c0 t0).alloc (.cells c1.toArray t1));simpa using this,by have := (Bx.new (w.alloc (.cells c0.toArray t0)) c1 t1);simpa using this⟩
theorem bx3 (w : World) {n : Nat} (h : w.heap.size = n) (c0 : List Value) (t0 : TypeId) (c1 : List Value) (t1 : TypeId) (c2 : List Value) (t2 : TypeId) : Below w.heap.size w (((w.alloc (.cells c0.toArray t0)).alloc (.cells c1.toArray t1)).alloc (.cells c2.toArray t2)) ∧ Bx (((w.alloc (.cells c0.toArray t0)).alloc (.cells c1.toArray t1)).alloc (.cells c2.toArray t2)) (n) c0 ∧ Bx (((w.alloc (.cells c0.toArray t0)).alloc (.cells c1.toArray t1)).alloc (.cells c2.toArray t2)) (n + 1) c1 ∧ Bx (((w.alloc (.cells c0.toArray t0)).alloc (.cells c1.toArray t1)).alloc (.cells c2.toArray t2)) (n + 1 + 1) c2 := by
  subst h
  exact ⟨Below.al (Below.al ((Below.refl _ _).alloc (Nat.le_refl _) _) _) _,by have := (((Bx.new w c0 t0).alloc (.cells c1.toArray t1)).alloc (.cells c2.toArray t2));simpa using this,by have := ((Bx.new (w.alloc (.cells c0.toArray t0)) c1 t1).alloc (.cells c2.toArray t2));simpa using this,by have := (Bx.new ((w.alloc (.cells c0.toArray t0)).alloc (.cells c1.toArray t1)) c2 t2);simpa using this⟩
theorem bx4 (w : World) {n : Nat} (h : w.heap.size = n) (c0 : List Value) (t0 : TypeId) (c1 : List Value) (t1 : TypeId) (c2 : List Value) (t2 : TypeId) (c3 : List Value) (t3 : TypeId) : Below w.heap.size w ((((w.alloc (.cells c0.toArray t0)).alloc (.cells c1.toArray t1)).alloc (.cells c2.toArray t2)).alloc (.cells c3.toArray t3)) ∧ Bx ((((w.alloc (.cells c0.toArray t0)).alloc (.cells c1.toArray t1)).alloc (.cells c2.toArray t2)).alloc (.cells c3.toArray t3)) (n) c0 ∧ Bx ((((w.alloc (.cells c0.toArray t0)).alloc (.cells c1.toArray t1)).alloc (.cells c2.toArray t2)).alloc (.cells c3.toArray t3)) (n + 1) c1 ∧ Bx ((((w.alloc (.cells c0.toArray t0)).alloc (.cells c1.toArray t1)).alloc (.cells c2.toArray t2)).alloc (.cells c3.toArray t3)) (n + 1 + 1) c2 ∧ Bx ((((w.alloc (.cells c0.toArray t0)).alloc (.cells c1.toArray t1)).alloc (.cells c2.toArray t2)).alloc (.cells c3.toArray t3)) (n + 1 + 1 + 1) c3 := by
  subst h
  exact ⟨Below.al (Below.al (Below.al ((Below.refl _ _).alloc (Nat.le_refl _) _) _) _) _,by have := ((((Bx.new w c0 t0).alloc (.cells c1.toArray t1)).alloc (.cells c2.toArray t2)).alloc (.cells c3.toArray t3));simpa using this,by have := (((Bx.new (w.alloc (.cells c0.toArray t0)) c1 t1).alloc (.cells c2.toArray t2)).alloc (.cells c3.toArray t3));simpa using this,by have := ((Bx.new ((w.alloc (.cells c0.toArray t0)).alloc (.cells c1.toArray t1)) c2 t2).alloc (.cells c3.toArray t3));simpa using this,by have := (Bx.new (((w.alloc (.cells c0.toArray t0)).alloc (.cells c1.toArray t1)).alloc (.cells c2.toArray t2)) c3 t3);simpa using this⟩
theorem Bx.cs2 {w : World} {b : Nat} {u0 u1 : Value} (h : Bx w b [u0,u1]) : w.cell? ⟨b,0,none⟩ = some u0 ∧ w.cell? ⟨b,1,none⟩ = some u1 :=
  ⟨(h.2 0 u0 rfl).1,(h.2 1 u1 rfl).1⟩
theorem Bx.cs4 {w : World} {b : Nat} {u0 u1 u2 u3 : Value} (h : Bx w b [u0,u1,u2,u3]) : w.cell? ⟨b,0,none⟩ = some u0 ∧ w.cell? ⟨b,1,none⟩ = some u1 ∧ w.cell? ⟨b,2,none⟩ = some u2 ∧ w.cell? ⟨b,3,none⟩ = some u3 :=
  ⟨(h.2 0 u0 rfl).1,(h.2 1 u1 rfl).1,(h.2 2 u2 rfl).1,(h.2 3 u3 rfl).1⟩
theorem Bx.cf2 {w : World} {b : Nat} {u0 u1 : Value} (h : Bx w b [u0,u1]) : w.cell? ⟨b,0,none⟩ = some u0 ∧ w.frozen? ⟨b,0,none⟩ = false ∧ w.cell? ⟨b,1,none⟩ = some u1 ∧ w.frozen? ⟨b,1,none⟩ = false :=
  ⟨(h.2 0 u0 rfl).1,(h.2 0 u0 rfl).2,(h.2 1 u1 rfl).1,(h.2 1 u1 rfl).2⟩
theorem Bx.cf4 {w : World} {b : Nat} {u0 u1 u2 u3 : Value} (h : Bx w b [u0,u1,u2,u3]) : w.cell? ⟨b,0,none⟩ = some u0 ∧ w.frozen? ⟨b,0,none⟩ = false ∧ w.cell? ⟨b,1,none⟩ = some u1 ∧ w.frozen? ⟨b,1,none⟩ = false ∧ w.cell? ⟨b,2,none⟩ = some u2 ∧ w.frozen? ⟨b,2,none⟩ = false ∧ w.cell? ⟨b,3,none⟩ = some u3 ∧ w.frozen? ⟨b,3,none⟩ = false :=
  ⟨(h.2 0 u0 rfl).1,(h.2 0 u0 rfl).2,(h.2 1 u1 rfl).1,(h.2 1 u1 rfl).2,(h.2 2 u2 rfl).1,(h.2 2 u2 rfl).2,(h.2 3 u3 rfl).1,(h.2 3 u3 rfl).2⟩
def HeldK (S : World → Prop) : Prop := ∀ A B : World,S A → Below A.heap.size A B → S B
def HeldC (b : Nat) (S : World → Prop) : Prop := ∀ (A : World) (j : Nat) (x : Value),S A → S (A.setCell ⟨b,j,none⟩ x)
theorem HeldK.go {S : World → Prop} (h : HeldK S) {A B : World} (hS : S A) (hb : Below A.heap.size A B) : S B := h A B hS hb
theorem HeldC.go2 {S : World → Prop} {b : Nat} (h : HeldC b S) {A : World} {x0 x1 : Value} (hS : S A) : S ((A.setCell ⟨b,0,none⟩ x0).setCell ⟨b,1,none⟩ x1) := (h _ _ _ (h _ _ _ hS))
theorem HeldC.go4 {S : World → Prop} {b : Nat} (h : HeldC b S) {A : World} {x0 x1 x2 x3 : Value} (hS : S A) : S ((((A.setCell ⟨b,0,none⟩ x0).setCell ⟨b,1,none⟩ x1).setCell ⟨b,2,none⟩ x2).setCell ⟨b,3,none⟩ x3) := (h _ _ _ (h _ _ _ (h _ _ _ (h _ _ _ hS))))
abbrev AndS (S T : World → Prop) (w : World) : Prop := S w ∧ T w
theorem AndS.mk {S T : World → Prop} {w : World} (x : S w) (y : T w) : AndS S T w := ⟨x,y⟩
theorem AndS.hk {S T : World → Prop} (h : HeldK S) (h' : HeldK T) : HeldK (AndS S T) := fun A B x hb => ⟨h A B x.1 hb,h' A B x.2 hb⟩
theorem AndS.hc {S T : World → Prop} {b : Nat} (h : HeldC b S) (h' : HeldC b T) : HeldC b (AndS S T) := fun A j v x => ⟨h A j v x.1,h' A j v x.2⟩
abbrev BT (w : World) : Prop := True
theorem BT.of (w : World) : BT w := trivial
theorem BT.hk : HeldK BT := fun _ _ _ _ => trivial
theorem BT.hc {b : Nat} : HeldC b BT := fun _ _ _ _ => trivial
abbrev BN (b : Nat) (w : World) : Prop := b < w.heap.size
theorem BN.of {w : World} {b : Nat} {cs : List Value} (h : Bx w b cs) : BN b w := h.1
theorem BN.hk {b : Nat} : HeldK (BN b) := fun A B x hb => Nat.lt_of_lt_of_le x hb.size
theorem BN.hc {b b' : Nat} : HeldC b' (BN b) := fun A j v x => by simpa [World.setCell] using x
abbrev BC (b o : Nat) (u : Value) (w : World) : Prop := w.cell? ⟨b,o,none⟩ = some u ∧ b < w.heap.size
theorem BC.of {w w' : World} {b o : Nat} {u : Value} (hb : Below w.heap.size w w') (hl : b < w.heap.size) (hc : w.cell? ⟨b,o,none⟩ = some u) : BC b o u w' := ⟨((bcell hb).1 _ _ hl).trans hc,Nat.lt_of_lt_of_le hl hb.size⟩
theorem BC.at {w w' : World} {b o : Nat} {u : Value} (h : BC b o u w) (hb : Below w.heap.size w w') : w'.cell? ⟨b,o,none⟩ = some u := ((bcell hb).1 _ _ h.2).trans h.1
theorem BC.hk {b o : Nat} {u : Value} : HeldK (BC b o u) := fun A B x hb => ⟨((bcell hb).1 _ _ x.2).trans x.1,Nat.lt_of_lt_of_le x.2 hb.size⟩
theorem BC.hc {b b' o : Nat} {u : Value} (h : b ≠ b') : HeldC b' (BC b o u) := fun A j v x => ⟨(World.cell?_setCell_far _ _ _ _ (fun e => h e.symm)).trans x.1,by simpa [World.setCell] using x.2⟩
abbrev BS1 (b : Nat) (u0 : Value) (w : World) : Prop := w.cell? ⟨b,0,none⟩ = some u0 ∧ b < w.heap.size
theorem BS1.hk {b : Nat} {u0 : Value} : HeldK (BS1 b u0) := fun A B ⟨h0,hl⟩ hb => ⟨((bcell hb).1 _ _ hl).trans h0,Nat.lt_of_lt_of_le hl hb.size⟩
theorem BS1.hc {b b' : Nat} {u0 : Value} (h : b ≠ b') : HeldC b' (BS1 b u0) := fun A j v ⟨h0,hl⟩ => ⟨(World.cell?_setCell_far _ _ _ _ (fun e => h e.symm)).trans h0,by simpa [World.setCell] using hl⟩
abbrev BS2 (b : Nat) (u0 u1 : Value) (w : World) : Prop := w.cell? ⟨b,0,none⟩ = some u0 ∧ w.cell? ⟨b,1,none⟩ = some u1 ∧ b < w.heap.size
theorem Bx.bs2 {w : World} {b : Nat} {u0 u1 : Value} (h : Bx w b [u0,u1]) : BS2 b u0 u1 w := ⟨(h.2 0 u0 rfl).1,(h.2 1 u1 rfl).1,h.1⟩
theorem BS2.hk {b : Nat} {u0 u1 : Value} : HeldK (BS2 b u0 u1) := fun A B ⟨h0,h1,hl⟩ hb => ⟨((bcell hb).1 _ _ hl).trans h0,((bcell hb).1 _ _ hl).trans h1,Nat.lt_of_lt_of_le hl hb.size⟩
theorem BS2.hc {b b' : Nat} {u0 u1 : Value} (h : b ≠ b') : HeldC b' (BS2 b u0 u1) := fun A j v ⟨h0,h1,hl⟩ => ⟨(World.cell?_setCell_far _ _ _ _ (fun e => h e.symm)).trans h0,(World.cell?_setCell_far _ _ _ _ (fun e => h e.symm)).trans h1,by simpa [World.setCell] using hl⟩
abbrev BS4 (b : Nat) (u0 u1 u2 u3 : Value) (w : World) : Prop := w.cell? ⟨b,0,none⟩ = some u0 ∧ w.cell? ⟨b,1,none⟩ = some u1 ∧ w.cell? ⟨b,2,none⟩ = some u2 ∧ w.cell? ⟨b,3,none⟩ = some u3 ∧ b < w.heap.size
theorem Bx.bs4 {w : World} {b : Nat} {u0 u1 u2 u3 : Value} (h : Bx w b [u0,u1,u2,u3]) : BS4 b u0 u1 u2 u3 w := ⟨(h.2 0 u0 rfl).1,(h.2 1 u1 rfl).1,(h.2 2 u2 rfl).1,(h.2 3 u3 rfl).1,h.1⟩
theorem BS4.hk {b : Nat} {u0 u1 u2 u3 : Value} : HeldK (BS4 b u0 u1 u2 u3) := fun A B ⟨h0,h1,h2,h3,hl⟩ hb => ⟨((bcell hb).1 _ _ hl).trans h0,((bcell hb).1 _ _ hl).trans h1,((bcell hb).1 _ _ hl).trans h2,((bcell hb).1 _ _ hl).trans h3,Nat.lt_of_lt_of_le hl hb.size⟩
theorem BS4.hc {b b' : Nat} {u0 u1 u2 u3 : Value} (h : b ≠ b') : HeldC b' (BS4 b u0 u1 u2 u3) := fun A j v ⟨h0,h1,h2,h3,hl⟩ => ⟨(World.cell?_setCell_far _ _ _ _ (fun e => h e.symm)).trans h0,(World.cell?_setCell_far _ _ _ _ (fun e => h e.symm)).trans h1,(World.cell?_setCell_far _ _ _ _ (fun e => h e.symm)).trans h2,(World.cell?_setCell_far _ _ _ _ (fun e => h e.symm)).trans h3,by simpa [World.setCell] using hl⟩
abbrev BS8 (b : Nat) (u0 u1 u2 u3 u4 u5 u6 u7 : Value) (w : World) : Prop := w.cell? ⟨b,0,none⟩ = some u0 ∧ w.cell? ⟨b,1,none⟩ = some u1 ∧ w.cell? ⟨b,2,none⟩ = some u2 ∧ w.cell? ⟨b,3,none⟩ = some u3 ∧ w.cell? ⟨b,4,none⟩ = some u4 ∧ w.cell? ⟨b,5,none⟩ = some u5 ∧ w.cell? ⟨b,6,none⟩ = some u6 ∧ w.cell? ⟨b,7,none⟩ = some u7 ∧ b < w.heap.size
theorem BS8.hk {b : Nat} {u0 u1 u2 u3 u4 u5 u6 u7 : Value} : HeldK (BS8 b u0 u1 u2 u3 u4 u5 u6 u7) := fun A B ⟨h0,h1,h2,h3,h4,h5,h6,h7,hl⟩ hb => ⟨((bcell hb).1 _ _ hl).trans h0,((bcell hb).1 _ _ hl).trans h1,((bcell hb).1 _ _ hl).trans h2,((bcell hb).1 _ _ hl).trans h3,((bcell hb).1 _ _ hl).trans h4,((bcell hb).1 _ _ hl).trans h5,((bcell hb).1 _ _ hl).trans h6,((bcell hb).1 _ _ hl).trans h7,Nat.lt_of_lt_of_le hl hb.size⟩
theorem BS8.hc {b b' : Nat} {u0 u1 u2 u3 u4 u5 u6 u7 : Value} (h : b ≠ b') : HeldC b' (BS8 b u0 u1 u2 u3 u4 u5 u6 u7) := fun A j v ⟨h0,h1,h2,h3,h4,h5,h6,h7,hl⟩ => ⟨(World.cell?_setCell_far _ _ _ _ (fun e => h e.symm)).trans h0,(World.cell?_setCell_far _ _ _ _ (fun e => h e.symm)).trans h1,(World.cell?_setCell_far _ _ _ _ (fun e => h e.symm)).trans h2,(World.cell?_setCell_far _ _ _ _ (fun e => h e.symm)).trans h3,(World.cell?_setCell_far _ _ _ _ (fun e => h e.symm)).trans h4,(World.cell?_setCell_far _ _ _ _ (fun e => h e.symm)).trans h5,(World.cell?_setCell_far _ _ _ _ (fun e => h e.symm)).trans h6,(World.cell?_setCell_far _ _ _ _ (fun e => h e.symm)).trans h7,by simpa [World.setCell] using hl⟩
end Go.Proofs.YtidfgdchcpmnfaaGreat
