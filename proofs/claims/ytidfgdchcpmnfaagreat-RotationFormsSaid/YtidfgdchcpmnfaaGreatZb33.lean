/-
  Lemmas for the statements about rotations, part 33 of 51.
-/
import Derived.Test.YtidfgdchcpmnfaaGreatZb11
import Derived.Test.YtidfgdchcpmnfaaGreatZb15
import Derived.Test.YtidfgdchcpmnfaaGreatZb31
import Derived.Test.YtidfgdchcpmnfaaGreatZb32
import Derived.Test.YtidfgdchcpmnfaaGreatZb51
namespace Go.Proofs.YtidfgdchcpmnfaaGreat
open Go.RowKit
set_option linter.unusedSimpArgs false
set_option linter.unusedVariables false
set_option maxRecDepth 20000
theorem gseq_mul (t : Int) (xs : Nat → Int) : ∀ k,gseq (fun j => t * xs j) k = (t.natAbs : Int) * gseq xs k
  | 0 => by show (0 : Int) = _ * 0;simp
  | k + 1 => by
    show ((Int.gcd (gseq (fun j => t * xs j) k) (t * xs k) : Nat) : Int) = _ * ((Int.gcd (gseq xs k) (xs k) : Nat) : Int)
    rw [gseq_mul t xs k]
    have h1 : ((t.natAbs : Nat) : Int) * gseq xs k = t * (if 0 ≤ t then gseq xs k else -gseq xs k) := by
      split
      · rw [Int.natAbs_of_nonneg (by assumption)]
      · have : ((t.natAbs : Nat) : Int) = -t := by omega
        rw [this];grind
    rw [h1,Int.gcd_mul_left]
    have h2 : Int.gcd (if 0 ≤ t then gseq xs k else -gseq xs k) (xs k) = Int.gcd (gseq xs k) (xs k) := by
      split
      · rfl
      · exact Int.neg_gcd
    rw [h2];simp
theorem fseq_mul {t : Int} (ht : t ≠ 0) (xs : Nat → Int) : ∀ k,fseq (fun j => t * xs j) k = t * fseq xs k
  | 0 => by show (0 : Int) = _ * 0;simp
  | k + 1 => by
    show (if fseq (fun j => t * xs j) k = 0 then t * xs k else fseq (fun j => t * xs j) k) = t * (if fseq xs k = 0 then xs k else fseq xs k)
    rw [fseq_mul ht xs k]
    by_cases h : fseq xs k = 0
    · rw [if_pos h,if_pos (by rw [h];simp)]
    · rw [if_neg h,if_neg (fun e => (Int.mul_eq_zero.1 e).elim ht h)]
theorem gseq_zero {xs : Nat → Int} : ∀ k,fseq xs k = 0 → gseq xs k = 0
  | 0,_ => rfl
  | k + 1,h => by
    have h' : (if fseq xs k = 0 then xs k else fseq xs k) = 0 := h
    by_cases e : fseq xs k = 0
    · rw [if_pos e] at h'
      show ((Int.gcd (gseq xs k) (xs k) : Nat) : Int) = 0
      rw [gseq_zero k e,h'];rfl
    · rw [if_neg e] at h';exact absurd h' e
theorem primG_mul {t : Int} (ht : t ≠ 0) (xs : Nat → Int) : primG (fun j => t * xs j) = t * primG xs := by
  unfold primG
  rw [fseq_mul ht,gseq_mul]
  rcases Int.lt_trichotomy (fseq xs 4) 0 with hf | hf | hf
  · rcases Int.lt_or_gt_of_ne ht with h | h
    · have h1 : 0 < t * fseq xs 4 := Int.mul_pos_of_neg_of_neg h hf
      rw [if_neg (by omega),if_pos hf,show ((t.natAbs : Nat) : Int) = -t by omega];grind
    · have h1 : t * fseq xs 4 < 0 := Int.mul_neg_of_pos_of_neg h hf
      rw [if_pos h1,if_pos hf,show ((t.natAbs : Nat) : Int) = t by omega];grind
  · rw [hf,gseq_zero 4 hf];simp
  · rcases Int.lt_or_gt_of_ne ht with h | h
    · have h1 : t * fseq xs 4 < 0 := Int.mul_neg_of_neg_of_pos h hf
      rw [if_pos h1,if_neg (by omega),show ((t.natAbs : Nat) : Int) = -t by omega];grind
    · have h1 : 0 < t * fseq xs 4 := Int.mul_pos h hf
      rw [if_neg (by omega),if_neg (by omega),show ((t.natAbs : Nat) : Int) = t by omega]
theorem primN_mul {t : Int} (ht : t ≠ 0) (xs : Nat → Int) {j : Nat} (hj : j < 4) : primN (fun j => t * xs j) j = primN xs j := by
  show (t * xs j).fdiv (primG (fun j => t * xs j)) = (xs j).fdiv (primG xs)
  rw [primG_mul ht]
  obtain ⟨y,hy⟩ := primG_dvd (xs := xs) hj
  by_cases hG : primG xs = 0
  · rw [hy,hG];simp
  · rw [hy,Int.mul_fdiv_cancel_left _ hG,← Int.mul_assoc,Int.mul_fdiv_cancel_left _ (fun e => (Int.mul_eq_zero.1 e).elim ht hG)]
theorem primV_congr {xs ys : Nat → Int} (h : ∀ j,j < 4 → primN xs j = primN ys j) : primV xs = primV ys := by
  have h1 : primOk xs ↔ primOk ys := ⟨fun k j hj => by rw [← h j hj];exact k j hj,fun k j hj => by rw [h j hj];exact k j hj⟩
  unfold primV
  by_cases hp : primOk xs
  · rw [if_pos hp,if_pos (h1.1 hp),h 0 (by omega),h 1 (by omega),h 2 (by omega),h 3 (by omega)]
  · rw [if_neg hp,if_neg (fun e => hp (h1.2 e))]
theorem fseq_ext {xs ys : Nat → Int} : ∀ k,(∀ j,j < k → xs j = ys j) → fseq xs k = fseq ys k
  | 0,_ => rfl
  | k + 1,h => by
    show (if fseq xs k = 0 then xs k else fseq xs k) = (if fseq ys k = 0 then ys k else fseq ys k)
    rw [fseq_ext k (fun j hj => h j (by omega)),h k (by omega)]
theorem gseq_ext {xs ys : Nat → Int} : ∀ k,(∀ j,j < k → xs j = ys j) → gseq xs k = gseq ys k
  | 0,_ => rfl
  | k + 1,h => by
    show ((Int.gcd (gseq xs k) (xs k) : Nat) : Int) = ((Int.gcd (gseq ys k) (ys k) : Nat) : Int)
    rw [gseq_ext k (fun j hj => h j (by omega)),h k (by omega)]
theorem primN_ext {xs ys : Nat → Int} (h : ∀ j,j < 4 → xs j = ys j) {j : Nat} (hj : j < 4) : primN xs j = primN ys j := by
  unfold primN primG
  rw [fseq_ext 4 h,gseq_ext 4 h,h j hj]
theorem primN_scale {xs ys : Nat → Int} {s t : Int} (hs : s ≠ 0) (ht : t ≠ 0) (h : ∀ j,j < 4 → s * xs j = t * ys j) {j : Nat} (hj : j < 4) : primN xs j = primN ys j := by
  rw [← primN_mul hs xs hj,← primN_mul ht ys hj]
  exact primN_ext h hj
theorem primV_scale {xs ys : Nat → Int} {s t : Int} (hs : s ≠ 0) (ht : t ≠ 0) (h : ∀ j,j < 4 → s * xs j = t * ys j) : primV xs = primV ys :=
  primV_congr (fun j hj => primN_scale hs ht h hj)
theorem rat_frac (q : Rat) : q = ((q.num : Int) : Rat) / ((q.den : Int) : Rat) := by
  rw [← Rat.divInt_eq_div];exact (Rat.num_divInt_den q).symm
theorem clearXs_rat (q : Nat → Rat) {j : Nat} (hj : j < 4) : ((clearXs q j : Int) : Rat) = ((clearD q : Int) : Rat) * q j := by
  unfold clearXs
  obtain ⟨y,hy⟩ := clearD_dvd q hj
  have hd : ((q j).den : Int) ≠ 0 := by have := (q j).den_nz;omega
  rw [hy,Int.mul_fdiv_cancel_left _ hd]
  have h1 := rat_frac (q j)
  have hd' : (((q j).den : Int) : Rat) ≠ 0 := fun e => hd (Rat.intCast_inj.1 (by simpa using e))
  rw [Rat.intCast_mul,Rat.intCast_mul]
  have key : ∀ n m z x : Rat,m ≠ 0 → x = n / m → n * z = m * z * x := fun n m z x hm hx => by subst hx;grind
  exact key _ _ _ _ hd' h1
theorem primV_clear {q : Nat → Rat} {xs : Nat → Int} {t : Rat} (ht : t ≠ 0) (h : ∀ j,j < 4 → q j = t * ((xs j : Int) : Rat)) : primV (clearXs q) = primV xs := by
  have hd : ((t.den : Int) : Rat) ≠ 0 := fun e => by
    have : (t.den : Int) = 0 := Rat.intCast_inj.1 (by simpa using e)
    have := t.den_nz;omega
  refine primV_scale (s := (t.den : Int)) (t := clearD q * t.num) (by have := t.den_nz;omega) (fun e => ?_) (fun j hj => ?_)
  · rcases Int.mul_eq_zero.1 e with e | e
    · exact clearD_ne q e
    · exact ht (Rat.num_eq_zero.1 e)
  · have h1 := clearXs_rat q hj
    rw [h j hj] at h1
    have h2 := rat_frac t
    have h3 : (((t.den : Int) * clearXs q j : Int) : Rat) = ((clearD q * t.num * xs j : Int) : Rat) := by
      rw [Rat.intCast_mul,Rat.intCast_mul,Rat.intCast_mul,h1]
      have key : ∀ D x n d t : Rat,d ≠ 0 → t = n / d → d * (D * (t * x)) = D * n * x := fun D x n d t hd ht => by subst ht;grind
      exact key _ _ _ _ _ hd h2
    exact Rat.intCast_inj.1 h3
theorem normI_rat {a b c d : Int} (h : normI a b c d ≠ 0) : ((normI a b c d : Int) : Rat) ≠ 0 := fun e => h (Rat.intCast_inj.1 (by simpa using e))
theorem rotQ_eq (a b c d : Int) (i j : Nat) : rotQ a b c d i j = ((rotM a b c d i j : Int) : Rat) / ((normI a b c d : Int) : Rat) := Rat.divInt_eq_div ..
theorem rotQ_turn {a b c d : Int} (h : normI a b c d ≠ 0) : turnB (rotQ a b c d) = true := by
  have hn := normI_rat h
  have hN : ((normI a b c d : Int) : Rat) = (a : Rat) * a + (b : Rat) * b + (c : Rat) * c + (d : Rat) * d := by unfold normI;simp only [Rat.intCast_add,Rat.intCast_mul]
  unfold turnB
  rw [Bool.and_eq_true]
  refine ⟨allB_iff.2 (fun i hi => allB_iff.2 (fun j hj => ?_)),?_⟩
  · unfold turnOk
    rw [decide_eq_true_eq]
    simp only [dotQ,rotQ_eq]
    generalize ((normI a b c d : Int) : Rat) = n at *
    obtain rfl | rfl | rfl : i = 0 ∨ i = 1 ∨ i = 2 := by omega
    all_goals
      obtain rfl | rfl | rfl : j = 0 ∨ j = 1 ∨ j = 2 := by omega
      all_goals
        simp only [rotM,idE,Rat.intCast_add,Rat.intCast_mul,Rat.intCast_sub]
        generalize (a : Rat) = a at *
        generalize (b : Rat) = b at *
        generalize (c : Rat) = c at *
        generalize (d : Rat) = d at *
        subst hN
        simp
        grind
  · rw [decide_eq_true_eq,det3]
    simp only [rotQ_eq]
    generalize ((normI a b c d : Int) : Rat) = n at *
    simp only [rotM,Rat.intCast_add,Rat.intCast_mul,Rat.intCast_sub]
    generalize (a : Rat) = a at *
    generalize (b : Rat) = b at *
    generalize (c : Rat) = c at *
    generalize (d : Rat) = d at *
    subst hN
    grind
theorem omRow_rot {a b c d : Int} (h : normI a b c d ≠ 0) {k j : Nat} (hk : k < 4) (hj : j < 4) : omRow (rotQ a b c d) k j = 4 * ((xs4 a b c d k : Int) : Rat) / ((normI a b c d : Int) : Rat) * ((xs4 a b c d j : Int) : Rat) := by
  have hn := normI_rat h
  have hN : ((normI a b c d : Int) : Rat) = (a : Rat) * a + (b : Rat) * b + (c : Rat) * c + (d : Rat) * d := by unfold normI;simp only [Rat.intCast_add,Rat.intCast_mul]
  obtain rfl | rfl | rfl | rfl : k = 0 ∨ k = 1 ∨ k = 2 ∨ k = 3 := by omega
  all_goals
    obtain rfl | rfl | rfl | rfl : j = 0 ∨ j = 1 ∨ j = 2 ∨ j = 3 := by omega
    all_goals
      simp only [omRow,omSum,xs4,rotQ_eq,rotM]
      generalize ((normI a b c d : Int) : Rat) = n at *
      simp only [Rat.intCast_add,Rat.intCast_mul,Rat.intCast_sub,Rat.intCast_neg,Rat.intCast_ofNat]
      generalize (a : Rat) = a at *
      generalize (b : Rat) = b at *
      generalize (c : Rat) = c at *
      generalize (d : Rat) = d at *
      subst hN
      grind
theorem omRes_rot {a b c d : Int} (hne : ¬ (a = 0 ∧ b = 0 ∧ c = 0 ∧ d = 0)) : omRes (rotQ a b c d) = primV (xs4 a b c d) := by
  have hN : normI a b c d ≠ 0 := by have := normI_pos hne;omega
  have hn := normI_rat hN
  have hz : ∀ k,k < 4 → xs4 a b c d k = 0 → nzB (omRow (rotQ a b c d) k) = false := fun k hk h => by
    unfold nzB
    have : allB 4 (fun i => decide (omRow (rotQ a b c d) k i = 0)) = true := allB_iff.2 (fun i hi => by
      rw [decide_eq_true_eq,omRow_rot hN hk hi,h]
      simp
      grind)
    rw [this];rfl
  have hy : ∀ k,k < 4 → xs4 a b c d k ≠ 0 → nzB (omRow (rotQ a b c d) k) = true ∧ primV (clearXs (omRow (rotQ a b c d) k)) = primV (xs4 a b c d) := fun k hk h => by
    have hx : ((xs4 a b c d k : Int) : Rat) ≠ 0 := fun e => h (Rat.intCast_inj.1 (by simpa using e))
    have ht : 4 * ((xs4 a b c d k : Int) : Rat) / ((normI a b c d : Int) : Rat) ≠ 0 := by
      generalize ((xs4 a b c d k : Int) : Rat) = x at *
      generalize ((normI a b c d : Int) : Rat) = n at *
      intro e
      have : 4 * x = 0 := by grind
      grind
    refine ⟨?_,primV_clear ht (fun j hj => omRow_rot hN hk hj)⟩
    unfold nzB
    rw [allB_no hk]
    · rfl
    · rw [decide_eq_false_iff_not,omRow_rot hN hk hk]
      generalize ((xs4 a b c d k : Int) : Rat) = x at *
      generalize 4 * x / ((normI a b c d : Int) : Rat) = t at *
      intro e
      grind
  unfold omRes
  by_cases h0 : xs4 a b c d 0 = 0
  · rw [if_neg (by rw [hz 0 (by omega) h0];simp)]
    by_cases h1 : xs4 a b c d 1 = 0
    · rw [if_neg (by rw [hz 1 (by omega) h1];simp)]
      by_cases h2 : xs4 a b c d 2 = 0
      · rw [if_neg (by rw [hz 2 (by omega) h2];simp)]
        have h3 : xs4 a b c d 3 ≠ 0 := fun h3 => hne ⟨h0,h1,h2,h3⟩
        rw [if_pos (hy 3 (by omega) h3).1,(hy 3 (by omega) h3).2]
      · rw [if_pos (hy 2 (by omega) h2).1,(hy 2 (by omega) h2).2]
    · rw [if_pos (hy 1 (by omega) h1).1,(hy 1 (by omega) h1).2]
  · rw [if_pos (hy 0 (by omega) h0).1,(hy 0 (by omega) h0).2]
end Go.Proofs.YtidfgdchcpmnfaaGreat
namespace Go.Proofs.YtidfgdchcpmnfaaGreat
open Go.RowKit
set_option maxRecDepth 100000
set_option maxHeartbeats 16000000
set_option linter.unusedSimpArgs false
set_option linter.unusedVariables false
def qdot (a b c d e f g h : Int) : Int := a * e + b * f + c * g + d * h
theorem qdot_bound {a b c d e f g h : Int} (oa : okc a) (ob : okc b) (oc : okc c) (od : okc d) (oe : okc e) (of : okc f) (og : okc g) (oh : okc h) : -8796093022208 ≤ qdot a b c d e f g h ∧ qdot a b c d e f g h ≤ 8796093022208 := by
  obtain ⟨p0,p1⟩ := okc_mul oa oe
  obtain ⟨p2,p3⟩ := okc_mul ob of
  obtain ⟨p4,p5⟩ := okc_mul oc og
  obtain ⟨p6,p7⟩ := okc_mul od oh
  unfold qdot;omega
def chordQ (a b c d e f g h : Int) : Rat := ((1 : Int) : Rat) - Rat.divInt (qdot a b c d e f g h * qdot a b c d e f g h) (normI a b c d * normI e f g h)
theorem isz_13 {x : Int} (h0 : -8796093022208 ≤ x) (h1 : x ≤ 8796093022208) : isz x ≤ 2 :=
  isz_le (by rw [BB_eq];omega)
theorem chord_ok (a b c d e f g h : Int) (w : World) (hq : qcode2 a b c d e f g h = 0) :
    Calls Tryz.prog 19 #[.agg #[.int .i64 a,.int .i64 b,.int .i64 c,.int .i64 d],.agg #[.int .i64 e,.int .i64 f,.int .i64 g,.int .i64 h]] w (GQC (chordQ a b c d e f g h) 0 w) := by
  have hq1 : qcode a b c d = 0 := by
    unfold qcode2 at hq
    by_cases h1 : qcode a b c d = 0
    · exact h1
    · rw [if_neg h1] at hq;exact absurd hq h1
  have hq2 : qcode e f g h = 0 := by unfold qcode2 at hq;rwa [if_pos hq1] at hq
  obtain ⟨n1,oa,ob,oc,od⟩ := qcode_ok hq1
  obtain ⟨n2,oe,of,og,oh⟩ := qcode_ok hq2
  obtain ⟨mae0,mae1⟩ := okc_mul oa oe
  obtain ⟨mbf0,mbf1⟩ := okc_mul ob of
  obtain ⟨mcg0,mcg1⟩ := okc_mul oc og
  obtain ⟨mdh0,mdh1⟩ := okc_mul od oh
  have HO := Lib.hid (And.intro oa (And.intro ob (And.intro oc od)))
  have HP := Lib.hid (And.intro oe (And.intro of (And.intro og oh)))
  have HNN : Hid (normI a b c d * normI e f g h ≠ 0) := Lib.hid (by have := Int.mul_pos (normI_pos n1) (normI_pos n2);omega)
  obtain ⟨hk10,hk11⟩ := normI_bound oa ob oc od
  obtain ⟨hk20,hk21⟩ := normI_bound oe of og oh
  have hu1 := isz_13 hk10 hk11
  have hu2 := isz_13 hk20 hk21
  have hu3 := isz_13 (qdot_bound oa ob oc od oe of og oh).1 (qdot_bound oa ob oc od oe of og oh).2
  have hu4 := isz_mul (normI a b c d) (normI e f g h)
  have hu5 := isz_mul (qdot a b c d e f g h) (qdot a b c d e f g h)
  have hu6 := rsz_divInt (qdot a b c d e f g h * qdot a b c d e f g h) (normI a b c d * normI e f g h) HNN.out (k := 4) (by omega) (by omega)
  have hu7 : rsz ((1 : Int) : Rat) ≤ 1 := by decide +kernel
  have hu8 : rsz 1 ≤ 1 := by decide +kernel
  have HV : Hid (chordQ a b c d e f g h = ((1 : Int) : Rat) - Rat.divInt ((a * e + b * f + c * g + d * h) * (a * e + b * f + c * g + d * h)) (normI a b c d * normI e f g h)) := Lib.hid rfl
  unfold qdot at hu3 hu5 hu6
  have hqt : (qcode2 a b c d e f g h == 0) = true := by simp [hq]
  have hqt2 : (qcode2 a b c d e f g h != 0) = false := by simp [hq]
  clear hq hq1 hq2 n1 n2 oa ob oc od oe of og oh
  have hB0 : Below w.heap.size w ((((w.alloc (.cells #[.int .i64 a,.int .i64 b,.int .i64 c,.int .i64 d] 33)).alloc (.cells #[.int .i64 e,.int .i64 f,.int .i64 g,.int .i64 h] 33)).alloc (.cells #[.bool false,.slice none 0 0,.bool false,.slice none 0 0] 30)).alloc (.cells #[.int .i64 a,.int .i64 b,.int .i64 c,.int .i64 d,.int .i64 e,.int .i64 f,.int .i64 g,.int .i64 h] 33)) := Below.al (Below.al (Below.al ((Below.refl _ _).alloc (Nat.le_refl _) _) _) _) _
  have xa : Bx ((((w.alloc (.cells #[.int .i64 a,.int .i64 b,.int .i64 c,.int .i64 d] 33)).alloc (.cells #[.int .i64 e,.int .i64 f,.int .i64 g,.int .i64 h] 33)).alloc (.cells #[.bool false,.slice none 0 0,.bool false,.slice none 0 0] 30)).alloc (.cells #[.int .i64 a,.int .i64 b,.int .i64 c,.int .i64 d,.int .i64 e,.int .i64 f,.int .i64 g,.int .i64 h] 33)) w.heap.size [.int .i64 a,.int .i64 b,.int .i64 c,.int .i64 d] := by have := (((Bx.new w [.int .i64 a,.int .i64 b,.int .i64 c,.int .i64 d] 33).alloc (.cells #[.int .i64 e,.int .i64 f,.int .i64 g,.int .i64 h] 33)).alloc (.cells #[.bool false,.slice none 0 0,.bool false,.slice none 0 0] 30)).alloc (.cells #[.int .i64 a,.int .i64 b,.int .i64 c,.int .i64 d,.int .i64 e,.int .i64 f,.int .i64 g,.int .i64 h] 33);simpa using this
  have xb : Bx ((((w.alloc (.cells #[.int .i64 a,.int .i64 b,.int .i64 c,.int .i64 d] 33)).alloc (.cells #[.int .i64 e,.int .i64 f,.int .i64 g,.int .i64 h] 33)).alloc (.cells #[.bool false,.slice none 0 0,.bool false,.slice none 0 0] 30)).alloc (.cells #[.int .i64 a,.int .i64 b,.int .i64 c,.int .i64 d,.int .i64 e,.int .i64 f,.int .i64 g,.int .i64 h] 33)) (w.heap.size + 1) [.int .i64 e,.int .i64 f,.int .i64 g,.int .i64 h] := by have := ((Bx.new (w.alloc (.cells #[.int .i64 a,.int .i64 b,.int .i64 c,.int .i64 d] 33)) [.int .i64 e,.int .i64 f,.int .i64 g,.int .i64 h] 33).alloc (.cells #[.bool false,.slice none 0 0,.bool false,.slice none 0 0] 30)).alloc (.cells #[.int .i64 a,.int .i64 b,.int .i64 c,.int .i64 d,.int .i64 e,.int .i64 f,.int .i64 g,.int .i64 h] 33);simpa using this
  have xr : Bx ((((w.alloc (.cells #[.int .i64 a,.int .i64 b,.int .i64 c,.int .i64 d] 33)).alloc (.cells #[.int .i64 e,.int .i64 f,.int .i64 g,.int .i64 h] 33)).alloc (.cells #[.bool false,.slice none 0 0,.bool false,.slice none 0 0] 30)).alloc (.cells #[.int .i64 a,.int .i64 b,.int .i64 c,.int .i64 d,.int .i64 e,.int .i64 f,.int .i64 g,.int .i64 h] 33)) (w.heap.size + 1 + 1) [.bool false,.slice none 0 0,.bool false,.slice none 0 0] := by have := (Bx.new ((w.alloc (.cells #[.int .i64 a,.int .i64 b,.int .i64 c,.int .i64 d] 33)).alloc (.cells #[.int .i64 e,.int .i64 f,.int .i64 g,.int .i64 h] 33)) [.bool false,.slice none 0 0,.bool false,.slice none 0 0] 30).alloc (.cells #[.int .i64 a,.int .i64 b,.int .i64 c,.int .i64 d,.int .i64 e,.int .i64 f,.int .i64 g,.int .i64 h] 33);simpa using this
  have xl : Bx ((((w.alloc (.cells #[.int .i64 a,.int .i64 b,.int .i64 c,.int .i64 d] 33)).alloc (.cells #[.int .i64 e,.int .i64 f,.int .i64 g,.int .i64 h] 33)).alloc (.cells #[.bool false,.slice none 0 0,.bool false,.slice none 0 0] 30)).alloc (.cells #[.int .i64 a,.int .i64 b,.int .i64 c,.int .i64 d,.int .i64 e,.int .i64 f,.int .i64 g,.int .i64 h] 33)) (w.heap.size + 1 + 1 + 1) [.int .i64 a,.int .i64 b,.int .i64 c,.int .i64 d,.int .i64 e,.int .i64 f,.int .i64 g,.int .i64 h] := by have := Bx.new (((w.alloc (.cells #[.int .i64 a,.int .i64 b,.int .i64 c,.int .i64 d] 33)).alloc (.cells #[.int .i64 e,.int .i64 f,.int .i64 g,.int .i64 h] 33)).alloc (.cells #[.bool false,.slice none 0 0,.bool false,.slice none 0 0] 30)) [.int .i64 a,.int .i64 b,.int .i64 c,.int .i64 d,.int .i64 e,.int .i64 f,.int .i64 g,.int .i64 h] 33;simpa using this
  go_enter Tryz.func19,Tryz.ntmps19
  go_wp2_with fail
  refine (checked_any a b c d e f g h _ _ xl).mono ?_
  rintro x wk ⟨rfl,hb1⟩
  have ya := xa.to hb1
  have yb := xb.to hb1
  have yr := xr.to hb1
  have hBc := Below.tr hB0 hb1
  have hzc := hBc.size
  have hlr := yr.1
  clear xa xb xr xl hB0 hb1
  have hmix : Tryz.prog.follows .mixedOrders = true := by kernel_rfl
  obtain ⟨l1,m1,o1,p1⟩ := ya.cs4
  obtain ⟨q1,r1,s1,t1⟩ := yb.cs4
  go_wp2_with fail
  (with_reducible refine (of_any _ _ (by omega) (by omega)).mono ?_)
  rintro e w21 ⟨v21,rfl,hi21,hb21⟩
  obtain ⟨g21,p21,n21,c21,rfl⟩ := hi21.form
  have qa_1 := (ya.to hb21)
  have r0 := (qa_1).1
  have qb_1 := (yb.to hb21)
  have s0 := (qb_1).1
  have qr_1 := (yr.to hb21)
  have t0 := (qr_1).1
  go_wp2_with fail
  obtain ⟨R5_1,a0⟩ : ∃ R : World,((w21.alloc (.cells #[.bool g21,.slice p21 n21 c21] 28))) = R := ⟨_,rfl⟩
  obtain ⟨hA1,j1⟩ := bx1 w21 rfl [.bool g21,.slice p21 n21 c21] 28
  have c0 := a0 ▸ j1
  have e0 := a0 ▸ (qa_1.to hA1)
  have f0 := a0 ▸ (qb_1.to hA1)
  have b0 := a0 ▸ (hi21.below hA1)
  refine region_list 17 rfl hmix R5_1 [some 43,some 44,some 45,some 46,some 47,some 48,some 49,some 50,some 51,some 52,some 53,some 42,some 54,some 55,some 8,none,some 9] [.rint ((a * e + b * f + c * g + d * h)),.rint ((a * e + b * f + c * g + d * h)),.rint (((a * e + b * f + c * g + d * h)) * ((a * e + b * f + c * g + d * h))),.eq (.agg #[.int .i64 a,.int .i64 b,.int .i64 c,.int .i64 d]),.eq (.int .i64 (normI a b c d)),.rint ((normI a b c d)),.eq (.agg #[.int .i64 e,.int .i64 f,.int .i64 g,.int .i64 h]),.eq (.int .i64 (normI e f g h)),.rint ((normI e f g h)),.rint (((normI a b c d)) * ((normI e f g h))),.qc (Rat.divInt (((a * e + b * f + c * g + d * h)) * ((a * e + b * f + c * g + d * h))) (((normI a b c d)) * ((normI e f g h)))) (0),.qc (Rat.divInt (((a * e + b * f + c * g + d * h)) * ((a * e + b * f + c * g + d * h))) (((normI a b c d)) * ((normI e f g h)))) (0),.rq (Rat.divInt (((a * e + b * f + c * g + d * h)) * ((a * e + b * f + c * g + d * h))) (((normI a b c d)) * ((normI e f g h)))),.eq (.int .i64 (0)),.box4,.boxQ (Rat.divInt (((a * e + b * f + c * g + d * h)) * ((a * e + b * f + c * g + d * h))) (((normI a b c d)) * ((normI e f g h)))),.eq (.int .i64 (0))] [0,1,2,3,4,5,6,7,8,9,10,11,12,13,14,14,16] (fun A => A.tmps[7]?.getD undef = .pointer (some ⟨w21.heap.size,0,none⟩) ∧ A.tmps[2]?.getD undef = .pointer (some ⟨w.heap.size,0,none⟩) ∧ A.tmps[3]?.getD undef = .pointer (some ⟨w.heap.size + 1,0,none⟩)) (by kernel_rfl) rfl ⟨rfl,rfl⟩ rfl rfl (by rw [← a0];exact (Below.refl _ _).drew) (fun A hA => ⟨(hA 7 (by decide)).trans rfl,(hA 2 (by decide)).trans rfl,(hA 3 (by decide)).trans rfl⟩) ?hend ?hstep
  case hend =>
    intro t wx22 hb22 hf
    obtain ⟨u0,x0,c1,a1,v0,y0,b1,z0,w0,o0,d0,i1,g1⟩ := hf 15 rfl rfl
    have p0 : t 16 = _ := hf 16 rfl rfl
    clear hf
    simp only [putAll,List.getD_cons_zero,List.getD_cons_succ,o0,p0]
    clear o0 p0
    rw [← a0] at hb22 d0
    have hz22 := hb22.size
    (try simp only [World.size_alloc,World.size_setCell,World.size_drew] at hz22 d0)
    clear b0 f0 e0 c0 a0 R5_1
    go_wp2_with fail
    have S0_6 := (i1.drew).bs4
    have d1 : HeldC (w.heap.size + 1 + 1) (BS4 u0 (.bool x0) (.slice c1 a1 v0) (.bool y0) (.slice b1 z0 w0)) := (BS4.hc (by omega))
    have tk1 : True := trivial
    have tk2 : True := trivial
    go_region_held3 (BS4 u0 (.bool x0) (.slice c1 a1 v0) (.bool y0) (.slice b1 z0 w0)) (first | with_reducible exact S0_6 | with_reducible exact HeldK.go BS4.hk (by assumption) (by assumption) | with_reducible exact HeldC.go4 d1 (by assumption) | (simp;done))
      (first
        | (((have := tk1);clear tk1;go_at_call 51;(with_reducible refine (wholeQ_any _ _ (by omega) (by omega)).mono ?_);rintro e w23 ⟨v23,rfl,hi23,hb23⟩;obtain ⟨g23,p23,n23,c23,h23,o23,m23,e23,rfl⟩ := hi23.form))
        | (((have := tk2);clear tk2;have e1 := hi23;have q0 := (g1.drew.below hb23);have f1 := q0;go_at_call 56;(with_reducible refine (subQ_any _ _ ((1 : Rat)) (Rat.divInt (((a * e + b * f + c * g + d * h)) * ((a * e + b * f + c * g + d * h))) (((normI a b c d)) * ((normI e f g h)))) _ e1 f1 (by omega) (by omega)).mono ?_);rintro e w24 ⟨v24,rfl,hi24,hb24⟩;obtain ⟨g24,p24,n24,c24,h24,o24,m24,e24,rfl⟩ := hi24.form;have qr_4 := ((((qr_1.to hA1).to hb22).drew.to hb23).to hb24);obtain ⟨g0,k0,h0,l0,i0,m0,j0,n0⟩ := qr_4.cf4)))
    have k1 := (Below.tr (Below.tr (Below.tr (Below.tr (Below.tr hBc hb21) hA1) hb22).drew hb23) hb24)
    go_wp2_with fail
    exact bodyPost_ret (v := .tuple #[.agg #[.bool g24,.slice p24 n24 c24,.bool h24,.slice o24 m24 e24],.int .i64 0]) (by simp [results,Tryz.results19,go_sem,r0,s0,t0,g0,k0,h0,l0,i0,m0,j0,n0]) rfl ⟨_,rfl,by rw [HV.out];exact (hi24.sets4 qr_4 rfl rfl rfl rfl (.bool g24) (.slice p24 n24 c24) (.bool h24) (.slice o24 m24 e24)),(Below.sets4 k1 (b := w.heap.size + 1 + 1) (by omega) (.bool g24) (.slice p24 n24 c24) (.bool h24) (.slice o24 m24 e24))⟩
  case hstep =>
    intro t w9 L i o A hEA hin hBf hf hi ho hdep
    obtain ⟨eo7,eo2,eo3⟩ := hEA
    obtain rfl | rfl | rfl | rfl | rfl | rfl | rfl | rfl | rfl | rfl | rfl | rfl | rfl | rfl | rfl | rfl | rfl : i = 0 ∨ i = 1 ∨ i = 2 ∨ i = 3 ∨ i = 4 ∨ i = 5 ∨ i = 6 ∨ i = 7 ∨ i = 8 ∨ i = 9 ∨ i = 10 ∨ i = 11 ∨ i = 12 ∨ i = 13 ∨ i = 14 ∨ i = 15 ∨ i = 16 := by omega
    all_goals cases ho
    all_goals simp [Region.binds] at hdep
    · obtain ⟨hc0,hc1⟩ := (c0.to hBf).cs2
      exact .val _ (by simp [execOp,eo7,hc0,hc1,go_sem]) (b0.below hBf)
    · obtain ⟨hc0,hc1⟩ := (c0.to hBf).cs2
      exact .val _ (by simp [execOp,eo7,hc0,hc1,go_sem]) (b0.below hBf)
    · have kf0 := hf 0 rfl rfl (by simp [hdep])
      have kf1 := hf 1 rfl rfl (by simp [hdep])
      exact .call _ _ (by simp [execOp,hin 0 rfl,hin 1 rfl,go_sem]) (mul_any _ _ _ _ _ ((kf0).raw) ((kf1).raw) (by omega) (by omega))
    · obtain ⟨hc0,hc1,hc2,hc3⟩ := (e0.to hBf).cs4
      exact .val _ (by simp [execOp,eo2,hc0,hc1,hc2,hc3,go_sem]) rfl
    · have q3 : t 3 = _ := hf 3 rfl rfl (by simp [hdep])
      exact .call _ _ (by simp [execOp,hin 3 rfl,q3,go_sem]) (callsEq (norm_any a b c d _ HO.out.1 HO.out.2.1 HO.out.2.2.1 HO.out.2.2.2))
    · have q4 : t 4 = _ := hf 4 rfl rfl (by simp [hdep])
      exact .call _ _ (by simp [execOp,hin 4 rfl,q4,go_sem]) (of_any _ _ (by omega) (by omega))
    · obtain ⟨hc0,hc1,hc2,hc3⟩ := (f0.to hBf).cs4
      exact .val _ (by simp [execOp,eo3,hc0,hc1,hc2,hc3,go_sem]) rfl
    · have q6 : t 6 = _ := hf 6 rfl rfl (by simp [hdep])
      exact .call _ _ (by simp [execOp,hin 6 rfl,q6,go_sem]) (callsEq (norm_any e f g h _ HP.out.1 HP.out.2.1 HP.out.2.2.1 HP.out.2.2.2))
    · have q7 : t 7 = _ := hf 7 rfl rfl (by simp [hdep])
      exact .call _ _ (by simp [execOp,hin 7 rfl,q7,go_sem]) (of_any _ _ (by omega) (by omega))
    · have kf5 := hf 5 rfl rfl (by simp [hdep])
      have kf8 := hf 8 rfl rfl (by simp [hdep])
      exact .call _ _ (by simp [execOp,hin 5 rfl,hin 8 rfl,go_sem]) (mul_any _ _ _ _ _ ((kf5).raw) ((kf8).raw) (by omega) (by omega))
    · have kf2 := hf 2 rfl rfl (by simp [hdep])
      have kf9 := hf 9 rfl rfl (by simp [hdep])
      exact .call _ _ (by simp [execOp,hin 2 rfl,hin 9 rfl,go_sem]) (callsQC (newQ_ok _ _ _ _ _ _ _ ((kf2).rawV) ((kf9).rawV) (by omega) (by omega) HNN.out))
    · exact .val _ (by simp [execOp,hin 10 rfl,go_sem]) (hf 10 rfl rfl (by simp [hdep]))
    · obtain ⟨uf,huf,h1f⟩ := hf 11 rfl rfl (by simp [hdep])
      exact .val _ (by simp [execOp,hin 11 rfl,huf,go_sem]) h1f
    · obtain ⟨uf,huf,h1f⟩ := hf 11 rfl rfl (by simp [hdep])
      exact .val _ (by simp [execOp,hin 11 rfl,huf,go_sem]) rfl
    · exact .alloc4 (.bool false) (.slice none 0 0) (.bool false) (.slice none 0 0) 30 (by simp [execOp,go_sem])
    · exact stQ 14 (hin 14 rfl) (hin 12 rfl) (hf 12 rfl rfl (by simp [hdep])) (by simp [hdep])
    · have q13 : t 13 = _ := hf 13 rfl rfl (by simp [hdep])
      exact .val _ (by simp [execOp,hin 13 rfl,q13,go_sem]) rfl
theorem chord_no (a b c d e f g h : Int) (w : World) (hq : ¬ qcode2 a b c d e f g h = 0) :
    Calls Tryz.prog 19 #[.agg #[.int .i64 a,.int .i64 b,.int .i64 c,.int .i64 d],.agg #[.int .i64 e,.int .i64 f,.int .i64 g,.int .i64 h]] w (GNoQ (qcode2 a b c d e f g h) w) := by
  have hqt : (qcode2 a b c d e f g h == 0) = false := by simpa using hq
  have hqt2 : (qcode2 a b c d e f g h != 0) = true := by simpa using hq
  clear hq
  have hB0 : Below w.heap.size w ((((w.alloc (.cells #[.int .i64 a,.int .i64 b,.int .i64 c,.int .i64 d] 33)).alloc (.cells #[.int .i64 e,.int .i64 f,.int .i64 g,.int .i64 h] 33)).alloc (.cells #[.bool false,.slice none 0 0,.bool false,.slice none 0 0] 30)).alloc (.cells #[.int .i64 a,.int .i64 b,.int .i64 c,.int .i64 d,.int .i64 e,.int .i64 f,.int .i64 g,.int .i64 h] 33)) := Below.al (Below.al (Below.al ((Below.refl _ _).alloc (Nat.le_refl _) _) _) _) _
  have xa : Bx ((((w.alloc (.cells #[.int .i64 a,.int .i64 b,.int .i64 c,.int .i64 d] 33)).alloc (.cells #[.int .i64 e,.int .i64 f,.int .i64 g,.int .i64 h] 33)).alloc (.cells #[.bool false,.slice none 0 0,.bool false,.slice none 0 0] 30)).alloc (.cells #[.int .i64 a,.int .i64 b,.int .i64 c,.int .i64 d,.int .i64 e,.int .i64 f,.int .i64 g,.int .i64 h] 33)) w.heap.size [.int .i64 a,.int .i64 b,.int .i64 c,.int .i64 d] := by have := (((Bx.new w [.int .i64 a,.int .i64 b,.int .i64 c,.int .i64 d] 33).alloc (.cells #[.int .i64 e,.int .i64 f,.int .i64 g,.int .i64 h] 33)).alloc (.cells #[.bool false,.slice none 0 0,.bool false,.slice none 0 0] 30)).alloc (.cells #[.int .i64 a,.int .i64 b,.int .i64 c,.int .i64 d,.int .i64 e,.int .i64 f,.int .i64 g,.int .i64 h] 33);simpa using this
  have xb : Bx ((((w.alloc (.cells #[.int .i64 a,.int .i64 b,.int .i64 c,.int .i64 d] 33)).alloc (.cells #[.int .i64 e,.int .i64 f,.int .i64 g,.int .i64 h] 33)).alloc (.cells #[.bool false,.slice none 0 0,.bool false,.slice none 0 0] 30)).alloc (.cells #[.int .i64 a,.int .i64 b,.int .i64 c,.int .i64 d,.int .i64 e,.int .i64 f,.int .i64 g,.int .i64 h] 33)) (w.heap.size + 1) [.int .i64 e,.int .i64 f,.int .i64 g,.int .i64 h] := by have := ((Bx.new (w.alloc (.cells #[.int .i64 a,.int .i64 b,.int .i64 c,.int .i64 d] 33)) [.int .i64 e,.int .i64 f,.int .i64 g,.int .i64 h] 33).alloc (.cells #[.bool false,.slice none 0 0,.bool false,.slice none 0 0] 30)).alloc (.cells #[.int .i64 a,.int .i64 b,.int .i64 c,.int .i64 d,.int .i64 e,.int .i64 f,.int .i64 g,.int .i64 h] 33);simpa using this
  have xr : Bx ((((w.alloc (.cells #[.int .i64 a,.int .i64 b,.int .i64 c,.int .i64 d] 33)).alloc (.cells #[.int .i64 e,.int .i64 f,.int .i64 g,.int .i64 h] 33)).alloc (.cells #[.bool false,.slice none 0 0,.bool false,.slice none 0 0] 30)).alloc (.cells #[.int .i64 a,.int .i64 b,.int .i64 c,.int .i64 d,.int .i64 e,.int .i64 f,.int .i64 g,.int .i64 h] 33)) (w.heap.size + 1 + 1) [.bool false,.slice none 0 0,.bool false,.slice none 0 0] := by have := (Bx.new ((w.alloc (.cells #[.int .i64 a,.int .i64 b,.int .i64 c,.int .i64 d] 33)).alloc (.cells #[.int .i64 e,.int .i64 f,.int .i64 g,.int .i64 h] 33)) [.bool false,.slice none 0 0,.bool false,.slice none 0 0] 30).alloc (.cells #[.int .i64 a,.int .i64 b,.int .i64 c,.int .i64 d,.int .i64 e,.int .i64 f,.int .i64 g,.int .i64 h] 33);simpa using this
  have xl : Bx ((((w.alloc (.cells #[.int .i64 a,.int .i64 b,.int .i64 c,.int .i64 d] 33)).alloc (.cells #[.int .i64 e,.int .i64 f,.int .i64 g,.int .i64 h] 33)).alloc (.cells #[.bool false,.slice none 0 0,.bool false,.slice none 0 0] 30)).alloc (.cells #[.int .i64 a,.int .i64 b,.int .i64 c,.int .i64 d,.int .i64 e,.int .i64 f,.int .i64 g,.int .i64 h] 33)) (w.heap.size + 1 + 1 + 1) [.int .i64 a,.int .i64 b,.int .i64 c,.int .i64 d,.int .i64 e,.int .i64 f,.int .i64 g,.int .i64 h] := by have := Bx.new (((w.alloc (.cells #[.int .i64 a,.int .i64 b,.int .i64 c,.int .i64 d] 33)).alloc (.cells #[.int .i64 e,.int .i64 f,.int .i64 g,.int .i64 h] 33)).alloc (.cells #[.bool false,.slice none 0 0,.bool false,.slice none 0 0] 30)) [.int .i64 a,.int .i64 b,.int .i64 c,.int .i64 d,.int .i64 e,.int .i64 f,.int .i64 g,.int .i64 h] 33;simpa using this
  go_enter Tryz.func19,Tryz.ntmps19
  go_wp2_with fail
  refine (checked_any a b c d e f g h _ _ xl).mono ?_
  rintro x w1 ⟨rfl,hb1⟩
  have zr := xr.to hb1
  have zr0 := zr.c0
  have zf0 := zr.f0
  have zr1 := zr.c1
  have zf1 := zr.f1
  have zr2 := zr.c2
  have zf2 := zr.f2
  have zr3 := zr.c3
  have zf3 := zr.f3
  go_wp2_with fail
  exact bodyPost_ret (v := .tuple #[.agg #[.bool false,.slice none 0 0,.bool false,.slice none 0 0],.int .i64 (qcode2 a b c d e f g h)]) (by simp [results,Tryz.results19,go_sem,zr0,zr1,zr2,zr3,zf0,zf1,zf2,zf3]) rfl ⟨rfl,Below.sets4 (Below.tr hB0 hb1) (b := w.heap.size + 1 + 1) (by omega) _ _ _ _⟩
end Go.Proofs.YtidfgdchcpmnfaaGreat
