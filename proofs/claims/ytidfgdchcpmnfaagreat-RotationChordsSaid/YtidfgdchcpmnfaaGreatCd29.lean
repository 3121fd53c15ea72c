/-
  Lemmas for the theorem vchords_holds, part 29 of 33.
-/
import Derived.Test.YtidfgdchcpmnfaaGreatCd18
import Derived.Test.YtidfgdchcpmnfaaGreatCd21
import Derived.Test.YtidfgdchcpmnfaaGreatCd28
namespace Go.Proofs.YtidfgdchcpmnfaaGreat
open Go Go.RowKit
set_option maxRecDepth 100000
set_option maxHeartbeats 4000000
set_option linter.unusedSimpArgs false
set_option linter.unusedVariables false
def okc (x : Int) : Prop := -1048576 ≤ x ∧ x ≤ 1048576
instance (x : Int) : Decidable (okc x) := by unfold okc;infer_instance
def qcode (a b c d : Int) : Int := if a = 0 ∧ b = 0 ∧ c = 0 ∧ d = 0 then 1 else if okc a ∧ okc b ∧ okc c ∧ okc d then 0 else 3
def gseq (xs : Nat → Int) : Nat → Int
  | 0 => 0
  | k + 1 => ((Int.gcd (gseq xs k) (xs k) : Nat) : Int)
def fseq (xs : Nat → Int) : Nat → Int
  | 0 => 0
  | k + 1 => if fseq xs k = 0 then xs k else fseq xs k
theorem gseq_isz {xs : Nat → Int} {K : Nat} : ∀ k,(∀ j,j < k → isz (xs j) ≤ K) → isz (gseq xs k) ≤ K
  | 0,_ => by show isz 0 ≤ K;rw [isz_zero];omega
  | k + 1,h => by
    have ih := gseq_isz k (fun j hj => h j (by omega))
    show isz ((Int.gcd (gseq xs k) (xs k) : Nat) : Int) ≤ K
    by_cases hx : xs k = 0
    · rw [hx,Int.gcd_zero_right]
      have : isz (((gseq xs k).natAbs : Nat) : Int) = isz (gseq xs k) := by unfold isz;simp
      omega
    · exact isz_gcd_le hx (h k (by omega))
theorem gseq_ne {xs : Nat → Int} {j : Nat} (hj : xs j ≠ 0) : ∀ k,j < k → gseq xs k ≠ 0
  | 0,h => by omega
  | k + 1,h => by
    show ((Int.gcd (gseq xs k) (xs k) : Nat) : Int) ≠ 0
    intro e
    have e' : Int.gcd (gseq xs k) (xs k) = 0 := by omega
    rw [Int.gcd_eq_zero_iff] at e'
    by_cases hk : j = k
    · subst hk;exact hj e'.2
    · exact gseq_ne hj k (by omega) e'.1
theorem sgn_zero_iff {x : Int} : sgn x = 0 ↔ x = 0 := by unfold sgn;exact Int.sign_eq_zero_iff_zero
def primG (xs : Nat → Int) : Int := if fseq xs 4 < 0 then -gseq xs 4 else gseq xs 4
def primN (xs : Nat → Int) (k : Nat) : Int := (xs k).fdiv (primG xs)
def primOk (xs : Nat → Int) : Prop := ∀ k,k < 4 → okc (primN xs k)
instance (xs : Nat → Int) : Decidable (primOk xs) := by unfold primOk;infer_instance
def quatV (a b c d : Int) : Value := .agg #[.int .i64 a,.int .i64 b,.int .i64 c,.int .i64 d]
def primV (xs : Nat → Int) : Value := if primOk xs then .tuple #[quatV (primN xs 0) (primN xs 1) (primN xs 2) (primN xs 3),.int .i64 0] else .tuple #[quatV 0 0 0 0,.int .i64 3]
theorem primV_ok {xs : Nat → Int} (h : primOk xs) : primV xs = .tuple #[quatV (primN xs 0) (primN xs 1) (primN xs 2) (primN xs 3),.int .i64 0] := if_pos h
theorem primG_ne {xs : Nat → Int} {j : Nat} (hj : j < 4) (h : xs j ≠ 0) : primG xs ≠ 0 := by
  have := gseq_ne h 4 hj
  unfold primG
  split <;> omega
def xs4 (a b c d : Int) : Nat → Int
  | 0 => a | 1 => b | 2 => c | _ => d
def nzB (q : Nat → Rat) : Bool := !allB 4 (fun i => decide (q i = 0))
theorem isz_fdiv_dvd {x y : Int} (hy : y ≠ 0) (h : y ∣ x) : isz (x.fdiv y) ≤ isz x := by
  obtain ⟨z,rfl⟩ := h
  rw [Int.mul_fdiv_cancel_left _ hy]
  exact isz_mono (by rw [Int.natAbs_mul];exact Nat.le_mul_of_pos_left _ (Int.natAbs_pos.2 hy))
def clearD (q : Nat → Rat) : Int := 1 * ((q 0).den : Int) * ((q 1).den : Int) * ((q 2).den : Int) * ((q 3).den : Int)
def clearXs (q : Nat → Rat) : Nat → Int := fun k => (q k).num * (clearD q).fdiv ((q k).den : Int)
theorem isz_word {x : Int} (h0 : -9223372036854775808 ≤ x) (h1 : x ≤ 9223372036854775807) : isz x ≤ 400000000 :=
  Nat.le_trans (isz_le (k := 3) (by rw [BB_eq];omega)) (by omega)
def canonV (a b c d : Int) : Value := if qcode a b c d = 0 then primV (xs4 a b c d) else .tuple #[quatV 0 0 0 0,.int .i64 (qcode a b c d)]
theorem qcode_ok {a b c d : Int} (h : qcode a b c d = 0) : ¬ (a = 0 ∧ b = 0 ∧ c = 0 ∧ d = 0) ∧ okc a ∧ okc b ∧ okc c ∧ okc d := by
  unfold qcode at h
  by_cases h1 : a = 0 ∧ b = 0 ∧ c = 0 ∧ d = 0
  · rw [if_pos h1] at h;omega
  · rw [if_neg h1] at h
    by_cases h2 : okc a ∧ okc b ∧ okc c ∧ okc d
    · exact ⟨h1,h2⟩
    · rw [if_neg h2] at h;omega
theorem okc_mul {x y : Int} (hx : okc x) (hy : okc y) : -1099511627776 ≤ x * y ∧ x * y ≤ 1099511627776 := by
  unfold okc at hx hy
  have h1 : (x * y).natAbs ≤ 1048576 * 1048576 := by
    rw [Int.natAbs_mul]
    exact Nat.mul_le_mul (by omega) (by omega)
  omega
def normI (a b c d : Int) : Int := a * a + b * b + c * c + d * d
def qcode2 (a b c d e f g h : Int) : Int := if qcode a b c d = 0 then qcode e f g h else qcode a b c d
def qmulX (a b c d e f g h : Int) : Nat → Int := xs4 (a * e - b * f - c * g - d * h) (a * f + b * e + c * h - d * g) (a * g - b * h + c * e + d * f) (a * h + b * g - c * f + d * e)
def mulV (a b c d e f g h : Int) : Value := if qcode2 a b c d e f g h = 0 then primV (qmulX a b c d e f g h) else .tuple #[quatV 0 0 0 0,.int .i64 (qcode2 a b c d e f g h)]
theorem qmul_norm (a b c d e f g h : Int) : (a * e - b * f - c * g - d * h) * (a * e - b * f - c * g - d * h) + (a * f + b * e + c * h - d * g) * (a * f + b * e + c * h - d * g) + (a * g - b * h + c * e + d * f) * (a * g - b * h + c * e + d * f) + (a * h + b * g - c * f + d * e) * (a * h + b * g - c * f + d * e) = normI a b c d * normI e f g h := by
  unfold normI;grind
theorem normI_pos {a b c d : Int} (h : ¬ (a = 0 ∧ b = 0 ∧ c = 0 ∧ d = 0)) : 0 < normI a b c d := by
  have s : ∀ x : Int,0 ≤ x * x := fun x => by
    rcases Int.le_total 0 x with h | h
    · exact Int.mul_nonneg h h
    · exact Int.mul_nonneg_of_nonpos_of_nonpos h h
  have p : ∀ x : Int,x ≠ 0 → 0 < x * x := fun x hx => by
    rcases Int.lt_or_gt_of_ne hx with h | h
    · exact Int.mul_pos_of_neg_of_neg h h
    · exact Int.mul_pos h h
  unfold normI
  have := s a;have := s b;have := s c;have := s d
  by_cases ha : a = 0
  · by_cases hb : b = 0
    · by_cases hc : c = 0
      · have := p d (fun hd => h ⟨ha,hb,hc,hd⟩);omega
      · have := p c hc;omega
    · have := p b hb;omega
  · have := p a ha;omega
theorem qmul_ne {a b c d e f g h : Int} (h1 : ¬ (a = 0 ∧ b = 0 ∧ c = 0 ∧ d = 0)) (h2 : ¬ (e = 0 ∧ f = 0 ∧ g = 0 ∧ h = 0)) :
    ¬ (a * e - b * f - c * g - d * h = 0 ∧ a * f + b * e + c * h - d * g = 0 ∧ a * g - b * h + c * e + d * f = 0 ∧ a * h + b * g - c * f + d * e = 0) := fun ⟨k0,k1,k2,k3⟩ => by
  have := qmul_norm a b c d e f g h
  rw [k0,k1,k2,k3] at this
  have := Int.mul_pos (normI_pos h1) (normI_pos h2)
  omega
theorem normI_bound {a b c d : Int} (oa : okc a) (ob : okc b) (oc : okc c) (od : okc d) : -8796093022208 ≤ normI a b c d ∧ normI a b c d ≤ 8796093022208 := by
  obtain ⟨p0,p1⟩ := okc_mul oa oa
  obtain ⟨p2,p3⟩ := okc_mul ob ob
  obtain ⟨p4,p5⟩ := okc_mul oc oc
  obtain ⟨p6,p7⟩ := okc_mul od od
  unfold normI;omega
def qdot (a b c d e f g h : Int) : Int := a * e + b * f + c * g + d * h
theorem qdot_bound {a b c d e f g h : Int} (oa : okc a) (ob : okc b) (oc : okc c) (od : okc d) (oe : okc e) (of : okc f) (og : okc g) (oh : okc h) : -8796093022208 ≤ qdot a b c d e f g h ∧ qdot a b c d e f g h ≤ 8796093022208 := by
  obtain ⟨p0,p1⟩ := okc_mul oa oe
  obtain ⟨p2,p3⟩ := okc_mul ob of
  obtain ⟨p4,p5⟩ := okc_mul oc og
  obtain ⟨p6,p7⟩ := okc_mul od oh
  unfold qdot;omega
def chordQ (a b c d e f g h : Int) : Rat := ((1 : Int) : Rat) - Rat.divInt (qdot a b c d e f g h * qdot a b c d e f g h) (normI a b c d * normI e f g h)
theorem isz_13 {x : Int} (h0 : -8796093022208 ≤ x) (h1 : x ≤ 8796093022208) : isz x ≤ 2 :=
  isz_le (by rw [BB_eq];omega)
def omSum (s : Nat → Int) (e : Nat → Nat → Rat) : Nat → Rat
  | 0 => ((1 : Int) : Rat)
  | k + 1 => omSum s e k + ((s k : Int) : Rat) * e k k
theorem omSum_rsz {s : Nat → Int} {e : Nat → Nat → Rat} {K : Nat} (hs : ∀ k,k < 3 → rsz ((s k : Int) : Rat) ≤ 1) (he : ∀ k,k < 3 → rsz (e k k) ≤ K) : ∀ k,k ≤ 3 → rsz (omSum s e k) ≤ k * (K + 2) + 1
  | 0,_ => by
    show rsz ((1 : Int) : Rat) ≤ _
    have : rsz ((1 : Int) : Rat) ≤ 1 := by decide +kernel
    omega
  | k + 1,hk => by
    have ih := omSum_rsz hs he k (by omega)
    have a := rsz_mul ((s k : Int) : Rat) (e k k)
    have b := rsz_add (omSum s e k) (((s k : Int) : Rat) * e k k)
    have c := hs k (by omega)
    have d := he k (by omega)
    show rsz (omSum s e k + ((s k : Int) : Rat) * e k k) ≤ _
    rw [Nat.succ_mul]
    omega
theorem clearD_dvd (q : Nat → Rat) {k : Nat} (hk : k < 4) : ((q k).den : Int) ∣ clearD q := by
  unfold clearD
  have : k = 0 ∨ k = 1 ∨ k = 2 ∨ k = 3 := by omega
  rcases this with rfl | rfl | rfl | rfl
  · exact Int.dvd_mul_of_dvd_left (Int.dvd_mul_of_dvd_left (Int.dvd_mul_of_dvd_left (Int.dvd_mul_left _ _)))
  · exact Int.dvd_mul_of_dvd_left (Int.dvd_mul_of_dvd_left (Int.dvd_mul_left _ _))
  · exact Int.dvd_mul_of_dvd_left (Int.dvd_mul_left _ _)
  · exact Int.dvd_mul_left _ _
theorem clearD_isz {q : Nat → Rat} {K : Nat} (h : ∀ k,k < 4 → rsz (q k) ≤ K) : isz (clearD q) ≤ 4 * K + 1 := by
  unfold clearD
  have h0 := h 0 (by omega)
  have h1 := h 1 (by omega)
  have h2 := h 2 (by omega)
  have h3 := h 3 (by omega)
  have d0 := rsz_den (q 0)
  have d1 := rsz_den (q 1)
  have d2 := rsz_den (q 2)
  have d3 := rsz_den (q 3)
  have m0 := isz_mul 1 ((q 0).den : Int)
  have m1 := isz_mul (1 * ((q 0).den : Int)) ((q 1).den : Int)
  have m2 := isz_mul (1 * ((q 0).den : Int) * ((q 1).den : Int)) ((q 2).den : Int)
  have m3 := isz_mul (1 * ((q 0).den : Int) * ((q 1).den : Int) * ((q 2).den : Int)) ((q 3).den : Int)
  have z : isz 1 ≤ 1 := by decide +kernel
  omega
theorem clearXs_isz {q : Nat → Rat} {K : Nat} (h : ∀ k,k < 4 → rsz (q k) ≤ K) {k : Nat} (hk : k < 4) : isz (clearXs q k) ≤ 5 * K + 1 := by
  unfold clearXs
  have h1 := isz_mul (q k).num ((clearD q).fdiv ((q k).den : Int))
  have h2 := isz_fdiv_dvd (x := clearD q) (y := ((q k).den : Int)) (by have := (q k).den_nz;omega) (clearD_dvd q hk)
  have h3 := clearD_isz h
  have h4 := rsz_num (q k)
  have h5 := h k hk
  omega
theorem clearD_ne (q : Nat → Rat) : clearD q ≠ 0 := by
  unfold clearD
  have h : ∀ k,((q k).den : Int) ≠ 0 := fun k => by have := (q k).den_nz;omega
  exact Int.mul_ne_zero (Int.mul_ne_zero (Int.mul_ne_zero (Int.mul_ne_zero (by omega) (h 0)) (h 1)) (h 2)) (h 3)
theorem clearXs_ne {q : Nat → Rat} {k : Nat} (hk : k < 4) (h : q k ≠ 0) : clearXs q k ≠ 0 := by
  unfold clearXs
  refine Int.mul_ne_zero (fun e => h (Rat.num_eq_zero.1 e)) (fun e => ?_)
  obtain ⟨z,hz⟩ := clearD_dvd q hk
  have hd : ((q k).den : Int) ≠ 0 := by have := (q k).den_nz;omega
  rw [hz,Int.mul_fdiv_cancel_left _ hd] at e
  rw [e,Int.mul_zero] at hz
  exact clearD_ne q hz
def denP (q : Nat → Rat) : Nat → Int
  | 0 => 1
  | k + 1 => denP q k * ((q k).den : Int)
theorem denP_isz {q : Nat → Rat} {K : Nat} (h : ∀ k,k < 4 → rsz (q k) ≤ K) : ∀ k,k ≤ 4 → isz (denP q k) ≤ k * K + 1
  | 0,_ => by
    show isz 1 ≤ _
    have : isz 1 ≤ 1 := by decide +kernel
    omega
  | k + 1,hk => by
    have ih := denP_isz h k (by omega)
    have m := isz_mul (denP q k) ((q k).den : Int)
    have a := h k (by omega)
    have b := rsz_den (q k)
    show isz (denP q k * ((q k).den : Int)) ≤ _
    rw [Nat.succ_mul]
    omega
def omRow (e : Nat → Nat → Rat) : Nat → Nat → Rat
  | 0 => fun | 0 => omSum (xs4 1 1 1 0) e 3 | 1 => e 2 1 - e 1 2 | 2 => e 0 2 - e 2 0 | _ => e 1 0 - e 0 1
  | 1 => fun | 0 => e 2 1 - e 1 2 | 1 => omSum (xs4 1 (-1) (-1) 0) e 3 | 2 => e 0 1 + e 1 0 | _ => e 0 2 + e 2 0
  | 2 => fun | 0 => e 0 2 - e 2 0 | 1 => e 0 1 + e 1 0 | 2 => omSum (xs4 (-1) 1 (-1) 0) e 3 | _ => e 1 2 + e 2 1
  | _ => fun | 0 => e 1 0 - e 0 1 | 1 => e 0 2 + e 2 0 | 2 => e 1 2 + e 2 1 | _ => omSum (xs4 (-1) (-1) 1 0) e 3
theorem omRow_rsz {e : Nat → Nat → Rat} {K : Nat} (h : ∀ i j,i < 3 → j < 3 → rsz (e i j) ≤ K) (hK : K ≤ 700000) : ∀ i k,k < 4 → rsz (omRow e i k) ≤ 50000000 := by
  have hs : ∀ x y z : Int,(x = 1 ∨ x = -1) → (y = 1 ∨ y = -1) → (z = 1 ∨ z = -1) → rsz (omSum (xs4 x y z 0) e 3) ≤ 50000000 := fun x y z hx hy hz => by
    have u : ∀ x : Int,(x = 1 ∨ x = -1) → rsz ((x : Int) : Rat) ≤ 1 := fun x hx => by rcases hx with e | e <;> rw [e] <;> decide +kernel
    have := omSum_rsz (s := xs4 x y z 0) (e := e) (K := K) (fun k hk => by
      obtain rfl | rfl | rfl : k = 0 ∨ k = 1 ∨ k = 2 := by omega
      · exact u x hx
      · exact u y hy
      · exact u z hz) (fun k hk => h k k hk hk) 3 (by omega)
    omega
  have hm : ∀ i j,i < 3 → j < 3 → rsz (e i j - e j i) ≤ 50000000 := fun i j hi hj => by have := rsz_sub (e i j) (e j i);have := h i j hi hj;have := h j i hj hi;omega
  have hp : ∀ i j,i < 3 → j < 3 → rsz (e i j + e j i) ≤ 50000000 := fun i j hi hj => by have := rsz_add (e i j) (e j i);have := h i j hi hj;have := h j i hj hi;omega
  intro i k hk
  obtain rfl | rfl | rfl | rfl : k = 0 ∨ k = 1 ∨ k = 2 ∨ k = 3 := by omega
  all_goals
    match i with
    | 0 => first | exact hs _ _ _ (by omega) (by omega) (by omega) | exact hm _ _ (by omega) (by omega) | exact hp _ _ (by omega) (by omega)
    | 1 => first | exact hs _ _ _ (by omega) (by omega) (by omega) | exact hm _ _ (by omega) (by omega) | exact hp _ _ (by omega) (by omega)
    | 2 => first | exact hs _ _ _ (by omega) (by omega) (by omega) | exact hm _ _ (by omega) (by omega) | exact hp _ _ (by omega) (by omega)
    | _ + 3 => first | exact hs _ _ _ (by omega) (by omega) (by omega) | exact hm _ _ (by omega) (by omega) | exact hp _ _ (by omega) (by omega)
def rotM (a b c d : Int) : Nat → Nat → Int
  | 0 => fun | 0 => a * a + b * b - c * c - d * d | 1 => 2 * (b * c - a * d) | _ => 2 * (b * d + a * c)
  | 1 => fun | 0 => 2 * (b * c + a * d) | 1 => a * a - b * b + c * c - d * d | _ => 2 * (c * d - a * b)
  | _ => fun | 0 => 2 * (b * d - a * c) | 1 => 2 * (c * d + a * b) | _ => a * a - b * b - c * c + d * d
def rotQ (a b c d : Int) (i j : Nat) : Rat := Rat.divInt (rotM a b c d i j) (normI a b c d)
theorem rotM_bound {a b c d : Int} (oa : okc a) (ob : okc b) (oc : okc c) (od : okc d) {i j : Nat} (hi : i < 3) (hj : j < 3) : -8796093022208 ≤ rotM a b c d i j ∧ rotM a b c d i j ≤ 8796093022208 := by
  obtain ⟨maa0,maa1⟩ := okc_mul oa oa
  obtain ⟨mab0,mab1⟩ := okc_mul oa ob
  obtain ⟨mac0,mac1⟩ := okc_mul oa oc
  obtain ⟨mad0,mad1⟩ := okc_mul oa od
  obtain ⟨mbb0,mbb1⟩ := okc_mul ob ob
  obtain ⟨mbc0,mbc1⟩ := okc_mul ob oc
  obtain ⟨mbd0,mbd1⟩ := okc_mul ob od
  obtain ⟨mcc0,mcc1⟩ := okc_mul oc oc
  obtain ⟨mcd0,mcd1⟩ := okc_mul oc od
  obtain ⟨mdd0,mdd1⟩ := okc_mul od od
  obtain rfl | rfl | rfl : i = 0 ∨ i = 1 ∨ i = 2 := by omega
  all_goals
    obtain rfl | rfl | rfl : j = 0 ∨ j = 1 ∨ j = 2 := by omega
    all_goals
      simp only [rotM]
      omega
theorem gseq_dvd {xs : Nat → Int} : ∀ k j,j < k → gseq xs k ∣ xs j
  | 0,j,h => by omega
  | k + 1,j,h => by
    show ((Int.gcd (gseq xs k) (xs k) : Nat) : Int) ∣ xs j
    by_cases e : j = k
    · subst e;exact Int.gcd_dvd_right ..
    · exact Int.dvd_trans (Int.gcd_dvd_left ..) (gseq_dvd k j (by omega))
theorem primG_dvd {xs : Nat → Int} {j : Nat} (hj : j < 4) : primG xs ∣ xs j := by
  unfold primG
  split
  · exact Int.neg_dvd.2 (gseq_dvd 4 j hj)
  · exact gseq_dvd 4 j hj
theorem gseq_mul (t : Int) (xs : Nat → Int) : ∀ k,gseq (fun j => t * xs j) k = (t.natAbs : Int) * gseq xs k
  | 0 => by show (0 : Int) = _ * 0;simp
  | k + 1 => by
    show ((Int.gcd (gseq (fun j => t * xs j) k) (t * xs k) : Nat) : Int) = _ * ((Int.gcd (gseq xs k) (xs k) : Nat) : Int)
    rw [gseq_mul t xs k]
    have h1 : ((t.natAbs : Nat) : Int) * gseq xs k = t * (if 0 ≤ t then gseq xs k else -gseq xs k) := by
      split
      · rw [Int.natAbs_of_nonneg (by assumption)]
      · have : ((t.natAbs : Nat) : Int) = -t := by omega
        rw [this];grind
    rw [h1,Int.gcd_mul_left]
    have h2 : Int.gcd (if 0 ≤ t then gseq xs k else -gseq xs k) (xs k) = Int.gcd (gseq xs k) (xs k) := by
      split
      · rfl
      · exact Int.neg_gcd
    rw [h2];simp
theorem fseq_mul {t : Int} (ht : t ≠ 0) (xs : Nat → Int) : ∀ k,fseq (fun j => t * xs j) k = t * fseq xs k
  | 0 => by show (0 : Int) = _ * 0;simp
  | k + 1 => by
    show (if fseq (fun j => t * xs j) k = 0 then t * xs k else fseq (fun j => t * xs j) k) = t * (if fseq xs k = 0 then xs k else fseq xs k)
    rw [fseq_mul ht xs k]
    by_cases h : fseq xs k = 0
    · rw [if_pos h,if_pos (by rw [h];simp)]
    · rw [if_neg h,if_neg (fun e => (Int.mul_eq_zero.1 e).elim ht h)]
theorem gseq_zero {xs : Nat → Int} : ∀ k,fseq xs k = 0 → gseq xs k = 0
  | 0,_ => rfl
  | k + 1,h => by
    have h' : (if fseq xs k = 0 then xs k else fseq xs k) = 0 := h
    by_cases e : fseq xs k = 0
    · rw [if_pos e] at h'
      show ((Int.gcd (gseq xs k) (xs k) : Nat) : Int) = 0
      rw [gseq_zero k e,h'];rfl
    · rw [if_neg e] at h';exact absurd h' e
theorem primG_mul {t : Int} (ht : t ≠ 0) (xs : Nat → Int) : primG (fun j => t * xs j) = t * primG xs := by
  unfold primG
  rw [fseq_mul ht,gseq_mul]
  rcases Int.lt_trichotomy (fseq xs 4) 0 with hf | hf | hf
  · rcases Int.lt_or_gt_of_ne ht with h | h
    · have h1 : 0 < t * fseq xs 4 := Int.mul_pos_of_neg_of_neg h hf
      rw [if_neg (by omega),if_pos hf,show ((t.natAbs : Nat) : Int) = -t by omega];grind
    · have h1 : t * fseq xs 4 < 0 := Int.mul_neg_of_pos_of_neg h hf
      rw [if_pos h1,if_pos hf,show ((t.natAbs : Nat) : Int) = t by omega];grind
  · rw [hf,gseq_zero 4 hf];simp
  · rcases Int.lt_or_gt_of_ne ht with h | h
    · have h1 : t * fseq xs 4 < 0 := Int.mul_neg_of_neg_of_pos h hf
      rw [if_pos h1,if_neg (by omega),show ((t.natAbs : Nat) : Int) = -t by omega];grind
    · have h1 : 0 < t * fseq xs 4 := Int.mul_pos h hf
      rw [if_neg (by omega),if_neg (by omega),show ((t.natAbs : Nat) : Int) = t by omega]
theorem primN_mul {t : Int} (ht : t ≠ 0) (xs : Nat → Int) {j : Nat} (hj : j < 4) : primN (fun j => t * xs j) j = primN xs j := by
  show (t * xs j).fdiv (primG (fun j => t * xs j)) = (xs j).fdiv (primG xs)
  rw [primG_mul ht]
  obtain ⟨y,hy⟩ := primG_dvd (xs := xs) hj
  by_cases hG : primG xs = 0
  · rw [hy,hG];simp
  · rw [hy,Int.mul_fdiv_cancel_left _ hG,← Int.mul_assoc,Int.mul_fdiv_cancel_left _ (fun e => (Int.mul_eq_zero.1 e).elim ht hG)]
theorem fseq_ext {xs ys : Nat → Int} : ∀ k,(∀ j,j < k → xs j = ys j) → fseq xs k = fseq ys k
  | 0,_ => rfl
  | k + 1,h => by
    show (if fseq xs k = 0 then xs k else fseq xs k) = (if fseq ys k = 0 then ys k else fseq ys k)
    rw [fseq_ext k (fun j hj => h j (by omega)),h k (by omega)]
theorem gseq_ext {xs ys : Nat → Int} : ∀ k,(∀ j,j < k → xs j = ys j) → gseq xs k = gseq ys k
  | 0,_ => rfl
  | k + 1,h => by
    show ((Int.gcd (gseq xs k) (xs k) : Nat) : Int) = ((Int.gcd (gseq ys k) (ys k) : Nat) : Int)
    rw [gseq_ext k (fun j hj => h j (by omega)),h k (by omega)]
theorem primN_ext {xs ys : Nat → Int} (h : ∀ j,j < 4 → xs j = ys j) {j : Nat} (hj : j < 4) : primN xs j = primN ys j := by
  unfold primN primG
  rw [fseq_ext 4 h,gseq_ext 4 h,h j hj]
theorem primN_scale {xs ys : Nat → Int} {s t : Int} (hs : s ≠ 0) (ht : t ≠ 0) (h : ∀ j,j < 4 → s * xs j = t * ys j) {j : Nat} (hj : j < 4) : primN xs j = primN ys j := by
  rw [← primN_mul hs xs hj,← primN_mul ht ys hj]
  exact primN_ext h hj
theorem normI_rat {a b c d : Int} (h : normI a b c d ≠ 0) : ((normI a b c d : Int) : Rat) ≠ 0 := fun e => h (Rat.intCast_inj.1 (by simpa using e))
theorem okc_fdiv {x G : Int} (hG : G ≠ 0) (hd : G ∣ x) (h : okc x) : okc (x.fdiv G) := by
  obtain ⟨y,rfl⟩ := hd
  rw [Int.mul_fdiv_cancel_left _ hG]
  have h1 : y.natAbs ≤ (G * y).natAbs := by rw [Int.natAbs_mul];exact Nat.le_mul_of_pos_left _ (Int.natAbs_pos.2 hG)
  unfold okc at *
  omega
theorem prim_rot {a b c d : Int} (hq : qcode a b c d = 0) : primOk (xs4 a b c d) := by
  obtain ⟨hne,oa,ob,oc,od⟩ := qcode_ok hq
  have hG : primG (xs4 a b c d) ≠ 0 := by
    by_cases h1 : a = 0
    · by_cases h2 : b = 0
      · by_cases h3 : c = 0
        · exact primG_ne (j := 3) (by omega) (fun e => hne ⟨h1,h2,h3,e⟩)
        · exact primG_ne (j := 2) (by omega) h3
      · exact primG_ne (j := 1) (by omega) h2
    · exact primG_ne (j := 0) (by omega) h1
  intro j hj
  refine okc_fdiv hG (primG_dvd hj) ?_
  obtain rfl | rfl | rfl | rfl : j = 0 ∨ j = 1 ∨ j = 2 ∨ j = 3 := by omega
  · exact oa
  · exact ob
  · exact oc
  · exact od
theorem prim_times (xs : Nat → Int) {j : Nat} (hj : j < 4) : xs j = primG xs * primN xs j := by
  obtain ⟨y,hy⟩ := primG_dvd (xs := xs) hj
  unfold primN
  by_cases hG : primG xs = 0
  · rw [hG] at hy ⊢;rw [hy];simp
  · conv => lhs;rw [hy]
    conv => rhs;rw [hy]
    rw [Int.mul_fdiv_cancel_left _ hG]
theorem prim_code {a b c d : Int} (hne : ¬ (a = 0 ∧ b = 0 ∧ c = 0 ∧ d = 0)) (hp : primOk (xs4 a b c d)) :
    qcode (primN (xs4 a b c d) 0) (primN (xs4 a b c d) 1) (primN (xs4 a b c d) 2) (primN (xs4 a b c d) 3) = 0 := by
  have d0 : a = _ := prim_times (xs4 a b c d) (j := 0) (by omega)
  have d1 : b = _ := prim_times (xs4 a b c d) (j := 1) (by omega)
  have d2 : c = _ := prim_times (xs4 a b c d) (j := 2) (by omega)
  have d3 : d = _ := prim_times (xs4 a b c d) (j := 3) (by omega)
  unfold qcode
  rw [if_neg,if_pos ⟨hp 0 (by omega),hp 1 (by omega),hp 2 (by omega),hp 3 (by omega)⟩]
  rintro ⟨e0,e1,e2,e3⟩
  rw [e0,Int.mul_zero] at d0
  rw [e1,Int.mul_zero] at d1
  rw [e2,Int.mul_zero] at d2
  rw [e3,Int.mul_zero] at d3
  exact hne ⟨d0,d1,d2,d3⟩
def SameIs (a b c d e f g h : Int) (v : Bool) : Prop := ∃ za zb zc zd ze ya yb yc yd ye : Int,canonV a b c d = .tuple #[.agg #[.int .i64 za,.int .i64 zb,.int .i64 zc,.int .i64 zd],.int .i64 ze] ∧ canonV e f g h = .tuple #[.agg #[.int .i64 ya,.int .i64 yb,.int .i64 yc,.int .i64 yd],.int .i64 ye] ∧ v = (decide (ze = 0) && (decide (ye = 0) && (decide (za = ya) && (decide (zb = yb) && (decide (zc = yc) && decide (zd = yd))))))
theorem qdot_comm (a b c d e f g h : Int) : qdot e f g h a b c d = qdot a b c d e f g h := by unfold qdot;grind
theorem chordQ_comm (a b c d e f g h : Int) : chordQ e f g h a b c d = chordQ a b c d e f g h := by
  unfold chordQ
  rw [qdot_comm,Int.mul_comm (normI e f g h)]
theorem sq_nn (x : Int) : 0 ≤ x * x := by
  rcases Int.le_total 0 x with h | h
  · exact Int.mul_nonneg h h
  · exact Int.mul_nonneg_of_nonpos_of_nonpos h h
theorem sq_zero {x : Int} (h : x * x = 0) : x = 0 := by rcases Int.mul_eq_zero.1 h with h | h <;> exact h
theorem qdot_lag (a b c d e f g h : Int) : normI a b c d * normI e f g h = qdot a b c d e f g h * qdot a b c d e f g h + ((a * f - b * e) * (a * f - b * e) + (a * g - c * e) * (a * g - c * e) + (a * h - d * e) * (a * h - d * e) + (b * g - c * f) * (b * g - c * f) + (b * h - d * f) * (b * h - d * f) + (c * h - d * g) * (c * h - d * g)) := by
  unfold normI qdot;grind
theorem qdot_le (a b c d e f g h : Int) : qdot a b c d e f g h * qdot a b c d e f g h ≤ normI a b c d * normI e f g h := by
  have := qdot_lag a b c d e f g h
  have h1 := sq_nn (a * f - b * e)
  have h2 := sq_nn (a * g - c * e)
  have h3 := sq_nn (a * h - d * e)
  have h4 := sq_nn (b * g - c * f)
  have h5 := sq_nn (b * h - d * f)
  have h6 := sq_nn (c * h - d * g)
  omega
theorem qdot_eq {a b c d e f g h : Int} (hE : qdot a b c d e f g h * qdot a b c d e f g h = normI a b c d * normI e f g h) :
    a * f = b * e ∧ a * g = c * e ∧ a * h = d * e ∧ b * g = c * f ∧ b * h = d * f ∧ c * h = d * g := by
  have := qdot_lag a b c d e f g h
  have h1 := sq_nn (a * f - b * e)
  have h2 := sq_nn (a * g - c * e)
  have h3 := sq_nn (a * h - d * e)
  have h4 := sq_nn (b * g - c * f)
  have h5 := sq_nn (b * h - d * f)
  have h6 := sq_nn (c * h - d * g)
  refine ⟨?_,?_,?_,?_,?_,?_⟩
  · have := sq_zero (x := a * f - b * e) (by omega);omega
  · have := sq_zero (x := a * g - c * e) (by omega);omega
  · have := sq_zero (x := a * h - d * e) (by omega);omega
  · have := sq_zero (x := b * g - c * f) (by omega);omega
  · have := sq_zero (x := b * h - d * f) (by omega);omega
  · have := sq_zero (x := c * h - d * g) (by omega);omega
theorem quot_spec (S N : Int) (hN : 0 < N) : ∃ q : Rat,Rat.divInt S N = q ∧ q * (N : Rat) = (S : Rat) ∧ (0 : Rat) < (N : Rat) := by
  have h1 : (0 : Rat) < (N : Rat) := by have := Rat.intCast_lt_intCast.2 hN;simpa using this
  refine ⟨_,rfl,?_,h1⟩
  rw [Rat.divInt_eq_div]
  exact Rat.div_mul_cancel (fun e => by rw [e] at h1;exact absurd h1 (by decide))
theorem chord_sign {a b c d e f g h : Int} (h1 : ¬ (a = 0 ∧ b = 0 ∧ c = 0 ∧ d = 0)) (h2 : ¬ (e = 0 ∧ f = 0 ∧ g = 0 ∧ h = 0)) :
    (qdot a b c d e f g h * qdot a b c d e f g h = normI a b c d * normI e f g h → sgn (chordQ a b c d e f g h).num = 0) ∧
    (qdot a b c d e f g h * qdot a b c d e f g h < normI a b c d * normI e f g h → sgn (chordQ a b c d e f g h).num = 1) ∧ ¬ cmpQ (chordQ a b c d e f g h) ((1 : Int) : Rat) = 1 := by
  obtain ⟨q,hq,hqm,hN⟩ := quot_spec (qdot a b c d e f g h * qdot a b c d e f g h) (normI a b c d * normI e f g h) (Int.mul_pos (normI_pos h1) (normI_pos h2))
  have hc : chordQ a b c d e f g h = ((1 : Int) : Rat) - q := by unfold chordQ;rw [hq]
  have hS := sq_nn (qdot a b c d e f g h)
  generalize qdot a b c d e f g h * qdot a b c d e f g h = S at *
  generalize normI a b c d * normI e f g h = N at *
  rw [hc,sgn_subQ]
  have hS' : (0 : Rat) ≤ (S : Rat) := by have := Rat.intCast_le_intCast.2 hS;simpa using this
  have q0 : 0 ≤ q := by
    by_cases h : 0 ≤ q
    · exact h
    · have h1 : 0 < -q := by grind
      have h2 := Rat.mul_pos h1 hN
      grind
  refine ⟨fun hE => ?_,fun hE => ?_,?_⟩
  · have hE' : (S : Rat) = (N : Rat) := by rw [hE]
    have : q = 1 := by
      have h1 : (q - 1) * (N : Rat) = 0 := by grind
      rcases Rat.mul_eq_zero.1 h1 with h | h
      · grind
      · grind
    unfold cmpQ
    rw [this,if_neg (by simp),if_neg (by simp)]
  · have hE' : (S : Rat) < (N : Rat) := Rat.intCast_lt_intCast.2 hE
    have : q < 1 := by
      by_cases h : q < 1
      · exact h
      · have h1 : 0 ≤ q - 1 := by grind
        have h2 := Rat.mul_nonneg h1 (Rat.le_of_lt hN)
        grind
    unfold cmpQ
    rw [if_neg (by simp;grind),if_pos (by simpa using this)]
  · unfold cmpQ
    rw [if_neg (c := ((1 : Int) : Rat) < ((1 : Int) : Rat) - q) (by simp;grind)]
    split <;> decide
theorem same_qdot {a b c d e f g h : Int} {v : Bool} (hp : qcode a b c d = 0) (hq : qcode e f g h = 0) (hv : SameIs a b c d e f g h v) :
    (v = true ∧ qdot a b c d e f g h * qdot a b c d e f g h = normI a b c d * normI e f g h) ∨ (v = false ∧ qdot a b c d e f g h * qdot a b c d e f g h < normI a b c d * normI e f g h) := by
  obtain ⟨za,zb,zc,zd,ze,ya,yb,yc,yd,ye,h1,h2,rfl⟩ := hv
  have n1 := (qcode_ok hp).1
  have n2 := (qcode_ok hq).1
  unfold canonV at h1 h2
  rw [if_pos hp,primV_ok (prim_rot hp)] at h1
  rw [if_pos hq,primV_ok (prim_rot hq)] at h2
  simp only [quatV,Value.tuple.injEq,Array.mk.injEq,List.cons.injEq,Value.agg.injEq,Value.int.injEq,true_and,and_true] at h1 h2
  obtain ⟨⟨rfl,rfl,rfl,rfl⟩,rfl⟩ := h1
  obtain ⟨⟨rfl,rfl,rfl,rfl⟩,rfl⟩ := h2
  have d0 : a = _ := prim_times (xs4 a b c d) (j := 0) (by omega)
  have d1 : b = _ := prim_times (xs4 a b c d) (j := 1) (by omega)
  have d2 : c = _ := prim_times (xs4 a b c d) (j := 2) (by omega)
  have d3 : d = _ := prim_times (xs4 a b c d) (j := 3) (by omega)
  have k0 : e = _ := prim_times (xs4 e f g h) (j := 0) (by omega)
  have k1 : f = _ := prim_times (xs4 e f g h) (j := 1) (by omega)
  have k2 : g = _ := prim_times (xs4 e f g h) (j := 2) (by omega)
  have k3 : h = _ := prim_times (xs4 e f g h) (j := 3) (by omega)
  have hle := qdot_le a b c d e f g h
  by_cases hE : qdot a b c d e f g h * qdot a b c d e f g h = normI a b c d * normI e f g h
  · refine .inl ⟨?_,hE⟩
    obtain ⟨e1,e2,e3,e4,e5,e6⟩ := qdot_eq hE
    have hm := Int.mul_pos (normI_pos n1) (normI_pos n2)
    have hd : qdot a b c d e f g h ≠ 0 := fun e => by rw [e] at hE;omega
    have hn : normI e f g h ≠ 0 := by have := normI_pos n2;omega
    have hs : ∀ j,j < 4 → normI e f g h * xs4 a b c d j = qdot a b c d e f g h * xs4 e f g h j := fun j hj => by
      obtain rfl | rfl | rfl | rfl : j = 0 ∨ j = 1 ∨ j = 2 ∨ j = 3 := by omega
      all_goals
        simp only [xs4,normI,qdot]
        grind
    have p0 := primN_scale hn hd hs (j := 0) (by omega)
    have p1 := primN_scale hn hd hs (j := 1) (by omega)
    have p2 := primN_scale hn hd hs (j := 2) (by omega)
    have p3 := primN_scale hn hd hs (j := 3) (by omega)
    simp [p0,p1,p2,p3]
  · refine .inr ⟨?_,by omega⟩
    rw [Bool.eq_false_iff]
    intro hall
    simp only [decide_true,Bool.true_and,Bool.and_eq_true,decide_eq_true_eq] at hall
    obtain ⟨p0,p1,p2,p3⟩ := hall
    rw [← p0] at k0
    rw [← p1] at k1
    rw [← p2] at k2
    rw [← p3] at k3
    generalize primG (xs4 a b c d) = G at *
    generalize primG (xs4 e f g h) = H at *
    generalize primN (xs4 a b c d) 0 = x at *
    generalize primN (xs4 a b c d) 1 = y at *
    generalize primN (xs4 a b c d) 2 = z at *
    generalize primN (xs4 a b c d) 3 = u at *
    apply hE
    clear hle n1 n2 hp hq hE
    subst d0 d1 d2 d3 k0 k1 k2 k3
    unfold qdot normI
    grind
theorem mul_cases {a b c d e f g h : Int} (hq : qcode a b c d = 0) :
    ∃ x y z u v : Int,mulV a b c d e f g h = .tuple #[.agg #[.int .i64 x,.int .i64 y,.int .i64 z,.int .i64 u],.int .i64 v] ∧
      (v ≠ 0 ∨ v = 0 ∧ qcode e f g h = 0 ∧ qcode x y z u = 0 ∧ ∃ G : Int,G ≠ 0 ∧ a * e - b * f - c * g - d * h = G * x ∧ a * f + b * e + c * h - d * g = G * y ∧ a * g - b * h + c * e + d * f = G * z ∧ a * h + b * g - c * f + d * e = G * u) := by
  unfold mulV
  by_cases h2 : qcode e f g h = 0
  · have n1 := (qcode_ok hq).1
    have n2 := (qcode_ok h2).1
    have hne := qmul_ne n1 n2
    rw [if_pos (by unfold qcode2;rw [if_pos hq];exact h2)]
    unfold qmulX
    by_cases hp : primOk (xs4 (a * e - b * f - c * g - d * h) (a * f + b * e + c * h - d * g) (a * g - b * h + c * e + d * f) (a * h + b * g - c * f + d * e))
    · refine ⟨_,_,_,_,_,primV_ok hp,.inr ⟨rfl,h2,prim_code hne hp,_,fun e0 => ?_,prim_times (xs4 (a * e - b * f - c * g - d * h) (a * f + b * e + c * h - d * g) (a * g - b * h + c * e + d * f) (a * h + b * g - c * f + d * e)) (j := 0) (by omega),prim_times (xs4 (a * e - b * f - c * g - d * h) (a * f + b * e + c * h - d * g) (a * g - b * h + c * e + d * f) (a * h + b * g - c * f + d * e)) (j := 1) (by omega),prim_times (xs4 (a * e - b * f - c * g - d * h) (a * f + b * e + c * h - d * g) (a * g - b * h + c * e + d * f) (a * h + b * g - c * f + d * e)) (j := 2) (by omega),prim_times (xs4 (a * e - b * f - c * g - d * h) (a * f + b * e + c * h - d * g) (a * g - b * h + c * e + d * f) (a * h + b * g - c * f + d * e)) (j := 3) (by omega)⟩⟩
      refine hne ⟨?_,?_,?_,?_⟩
      · have := prim_times (xs4 (a * e - b * f - c * g - d * h) (a * f + b * e + c * h - d * g) (a * g - b * h + c * e + d * f) (a * h + b * g - c * f + d * e)) (j := 0) (by omega);rwa [e0,Int.zero_mul] at this
      · have := prim_times (xs4 (a * e - b * f - c * g - d * h) (a * f + b * e + c * h - d * g) (a * g - b * h + c * e + d * f) (a * h + b * g - c * f + d * e)) (j := 1) (by omega);rwa [e0,Int.zero_mul] at this
      · have := prim_times (xs4 (a * e - b * f - c * g - d * h) (a * f + b * e + c * h - d * g) (a * g - b * h + c * e + d * f) (a * h + b * g - c * f + d * e)) (j := 2) (by omega);rwa [e0,Int.zero_mul] at this
      · have := prim_times (xs4 (a * e - b * f - c * g - d * h) (a * f + b * e + c * h - d * g) (a * g - b * h + c * e + d * f) (a * h + b * g - c * f + d * e)) (j := 3) (by omega);rwa [e0,Int.zero_mul] at this
    · exact ⟨0,0,0,0,3,if_neg hp,.inl (by decide)⟩
  · have h3 : qcode2 a b c d e f g h ≠ 0 := by unfold qcode2;rw [if_pos hq];exact h2
    rw [if_neg h3]
    exact ⟨0,0,0,0,_,rfl,.inl h3⟩
theorem chord_scaled {a b c d e f g h a' b' c' d' e' f' g' h' G H n : Int} (hG : G ≠ 0) (hH : H ≠ 0) (hn : n ≠ 0)
    (h1 : G * G * normI a' b' c' d' = normI a b c d * n) (h2 : H * H * normI e' f' g' h' = normI e f g h * n) (h3 : G * H * qdot a' b' c' d' e' f' g' h' = qdot a b c d e f g h * n) :
    chordQ a' b' c' d' e' f' g' h' = chordQ a b c d e f g h := by
  have e1 : (G * H * (G * H)) * (qdot a' b' c' d' e' f' g' h' * qdot a' b' c' d' e' f' g' h') = (n * n) * (qdot a b c d e f g h * qdot a b c d e f g h) := by grind
  have e2 : (G * H * (G * H)) * (normI a' b' c' d' * normI e' f' g' h') = (n * n) * (normI a b c d * normI e f g h) := by grind
  have k1 : G * H * (G * H) ≠ 0 := fun e => by rcases Int.mul_eq_zero.1 e with e | e <;> rcases Int.mul_eq_zero.1 e with e | e <;> contradiction
  have k2 : n * n ≠ 0 := fun e => by rcases Int.mul_eq_zero.1 e with e | e <;> contradiction
  unfold chordQ
  rw [← Rat.divInt_mul_left k1 (n := qdot a' b' c' d' e' f' g' h' * qdot a' b' c' d' e' f' g' h'),e1,e2,Rat.divInt_mul_left k2]
theorem chord_right {a b c d e f g h i j k l : Int} {x y z u x' y' z' u' G H : Int} (hr : ¬ (i = 0 ∧ j = 0 ∧ k = 0 ∧ l = 0)) (hG : G ≠ 0) (hH : H ≠ 0)
    (g0 : a * i - b * j - c * k - d * l = G * x) (g1 : a * j + b * i + c * l - d * k = G * y) (g2 : a * k - b * l + c * i + d * j = G * z) (g3 : a * l + b * k - c * j + d * i = G * u)
    (k0 : e * i - f * j - g * k - h * l = H * x') (k1 : e * j + f * i + g * l - h * k = H * y') (k2 : e * k - f * l + g * i + h * j = H * z') (k3 : e * l + f * k - g * j + h * i = H * u') :
    chordQ x y z u x' y' z' u' = chordQ a b c d e f g h := by
  refine chord_scaled (n := normI i j k l) hG hH (by have := normI_pos hr;omega) ?_ ?_ ?_
  · have : G * G * normI x y z u = (G * x) * (G * x) + (G * y) * (G * y) + (G * z) * (G * z) + (G * u) * (G * u) := by unfold normI;grind
    rw [this,← g0,← g1,← g2,← g3];unfold normI;grind
  · have : H * H * normI x' y' z' u' = (H * x') * (H * x') + (H * y') * (H * y') + (H * z') * (H * z') + (H * u') * (H * u') := by unfold normI;grind
    rw [this,← k0,← k1,← k2,← k3];unfold normI;grind
  · have : G * H * qdot x y z u x' y' z' u' = (G * x) * (H * x') + (G * y) * (H * y') + (G * z) * (H * z') + (G * u) * (H * u') := by unfold qdot;grind
    rw [this,← g0,← g1,← g2,← g3,← k0,← k1,← k2,← k3];unfold qdot normI;grind
theorem chord_left {a b c d e f g h i j k l : Int} {x y z u x' y' z' u' G H : Int} (hr : ¬ (i = 0 ∧ j = 0 ∧ k = 0 ∧ l = 0)) (hG : G ≠ 0) (hH : H ≠ 0)
    (g0 : i * a - j * b - k * c - l * d = G * x) (g1 : i * b + j * a + k * d - l * c = G * y) (g2 : i * c - j * d + k * a + l * b = G * z) (g3 : i * d + j * c - k * b + l * a = G * u)
    (k0 : i * e - j * f - k * g - l * h = H * x') (k1 : i * f + j * e + k * h - l * g = H * y') (k2 : i * g - j * h + k * e + l * f = H * z') (k3 : i * h + j * g - k * f + l * e = H * u') :
    chordQ x y z u x' y' z' u' = chordQ a b c d e f g h := by
  refine chord_scaled (n := normI i j k l) hG hH (by have := normI_pos hr;omega) ?_ ?_ ?_
  · have : G * G * normI x y z u = (G * x) * (G * x) + (G * y) * (G * y) + (G * z) * (G * z) + (G * u) * (G * u) := by unfold normI;grind
    rw [this,← g0,← g1,← g2,← g3];unfold normI;grind
  · have : H * H * normI x' y' z' u' = (H * x') * (H * x') + (H * y') * (H * y') + (H * z') * (H * z') + (H * u') * (H * u') := by unfold normI;grind
    rw [this,← k0,← k1,← k2,← k3];unfold normI;grind
  · have : G * H * qdot x y z u x' y' z' u' = (G * x) * (H * x') + (G * y) * (H * y') + (G * z) * (H * z') + (G * u) * (H * u') := by unfold qdot;grind
    rw [this,← g0,← g1,← g2,← g3,← k0,← k1,← k2,← k3];unfold qdot normI;grind
end Go.Proofs.YtidfgdchcpmnfaaGreat
namespace Go.Proofs.YtidfgdchcpmnfaaGreat
open Go Go.RowKit
set_option linter.unusedSimpArgs false
set_option linter.unusedVariables false
set_option maxRecDepth 20000
theorem vc_of {G : Prop} (V : Prop) (h : V = G) (v : V) : G := h ▸ v
abbrev asT (α : Type) (x : α) : α := x
abbrev nilT (α : Type) : List α := []
abbrev natI (n : Nat) : Int := (n : Int)
abbrev intQ (n : Int) : Rat := (n : Rat)
abbrev sval.{u} {α : Sort u} {p : α → Prop} (x : Subtype p) : α := x.1
abbrev tB : Ty := .bool
abbrev tQuat : Ty := .pair tI (.pair tI (.pair tI (.pair tI .unit)))
abbrev tM : Ty := .list (.list tQ)
theorem v_quat {F : Nat → Prop} {w : World} (a b c d : Int) : vrep F w tQuat (.agg #[.int .i64 a,.int .i64 b,.int .i64 c,.int .i64 d]) (a,b,c,d,()) :=
  ⟨[.int .i64 a,.int .i64 b,.int .i64 c,.int .i64 d],rfl,[_],_,rfl,rfl,[_],_,rfl,rfl,[_],_,rfl,rfl,[_],_,rfl,rfl,rfl⟩
def cHI (pre : Int → Int → Int → Int → Prop) (g : Int → Int → Int → Int → Int) : Ctr := ⟨[tQuat],[tI],fun x => pre x.1.1 x.1.2.1 x.1.2.2.1 x.1.2.2.2.1,fun x => (g x.1.1 x.1.2.1 x.1.2.2.1 x.1.2.2.2.1,())⟩
abbrev QC4 : Type := (Int × Int × Int × Int × Unit) × Int × Unit
def qcV (x : QC4) : Value := .tuple #[.agg #[.int .i64 x.1.1,.int .i64 x.1.2.1,.int .i64 x.1.2.2.1,.int .i64 x.1.2.2.2.1],.int .i64 x.2.1]
def cHQ (pre : Int → Int → Int → Int → Prop) (g : Int → Int → Int → Int → QC4) : Ctr := ⟨[tQuat],[tQuat,tI],fun x => pre x.1.1 x.1.2.1 x.1.2.2.1 x.1.2.2.2.1,fun x => g x.1.1 x.1.2.1 x.1.2.2.1 x.1.2.2.2.1⟩
def cHHQ (g : Int → Int → Int → Int → Int → Int → Int → Int → QC4) : Ctr := ⟨[tQuat,tQuat],[tQuat,tI],fun x => True,fun x => g x.1.1 x.1.2.1 x.1.2.2.1 x.1.2.2.2.1 x.2.1.1 x.2.1.2.1 x.2.1.2.2.1 x.2.1.2.2.2.1⟩
def cQ2B (pre : Rat → Rat → Prop) (g : Rat → Rat → Bool) : Ctr := ⟨[tQ,tQ],[tB],fun x => pre x.1 x.2.1,fun x => (g x.1 x.2.1,())⟩
theorem cQ2B_ok {f : FuncId} {pre : Rat → Rat → Prop} {g : Rat → Rat → Bool} (h : ∀ (v u : Value) (x y : Rat) (w : World),RQ w v x → RQ w u y → pre x y → Calls Tryz.prog f #[v,u] w (GB (g x y) w)) : CtrOk Tryz.prog f (cQ2B pre g) := by
  intro F w vs x hF hvs hp
  obtain ⟨v,vs',rfl,h1,u,vs'',rfl,h2,h3⟩ := hvs
  have h3 : vs'' = [] := h3
  subst h3
  refine (h v u x.1 x.2.1 w (rat_v h1) (rat_v h2) hp).mono ?_
  rintro e w' ⟨rfl,hb⟩
  exact ⟨_,rfl,v_bool _,hb⟩
def cQ2I (pre : Rat → Rat → Prop) (g : Rat → Rat → Int) : Ctr := ⟨[tQ,tQ],[tI],fun x => pre x.1 x.2.1,fun x => (g x.1 x.2.1,())⟩
theorem cQ2I_ok {f : FuncId} {pre : Rat → Rat → Prop} {g : Rat → Rat → Int} (h : ∀ (v u : Value) (x y : Rat) (w : World),RQ w v x → RQ w u y → pre x y → Calls Tryz.prog f #[v,u] w (fun e w' => e = .returned (.int .i64 (g x y)) ∧ Below w.heap.size w w')) : CtrOk Tryz.prog f (cQ2I pre g) := by
  intro F w vs x hF hvs hp
  obtain ⟨v,vs',rfl,h1,u,vs'',rfl,h2,h3⟩ := hvs
  have h3 : vs'' = [] := h3
  subst h3
  refine (h v u x.1 x.2.1 w (rat_v h1) (rat_v h2) hp).mono ?_
  rintro e w' ⟨rfl,hb⟩
  exact ⟨_,rfl,v_int _,hb⟩
def cQI (pre : Rat → Prop) (g : Rat → Int) : Ctr := ⟨[tQ],[tI],fun x => pre x.1,fun x => (g x.1,())⟩
theorem cQI_ok {f : FuncId} {pre : Rat → Prop} {g : Rat → Int} (h : ∀ (v : Value) (x : Rat) (w : World),RQ w v x → pre x → Calls Tryz.prog f #[v] w (fun e w' => e = .returned (.int .i64 (g x)) ∧ Below w.heap.size w w')) : CtrOk Tryz.prog f (cQI pre g) := by
  intro F w vs x hF hvs hp
  obtain ⟨v,vs',rfl,h1,h3⟩ := hvs
  have h3 : vs' = [] := h3
  subst h3
  refine (h v x.1 w (rat_v h1) hp).mono ?_
  rintro e w' ⟨rfl,hb⟩
  exact ⟨_,rfl,v_int _,hb⟩
def wordP (i : Int) : Prop := -9223372036854775808 ≤ i ∧ i ≤ 9223372036854775807
def cIIQC : Ctr := ⟨[tI,tI],[tQ,tI],fun x => wordP x.1 ∧ wordP x.2.1 ∧ (show Int from x.2.1) ≠ 0,fun x => (Rat.divInt x.1 x.2.1,(0 : Int),())⟩
theorem cIIQC_ok {f : FuncId} (h : ∀ (i k : Int) (w : World),-9223372036854775808 ≤ i → i ≤ 9223372036854775807 → -9223372036854775808 ≤ k → k ≤ 9223372036854775807 → k ≠ 0 → Calls Tryz.prog f #[.int .i64 i,.int .i64 k] w (GQC (Rat.divInt i k) 0 w)) : CtrOk Tryz.prog f cIIQC := by
  intro F w vs x hF hvs hp
  obtain ⟨v,vs',rfl,h1,u,vs'',rfl,h2,h3⟩ := hvs
  have h3 : vs'' = [] := h3
  subst h3
  rw [int_v h1,int_v h2]
  refine (h _ _ w hp.1.1 hp.1.2 hp.2.1.1 hp.2.1.2 hp.2.2).mono ?_
  rintro e w' ⟨r,rfl,hr,hb⟩
  exact ⟨_,rfl,⟨[_,_],rfl,_,_,rfl,v_rat hr,_,_,rfl,v_int _,rfl⟩,hb⟩
def cB (b : Bool) : Ctr := ⟨[],[tB],fun x => True,fun x => (b,())⟩
def primT (xs : Nat → Int) : QC4 := if primOk xs then ((primN xs 0,primN xs 1,primN xs 2,primN xs 3,()),0,()) else ((0,0,0,0,()),3,())
theorem qc_prim (xs : Nat → Int) : qcV (primT xs) = primV xs := by
  unfold primT primV
  split <;> rfl
def conjT (a b c d : Int) : QC4 := if qcode a b c d = 0 then primT (xs4 a (-b) (-c) (-d)) else ((0,0,0,0,()),qcode a b c d,())
def canonT (a b c d : Int) : QC4 := if qcode a b c d = 0 then primT (xs4 a b c d) else ((0,0,0,0,()),qcode a b c d,())
theorem qc_canon (a b c d : Int) : qcV (canonT a b c d) = canonV a b c d := by
  unfold canonT canonV
  split
  · exact qc_prim _
  · rfl
def mulT (a b c d e f g h : Int) : QC4 := if qcode2 a b c d e f g h = 0 then primT (qmulX a b c d e f g h) else ((0,0,0,0,()),qcode2 a b c d e f g h,())
theorem qc_mul (a b c d e f g h : Int) : qcV (mulT a b c d e f g h) = mulV a b c d e f g h := by
  unfold mulT mulV
  split
  · exact qc_prim _
  · rfl
noncomputable def LQ : Lib := (((((((Lib.nil
  ).add 43 (cQ2 (fun x y => rsz x ≤ 190000000 ∧ rsz y ≤ 190000000) (· + ·)) (cQ2_ok fun v u x y w a b h => raddQ_any v u x y w a b h.1 h.2)
  ).add 44 (cQ2 (fun x y => rsz x ≤ 190000000 ∧ rsz y ≤ 190000000) (· * ·)) (cQ2_ok fun v u x y w a b h => rmulQ_any v u x y w a b h.1 h.2)
  ).add 111 (cQ1 (fun x => rsz x ≤ 190000000) (fun x => -x)) (cQ1_ok fun v x w a h => rnegQ_any v x w a (by omega))
  ).add 47 cIIQC (cIIQC_ok fun i k w h0 h1 h2 h3 hk => rofQ_any i k w h0 h1 h2 h3 hk)
  ).add 75 (cQ2B (fun x y => rsz x ≤ 190000000 ∧ rsz y ≤ 190000000) (fun x y => decide (x = y))) (cQ2B_ok fun v u x y w a b h => rsame_any v u x y w a b h.1 h.2)
  ).add 21 (cQ2B (fun x y => rsz x ≤ 190000000 ∧ rsz y ≤ 190000000) (fun x y => decide (x = y))) (cQ2B_ok fun v u x y w a b h => rsameRat_any v u x y w a b h.1 h.2)
  ).add 64 cIIQC (cIIQC_ok fun i k w h0 h1 h2 h3 hk => ofQ_any i k w h0 h1 h2 h3 hk)
end Go.Proofs.YtidfgdchcpmnfaaGreat
namespace Go.Proofs.YtidfgdchcpmnfaaGreat
open Go Go.RowKit
set_option maxRecDepth 100000
set_option maxHeartbeats 400000
set_option linter.unusedVariables false
set_option linter.unusedSimpArgs false
abbrev QL : Type := List Rat
abbrev QM : Type := List (List Rat)
def smallL (xs : QL) : Prop := ∀ q ∈ xs,rsz q ≤ 190000000
def smallM (m : QM) : Prop := ∀ r ∈ m,smallL r
theorem smallL.at_ {xs : QL} (h : smallL xs) (i : Nat) : rsz (xs.getD i 0) ≤ 190000000 := by
  by_cases hi : i < xs.length
  · rw [List.getD_eq_getElem?_getD,List.getElem?_eq_getElem hi,Option.getD_some]
    exact h _ (List.getElem_mem hi)
  · rw [List.getD_eq_getElem?_getD,List.getElem?_eq_none (by omega),Option.getD_none,rsz_zero];omega
theorem smallM.at_ {m : QM} (h : smallM m) (i : Nat) : smallL (m.getD i []) := by
  by_cases hi : i < m.length
  · rw [List.getD_eq_getElem?_getD,List.getElem?_eq_getElem hi,Option.getD_some]
    exact h _ (List.getElem_mem hi)
  · rw [List.getD_eq_getElem?_getD,List.getElem?_eq_none (by omega),Option.getD_none]
    intro q hq;cases hq
theorem take_next {α : Type} {xs ys : List α} {i : Nat} (d : α) (h : xs.take i = ys.take i) (h1 : i < xs.length) (h2 : i < ys.length) (e : xs.getD i d = ys.getD i d) : xs.take (i + 1) = ys.take (i + 1) := by
  rw [List.take_add_one,List.take_add_one,h]
  rw [List.getD_eq_getElem?_getD,List.getD_eq_getElem?_getD,List.getElem?_eq_getElem h1,List.getElem?_eq_getElem h2] at e
  rw [List.getElem?_eq_getElem h1,List.getElem?_eq_getElem h2]
  simp only [Option.getD_some] at e
  rw [e]
theorem wrap_id {n : Int} (h0 : -9223372036854775808 ≤ n) (h1 : n ≤ 9223372036854775807) : IntKind.wrap .i64 n = n := by
  unfold IntKind.wrap
  simp only [IntKind.bits,IntKind.signed,Bool.true_and,decide_eq_true_eq,Nat.reduceSub,Int.reducePow,ge_iff_le]
  split <;> omega
abbrev SLι {α : Type} (xs ys : List α) : Type := {i : Nat // xs.length = ys.length → i ≤ xs.length ∧ xs.take i = ys.take i}
def cSL : Ctr := ⟨[.list tQ,.list tQ],[tB],fun x => smallL x.1 ∧ smallL x.2.1 ∧ (show QL from x.1).length ≤ 1000000000,fun x => ((show QL from x.1) == (show QL from x.2.1),())⟩
theorem sameList_ctr : CtrOk Tryz.prog 121 cSL := by
  refine ctr_fn LQ [] Tryz.func121 rfl (by decide) (fun x => [.inv (SLι (α := Rat) x.1 x.2.1) (fun i => [(5,.val tI (i.1 : Int))]) (fun i => []) (fun i => (show QL from x.1).length + 1 - i.1) ⟨0,fun h => ⟨Nat.zero_le _,rfl⟩⟩ (fun _ => [])]) (fun x hp => ?_)
  obtain ⟨x,y,u⟩ := x
  change QL at x
  change QL at y
  refine vc_of (ifB (natI (List.length x) != natI (List.length y)) (True ∧ false = (x == y) ∧ True) ((0 = natI 0 ∧ True) ∧ ∀ (i : SLι x y),true = true ∧ ifB (decide (natI (sval i) < natI (List.length x))) ((0 ≤ natI (sval i) ∧ natI (sval i) < natI (List.length x) ∧ 0 ≤ natI (sval i) ∧ natI (sval i) < natI (List.length y) ∧ (rsz (List.getD x (Int.toNat (natI (sval i))) 0) ≤ 190000000 ∧ rsz (List.getD y (Int.toNat (natI (sval i))) 0) ≤ 190000000) ∧ True) ∧ ifB (!decide (List.getD x (Int.toNat (natI (sval i))) 0 = List.getD y (Int.toNat (natI (sval i))) 0)) (True ∧ false = (x == y) ∧ True) (∃ (i' : SLι x y),List.length x + 1 - sval i' < List.length x + 1 - sval i ∧ IntKind.wrap IntKind.i64 (natI (sval i) + 1) = natI (sval i') ∧ True)) (True ∧ true = (x == y) ∧ True))) (by kernel_rfl) ?_
  obtain ⟨hx,hy,hl⟩ := hp
  dsimp only [natI,sval,asT] at *
  refine ifB_iff.2 ⟨fun h => ⟨trivial,?_,trivial⟩,fun h => ⟨⟨rfl,trivial⟩,fun i => ⟨rfl,ifB_iff.2 ⟨fun h1 => ?_,fun h1 => ⟨trivial,?_,trivial⟩⟩⟩⟩⟩
  · simp only [bne_iff_ne,ne_eq,Int.natCast_inj] at h
    symm
    simp only [beq_eq_false_iff_ne]
    intro e;exact h (by rw [e])
  all_goals
    simp only [bne_eq_false_iff_eq,Int.natCast_inj] at h
    simp only [decide_eq_true_eq,decide_eq_false_iff_not,Int.ofNat_lt] at h1
    obtain ⟨i,hi⟩ := i
    obtain ⟨h2,h3⟩ := hi h
    dsimp only at h1 ⊢
  · refine ⟨⟨by omega,by omega,by omega,by omega,⟨hx.at_ _,hy.at_ _⟩,trivial⟩,ifB_iff.2 ⟨fun h4 => ⟨trivial,?_,trivial⟩,fun h4 => ?_⟩⟩
    · simp only [Bool.not_eq_true',decide_eq_false_iff_not,Int.toNat_natCast] at h4
      symm
      simp only [beq_eq_false_iff_ne]
      intro e;exact h4 (by rw [e])
    · simp only [Bool.not_eq_false',decide_eq_true_eq,Int.toNat_natCast] at h4
      refine ⟨⟨i + 1,fun _ => ⟨h1,take_next 0 h3 h1 (by omega) h4⟩⟩,by simp only;omega,?_,trivial⟩
      rw [wrap_id (by omega) (by omega)];rfl
  · symm
    simp only [beq_iff_eq]
    have : i = x.length := by omega
    rw [this,List.take_length,h,List.take_length] at h3
    exact h3
noncomputable def LS01 : Lib := LQ.add 24 (cIQ wordP (fun i => (i : Rat))) (cIQ_ok fun x w h => rIntQ_any x w h.1 h.2)
noncomputable def LS1 : Lib := LS01.add 121 cSL sameList_ctr
theorem sameRats_ctr : CtrOk Tryz.prog 82 cSL := by
  refine ctr_fn LS1 [] Tryz.func82 rfl (by decide) (fun x => []) (fun x hp => ?_)
  refine vc_of (((smallL (asT (List Rat) (Prod.fst x)) ∧ smallL (asT (List Rat) (Prod.fst (Prod.snd x))) ∧ List.length (asT (List Rat) (Prod.fst x)) ≤ 1000000000) ∧ True) ∧ True ∧ (asT (List Rat) (Prod.fst x) == asT (List Rat) (Prod.fst (Prod.snd x))) = (asT (List Rat) (Prod.fst x) == asT (List Rat) (Prod.fst (Prod.snd x))) ∧ True) (by kernel_rfl) ?_
  obtain ⟨x,y,u⟩ := x
  change QL at x
  change QL at y
  exact ⟨⟨hp,trivial⟩,trivial,rfl,trivial⟩
noncomputable def LS2 : Lib := LS1.add 82 cSL sameRats_ctr
abbrev e2 (m : QM) (i j : Nat) : Rat := (m.getD i []).getD j 0
theorem getD_all {α : Type} {p : α → Prop} {xs : List α} (h : ∀ x ∈ xs,p x) {i : Nat} (hi : i < xs.length) {d : α} : p (xs.getD i d) := by
  rw [List.getD_eq_getElem?_getD,List.getElem?_eq_getElem hi]
  exact h _ (List.getElem_mem hi)
abbrev Le3 : Type := {i : Nat // i ≤ 3}
end Go.Proofs.YtidfgdchcpmnfaaGreat
