/-
  Lemmas for the theorem vmats_holds, part 28 of 32.
-/
import Derived.Test.YtidfgdchcpmnfaaGreatMt18
import Derived.Test.YtidfgdchcpmnfaaGreatMt21
import Derived.Test.YtidfgdchcpmnfaaGreatMt27
namespace Go.Proofs.YtidfgdchcpmnfaaGreat
open Go Go.RowKit
set_option maxRecDepth 100000
set_option maxHeartbeats 4000000
set_option linter.unusedSimpArgs false
set_option linter.unusedVariables false
def okc (x : Int) : Prop := -1048576 ≤ x ∧ x ≤ 1048576
instance (x : Int) : Decidable (okc x) := by unfold okc;infer_instance
def qcode (a b c d : Int) : Int := if a = 0 ∧ b = 0 ∧ c = 0 ∧ d = 0 then 1 else if okc a ∧ okc b ∧ okc c ∧ okc d then 0 else 3
def gseq (xs : Nat → Int) : Nat → Int
  | 0 => 0
  | k + 1 => ((Int.gcd (gseq xs k) (xs k) : Nat) : Int)
def fseq (xs : Nat → Int) : Nat → Int
  | 0 => 0
  | k + 1 => if fseq xs k = 0 then xs k else fseq xs k
theorem gseq_isz {xs : Nat → Int} {K : Nat} : ∀ k,(∀ j,j < k → isz (xs j) ≤ K) → isz (gseq xs k) ≤ K
  | 0,_ => by show isz 0 ≤ K;rw [isz_zero];omega
  | k + 1,h => by
    have ih := gseq_isz k (fun j hj => h j (by omega))
    show isz ((Int.gcd (gseq xs k) (xs k) : Nat) : Int) ≤ K
    by_cases hx : xs k = 0
    · rw [hx,Int.gcd_zero_right]
      have : isz (((gseq xs k).natAbs : Nat) : Int) = isz (gseq xs k) := by unfold isz;simp
      omega
    · exact isz_gcd_le hx (h k (by omega))
theorem gseq_ne {xs : Nat → Int} {j : Nat} (hj : xs j ≠ 0) : ∀ k,j < k → gseq xs k ≠ 0
  | 0,h => by omega
  | k + 1,h => by
    show ((Int.gcd (gseq xs k) (xs k) : Nat) : Int) ≠ 0
    intro e
    have e' : Int.gcd (gseq xs k) (xs k) = 0 := by omega
    rw [Int.gcd_eq_zero_iff] at e'
    by_cases hk : j = k
    · subst hk;exact hj e'.2
    · exact gseq_ne hj k (by omega) e'.1
theorem sgn_zero_iff {x : Int} : sgn x = 0 ↔ x = 0 := by unfold sgn;exact Int.sign_eq_zero_iff_zero
def primG (xs : Nat → Int) : Int := if fseq xs 4 < 0 then -gseq xs 4 else gseq xs 4
def primN (xs : Nat → Int) (k : Nat) : Int := (xs k).fdiv (primG xs)
def primOk (xs : Nat → Int) : Prop := ∀ k,k < 4 → okc (primN xs k)
instance (xs : Nat → Int) : Decidable (primOk xs) := by unfold primOk;infer_instance
def quatV (a b c d : Int) : Value := .agg #[.int .i64 a,.int .i64 b,.int .i64 c,.int .i64 d]
def primV (xs : Nat → Int) : Value := if primOk xs then .tuple #[quatV (primN xs 0) (primN xs 1) (primN xs 2) (primN xs 3),.int .i64 0] else .tuple #[quatV 0 0 0 0,.int .i64 3]
theorem primV_ok {xs : Nat → Int} (h : primOk xs) : primV xs = .tuple #[quatV (primN xs 0) (primN xs 1) (primN xs 2) (primN xs 3),.int .i64 0] := if_pos h
theorem primG_ne {xs : Nat → Int} {j : Nat} (hj : j < 4) (h : xs j ≠ 0) : primG xs ≠ 0 := by
  have := gseq_ne h 4 hj
  unfold primG
  split <;> omega
def xs4 (a b c d : Int) : Nat → Int
  | 0 => a | 1 => b | 2 => c | _ => d
def nzB (q : Nat → Rat) : Bool := !allB 4 (fun i => decide (q i = 0))
theorem isz_fdiv_dvd {x y : Int} (hy : y ≠ 0) (h : y ∣ x) : isz (x.fdiv y) ≤ isz x := by
  obtain ⟨z,rfl⟩ := h
  rw [Int.mul_fdiv_cancel_left _ hy]
  exact isz_mono (by rw [Int.natAbs_mul];exact Nat.le_mul_of_pos_left _ (Int.natAbs_pos.2 hy))
def clearD (q : Nat → Rat) : Int := 1 * ((q 0).den : Int) * ((q 1).den : Int) * ((q 2).den : Int) * ((q 3).den : Int)
def clearXs (q : Nat → Rat) : Nat → Int := fun k => (q k).num * (clearD q).fdiv ((q k).den : Int)
theorem isz_word {x : Int} (h0 : -9223372036854775808 ≤ x) (h1 : x ≤ 9223372036854775807) : isz x ≤ 400000000 :=
  Nat.le_trans (isz_le (k := 3) (by rw [BB_eq];omega)) (by omega)
theorem qcode_ok {a b c d : Int} (h : qcode a b c d = 0) : ¬ (a = 0 ∧ b = 0 ∧ c = 0 ∧ d = 0) ∧ okc a ∧ okc b ∧ okc c ∧ okc d := by
  unfold qcode at h
  by_cases h1 : a = 0 ∧ b = 0 ∧ c = 0 ∧ d = 0
  · rw [if_pos h1] at h;omega
  · rw [if_neg h1] at h
    by_cases h2 : okc a ∧ okc b ∧ okc c ∧ okc d
    · exact ⟨h1,h2⟩
    · rw [if_neg h2] at h;omega
def conjV (a b c d : Int) : Value := if qcode a b c d = 0 then primV (xs4 a (-b) (-c) (-d)) else .tuple #[quatV 0 0 0 0,.int .i64 (qcode a b c d)]
theorem okc_mul {x y : Int} (hx : okc x) (hy : okc y) : -1099511627776 ≤ x * y ∧ x * y ≤ 1099511627776 := by
  unfold okc at hx hy
  have h1 : (x * y).natAbs ≤ 1048576 * 1048576 := by
    rw [Int.natAbs_mul]
    exact Nat.mul_le_mul (by omega) (by omega)
  omega
def normI (a b c d : Int) : Int := a * a + b * b + c * c + d * d
def qcode2 (a b c d e f g h : Int) : Int := if qcode a b c d = 0 then qcode e f g h else qcode a b c d
def qmulX (a b c d e f g h : Int) : Nat → Int := xs4 (a * e - b * f - c * g - d * h) (a * f + b * e + c * h - d * g) (a * g - b * h + c * e + d * f) (a * h + b * g - c * f + d * e)
def mulV (a b c d e f g h : Int) : Value := if qcode2 a b c d e f g h = 0 then primV (qmulX a b c d e f g h) else .tuple #[quatV 0 0 0 0,.int .i64 (qcode2 a b c d e f g h)]
theorem qmul_norm (a b c d e f g h : Int) : (a * e - b * f - c * g - d * h) * (a * e - b * f - c * g - d * h) + (a * f + b * e + c * h - d * g) * (a * f + b * e + c * h - d * g) + (a * g - b * h + c * e + d * f) * (a * g - b * h + c * e + d * f) + (a * h + b * g - c * f + d * e) * (a * h + b * g - c * f + d * e) = normI a b c d * normI e f g h := by
  unfold normI;grind
theorem normI_pos {a b c d : Int} (h : ¬ (a = 0 ∧ b = 0 ∧ c = 0 ∧ d = 0)) : 0 < normI a b c d := by
  have s : ∀ x : Int,0 ≤ x * x := fun x => by
    rcases Int.le_total 0 x with h | h
    · exact Int.mul_nonneg h h
    · exact Int.mul_nonneg_of_nonpos_of_nonpos h h
  have p : ∀ x : Int,x ≠ 0 → 0 < x * x := fun x hx => by
    rcases Int.lt_or_gt_of_ne hx with h | h
    · exact Int.mul_pos_of_neg_of_neg h h
    · exact Int.mul_pos h h
  unfold normI
  have := s a;have := s b;have := s c;have := s d
  by_cases ha : a = 0
  · by_cases hb : b = 0
    · by_cases hc : c = 0
      · have := p d (fun hd => h ⟨ha,hb,hc,hd⟩);omega
      · have := p c hc;omega
    · have := p b hb;omega
  · have := p a ha;omega
theorem qmul_ne {a b c d e f g h : Int} (h1 : ¬ (a = 0 ∧ b = 0 ∧ c = 0 ∧ d = 0)) (h2 : ¬ (e = 0 ∧ f = 0 ∧ g = 0 ∧ h = 0)) :
    ¬ (a * e - b * f - c * g - d * h = 0 ∧ a * f + b * e + c * h - d * g = 0 ∧ a * g - b * h + c * e + d * f = 0 ∧ a * h + b * g - c * f + d * e = 0) := fun ⟨k0,k1,k2,k3⟩ => by
  have := qmul_norm a b c d e f g h
  rw [k0,k1,k2,k3] at this
  have := Int.mul_pos (normI_pos h1) (normI_pos h2)
  omega
theorem normI_bound {a b c d : Int} (oa : okc a) (ob : okc b) (oc : okc c) (od : okc d) : -8796093022208 ≤ normI a b c d ∧ normI a b c d ≤ 8796093022208 := by
  obtain ⟨p0,p1⟩ := okc_mul oa oa
  obtain ⟨p2,p3⟩ := okc_mul ob ob
  obtain ⟨p4,p5⟩ := okc_mul oc oc
  obtain ⟨p6,p7⟩ := okc_mul od od
  unfold normI;omega
def qdot (a b c d e f g h : Int) : Int := a * e + b * f + c * g + d * h
theorem qdot_bound {a b c d e f g h : Int} (oa : okc a) (ob : okc b) (oc : okc c) (od : okc d) (oe : okc e) (of : okc f) (og : okc g) (oh : okc h) : -8796093022208 ≤ qdot a b c d e f g h ∧ qdot a b c d e f g h ≤ 8796093022208 := by
  obtain ⟨p0,p1⟩ := okc_mul oa oe
  obtain ⟨p2,p3⟩ := okc_mul ob of
  obtain ⟨p4,p5⟩ := okc_mul oc og
  obtain ⟨p6,p7⟩ := okc_mul od oh
  unfold qdot;omega
def chordQ (a b c d e f g h : Int) : Rat := ((1 : Int) : Rat) - Rat.divInt (qdot a b c d e f g h * qdot a b c d e f g h) (normI a b c d * normI e f g h)
theorem isz_13 {x : Int} (h0 : -8796093022208 ≤ x) (h1 : x ≤ 8796093022208) : isz x ≤ 2 :=
  isz_le (by rw [BB_eq];omega)
def omSum (s : Nat → Int) (e : Nat → Nat → Rat) : Nat → Rat
  | 0 => ((1 : Int) : Rat)
  | k + 1 => omSum s e k + ((s k : Int) : Rat) * e k k
theorem omSum_rsz {s : Nat → Int} {e : Nat → Nat → Rat} {K : Nat} (hs : ∀ k,k < 3 → rsz ((s k : Int) : Rat) ≤ 1) (he : ∀ k,k < 3 → rsz (e k k) ≤ K) : ∀ k,k ≤ 3 → rsz (omSum s e k) ≤ k * (K + 2) + 1
  | 0,_ => by
    show rsz ((1 : Int) : Rat) ≤ _
    have : rsz ((1 : Int) : Rat) ≤ 1 := by decide +kernel
    omega
  | k + 1,hk => by
    have ih := omSum_rsz hs he k (by omega)
    have a := rsz_mul ((s k : Int) : Rat) (e k k)
    have b := rsz_add (omSum s e k) (((s k : Int) : Rat) * e k k)
    have c := hs k (by omega)
    have d := he k (by omega)
    show rsz (omSum s e k + ((s k : Int) : Rat) * e k k) ≤ _
    rw [Nat.succ_mul]
    omega
theorem clearD_dvd (q : Nat → Rat) {k : Nat} (hk : k < 4) : ((q k).den : Int) ∣ clearD q := by
  unfold clearD
  have : k = 0 ∨ k = 1 ∨ k = 2 ∨ k = 3 := by omega
  rcases this with rfl | rfl | rfl | rfl
  · exact Int.dvd_mul_of_dvd_left (Int.dvd_mul_of_dvd_left (Int.dvd_mul_of_dvd_left (Int.dvd_mul_left _ _)))
  · exact Int.dvd_mul_of_dvd_left (Int.dvd_mul_of_dvd_left (Int.dvd_mul_left _ _))
  · exact Int.dvd_mul_of_dvd_left (Int.dvd_mul_left _ _)
  · exact Int.dvd_mul_left _ _
theorem clearD_isz {q : Nat → Rat} {K : Nat} (h : ∀ k,k < 4 → rsz (q k) ≤ K) : isz (clearD q) ≤ 4 * K + 1 := by
  unfold clearD
  have h0 := h 0 (by omega)
  have h1 := h 1 (by omega)
  have h2 := h 2 (by omega)
  have h3 := h 3 (by omega)
  have d0 := rsz_den (q 0)
  have d1 := rsz_den (q 1)
  have d2 := rsz_den (q 2)
  have d3 := rsz_den (q 3)
  have m0 := isz_mul 1 ((q 0).den : Int)
  have m1 := isz_mul (1 * ((q 0).den : Int)) ((q 1).den : Int)
  have m2 := isz_mul (1 * ((q 0).den : Int) * ((q 1).den : Int)) ((q 2).den : Int)
  have m3 := isz_mul (1 * ((q 0).den : Int) * ((q 1).den : Int) * ((q 2).den : Int)) ((q 3).den : Int)
  have z : isz 1 ≤ 1 := by decide +kernel
  omega
theorem clearXs_isz {q : Nat → Rat} {K : Nat} (h : ∀ k,k < 4 → rsz (q k) ≤ K) {k : Nat} (hk : k < 4) : isz (clearXs q k) ≤ 5 * K + 1 := by
  unfold clearXs
  have h1 := isz_mul (q k).num ((clearD q).fdiv ((q k).den : Int))
  have h2 := isz_fdiv_dvd (x := clearD q) (y := ((q k).den : Int)) (by have := (q k).den_nz;omega) (clearD_dvd q hk)
  have h3 := clearD_isz h
  have h4 := rsz_num (q k)
  have h5 := h k hk
  omega
theorem clearD_ne (q : Nat → Rat) : clearD q ≠ 0 := by
  unfold clearD
  have h : ∀ k,((q k).den : Int) ≠ 0 := fun k => by have := (q k).den_nz;omega
  exact Int.mul_ne_zero (Int.mul_ne_zero (Int.mul_ne_zero (Int.mul_ne_zero (by omega) (h 0)) (h 1)) (h 2)) (h 3)
theorem clearXs_ne {q : Nat → Rat} {k : Nat} (hk : k < 4) (h : q k ≠ 0) : clearXs q k ≠ 0 := by
  unfold clearXs
  refine Int.mul_ne_zero (fun e => h (Rat.num_eq_zero.1 e)) (fun e => ?_)
  obtain ⟨z,hz⟩ := clearD_dvd q hk
  have hd : ((q k).den : Int) ≠ 0 := by have := (q k).den_nz;omega
  rw [hz,Int.mul_fdiv_cancel_left _ hd] at e
  rw [e,Int.mul_zero] at hz
  exact clearD_ne q hz
def denP (q : Nat → Rat) : Nat → Int
  | 0 => 1
  | k + 1 => denP q k * ((q k).den : Int)
theorem denP_isz {q : Nat → Rat} {K : Nat} (h : ∀ k,k < 4 → rsz (q k) ≤ K) : ∀ k,k ≤ 4 → isz (denP q k) ≤ k * K + 1
  | 0,_ => by
    show isz 1 ≤ _
    have : isz 1 ≤ 1 := by decide +kernel
    omega
  | k + 1,hk => by
    have ih := denP_isz h k (by omega)
    have m := isz_mul (denP q k) ((q k).den : Int)
    have a := h k (by omega)
    have b := rsz_den (q k)
    show isz (denP q k * ((q k).den : Int)) ≤ _
    rw [Nat.succ_mul]
    omega
def omRow (e : Nat → Nat → Rat) : Nat → Nat → Rat
  | 0 => fun | 0 => omSum (xs4 1 1 1 0) e 3 | 1 => e 2 1 - e 1 2 | 2 => e 0 2 - e 2 0 | _ => e 1 0 - e 0 1
  | 1 => fun | 0 => e 2 1 - e 1 2 | 1 => omSum (xs4 1 (-1) (-1) 0) e 3 | 2 => e 0 1 + e 1 0 | _ => e 0 2 + e 2 0
  | 2 => fun | 0 => e 0 2 - e 2 0 | 1 => e 0 1 + e 1 0 | 2 => omSum (xs4 (-1) 1 (-1) 0) e 3 | _ => e 1 2 + e 2 1
  | _ => fun | 0 => e 1 0 - e 0 1 | 1 => e 0 2 + e 2 0 | 2 => e 1 2 + e 2 1 | _ => omSum (xs4 (-1) (-1) 1 0) e 3
theorem omRow_rsz {e : Nat → Nat → Rat} {K : Nat} (h : ∀ i j,i < 3 → j < 3 → rsz (e i j) ≤ K) (hK : K ≤ 700000) : ∀ i k,k < 4 → rsz (omRow e i k) ≤ 50000000 := by
  have hs : ∀ x y z : Int,(x = 1 ∨ x = -1) → (y = 1 ∨ y = -1) → (z = 1 ∨ z = -1) → rsz (omSum (xs4 x y z 0) e 3) ≤ 50000000 := fun x y z hx hy hz => by
    have u : ∀ x : Int,(x = 1 ∨ x = -1) → rsz ((x : Int) : Rat) ≤ 1 := fun x hx => by rcases hx with e | e <;> rw [e] <;> decide +kernel
    have := omSum_rsz (s := xs4 x y z 0) (e := e) (K := K) (fun k hk => by
      obtain rfl | rfl | rfl : k = 0 ∨ k = 1 ∨ k = 2 := by omega
      · exact u x hx
      · exact u y hy
      · exact u z hz) (fun k hk => h k k hk hk) 3 (by omega)
    omega
  have hm : ∀ i j,i < 3 → j < 3 → rsz (e i j - e j i) ≤ 50000000 := fun i j hi hj => by have := rsz_sub (e i j) (e j i);have := h i j hi hj;have := h j i hj hi;omega
  have hp : ∀ i j,i < 3 → j < 3 → rsz (e i j + e j i) ≤ 50000000 := fun i j hi hj => by have := rsz_add (e i j) (e j i);have := h i j hi hj;have := h j i hj hi;omega
  intro i k hk
  obtain rfl | rfl | rfl | rfl : k = 0 ∨ k = 1 ∨ k = 2 ∨ k = 3 := by omega
  all_goals
    match i with
    | 0 => first | exact hs _ _ _ (by omega) (by omega) (by omega) | exact hm _ _ (by omega) (by omega) | exact hp _ _ (by omega) (by omega)
    | 1 => first | exact hs _ _ _ (by omega) (by omega) (by omega) | exact hm _ _ (by omega) (by omega) | exact hp _ _ (by omega) (by omega)
    | 2 => first | exact hs _ _ _ (by omega) (by omega) (by omega) | exact hm _ _ (by omega) (by omega) | exact hp _ _ (by omega) (by omega)
    | _ + 3 => first | exact hs _ _ _ (by omega) (by omega) (by omega) | exact hm _ _ (by omega) (by omega) | exact hp _ _ (by omega) (by omega)
def rotM (a b c d : Int) : Nat → Nat → Int
  | 0 => fun | 0 => a * a + b * b - c * c - d * d | 1 => 2 * (b * c - a * d) | _ => 2 * (b * d + a * c)
  | 1 => fun | 0 => 2 * (b * c + a * d) | 1 => a * a - b * b + c * c - d * d | _ => 2 * (c * d - a * b)
  | _ => fun | 0 => 2 * (b * d - a * c) | 1 => 2 * (c * d + a * b) | _ => a * a - b * b - c * c + d * d
def rotQ (a b c d : Int) (i j : Nat) : Rat := Rat.divInt (rotM a b c d i j) (normI a b c d)
theorem rotM_bound {a b c d : Int} (oa : okc a) (ob : okc b) (oc : okc c) (od : okc d) {i j : Nat} (hi : i < 3) (hj : j < 3) : -8796093022208 ≤ rotM a b c d i j ∧ rotM a b c d i j ≤ 8796093022208 := by
  obtain ⟨maa0,maa1⟩ := okc_mul oa oa
  obtain ⟨mab0,mab1⟩ := okc_mul oa ob
  obtain ⟨mac0,mac1⟩ := okc_mul oa oc
  obtain ⟨mad0,mad1⟩ := okc_mul oa od
  obtain ⟨mbb0,mbb1⟩ := okc_mul ob ob
  obtain ⟨mbc0,mbc1⟩ := okc_mul ob oc
  obtain ⟨mbd0,mbd1⟩ := okc_mul ob od
  obtain ⟨mcc0,mcc1⟩ := okc_mul oc oc
  obtain ⟨mcd0,mcd1⟩ := okc_mul oc od
  obtain ⟨mdd0,mdd1⟩ := okc_mul od od
  obtain rfl | rfl | rfl : i = 0 ∨ i = 1 ∨ i = 2 := by omega
  all_goals
    obtain rfl | rfl | rfl : j = 0 ∨ j = 1 ∨ j = 2 := by omega
    all_goals
      simp only [rotM]
      omega
theorem rotQ_rsz {a b c d : Int} (oa : okc a) (ob : okc b) (oc : okc c) (od : okc d) (hN : normI a b c d ≠ 0) {i j : Nat} (hi : i < 3) (hj : j < 3) : rsz (rotQ a b c d i j) ≤ 10 := by
  have h1 := rotM_bound oa ob oc od hi hj
  have h2 := normI_bound oa ob oc od
  exact Nat.le_trans (rsz_divInt _ _ hN (k := 3) (isz_le (by rw [BB_eq];omega)) (isz_le (by rw [BB_eq];omega))) (by omega)
theorem gseq_dvd {xs : Nat → Int} : ∀ k j,j < k → gseq xs k ∣ xs j
  | 0,j,h => by omega
  | k + 1,j,h => by
    show ((Int.gcd (gseq xs k) (xs k) : Nat) : Int) ∣ xs j
    by_cases e : j = k
    · subst e;exact Int.gcd_dvd_right ..
    · exact Int.dvd_trans (Int.gcd_dvd_left ..) (gseq_dvd k j (by omega))
theorem primG_dvd {xs : Nat → Int} {j : Nat} (hj : j < 4) : primG xs ∣ xs j := by
  unfold primG
  split
  · exact Int.neg_dvd.2 (gseq_dvd 4 j hj)
  · exact gseq_dvd 4 j hj
theorem normI_rat {a b c d : Int} (h : normI a b c d ≠ 0) : ((normI a b c d : Int) : Rat) ≠ 0 := fun e => h (Rat.intCast_inj.1 (by simpa using e))
theorem rotQ_eq (a b c d : Int) (i j : Nat) : rotQ a b c d i j = ((rotM a b c d i j : Int) : Rat) / ((normI a b c d : Int) : Rat) := Rat.divInt_eq_div ..
theorem rotQ_turn {a b c d : Int} (h : normI a b c d ≠ 0) : turnB (rotQ a b c d) = true := by
  have hn := normI_rat h
  have hN : ((normI a b c d : Int) : Rat) = (a : Rat) * a + (b : Rat) * b + (c : Rat) * c + (d : Rat) * d := by unfold normI;simp only [Rat.intCast_add,Rat.intCast_mul]
  unfold turnB
  rw [Bool.and_eq_true]
  refine ⟨allB_iff.2 (fun i hi => allB_iff.2 (fun j hj => ?_)),?_⟩
  · unfold turnOk
    rw [decide_eq_true_eq]
    simp only [dotQ,rotQ_eq]
    generalize ((normI a b c d : Int) : Rat) = n at *
    obtain rfl | rfl | rfl : i = 0 ∨ i = 1 ∨ i = 2 := by omega
    all_goals
      obtain rfl | rfl | rfl : j = 0 ∨ j = 1 ∨ j = 2 := by omega
      all_goals
        simp only [rotM,idE,Rat.intCast_add,Rat.intCast_mul,Rat.intCast_sub]
        generalize (a : Rat) = a at *
        generalize (b : Rat) = b at *
        generalize (c : Rat) = c at *
        generalize (d : Rat) = d at *
        subst hN
        simp
        grind
  · rw [decide_eq_true_eq,det3]
    simp only [rotQ_eq]
    generalize ((normI a b c d : Int) : Rat) = n at *
    simp only [rotM,Rat.intCast_add,Rat.intCast_mul,Rat.intCast_sub]
    generalize (a : Rat) = a at *
    generalize (b : Rat) = b at *
    generalize (c : Rat) = c at *
    generalize (d : Rat) = d at *
    subst hN
    grind
theorem okc_fdiv {x G : Int} (hG : G ≠ 0) (hd : G ∣ x) (h : okc x) : okc (x.fdiv G) := by
  obtain ⟨y,rfl⟩ := hd
  rw [Int.mul_fdiv_cancel_left _ hG]
  have h1 : y.natAbs ≤ (G * y).natAbs := by rw [Int.natAbs_mul];exact Nat.le_mul_of_pos_left _ (Int.natAbs_pos.2 hG)
  unfold okc at *
  omega
theorem prim_rot {a b c d : Int} (hq : qcode a b c d = 0) : primOk (xs4 a b c d) := by
  obtain ⟨hne,oa,ob,oc,od⟩ := qcode_ok hq
  have hG : primG (xs4 a b c d) ≠ 0 := by
    by_cases h1 : a = 0
    · by_cases h2 : b = 0
      · by_cases h3 : c = 0
        · exact primG_ne (j := 3) (by omega) (fun e => hne ⟨h1,h2,h3,e⟩)
        · exact primG_ne (j := 2) (by omega) h3
      · exact primG_ne (j := 1) (by omega) h2
    · exact primG_ne (j := 0) (by omega) h1
  intro j hj
  refine okc_fdiv hG (primG_dvd hj) ?_
  obtain rfl | rfl | rfl | rfl : j = 0 ∨ j = 1 ∨ j = 2 ∨ j = 3 := by omega
  · exact oa
  · exact ob
  · exact oc
  · exact od
theorem prim_times (xs : Nat → Int) {j : Nat} (hj : j < 4) : xs j = primG xs * primN xs j := by
  obtain ⟨y,hy⟩ := primG_dvd (xs := xs) hj
  unfold primN
  by_cases hG : primG xs = 0
  · rw [hG] at hy ⊢;rw [hy];simp
  · conv => lhs;rw [hy]
    conv => rhs;rw [hy]
    rw [Int.mul_fdiv_cancel_left _ hG]
theorem lt3 {i : Nat} (h : i < 3) : i = 0 ∨ i = 1 ∨ i = 2 := by omega
theorem rotQ_scale {t : Int} (ht : t ≠ 0) (a b c d : Int) {i j : Nat} (hi : i < 3) (hj : j < 3) : rotQ (t * a) (t * b) (t * c) (t * d) i j = rotQ a b c d i j := by
  have h1 : normI (t * a) (t * b) (t * c) (t * d) = (t * t) * normI a b c d := by unfold normI;grind
  have h2 : rotM (t * a) (t * b) (t * c) (t * d) i j = (t * t) * rotM a b c d i j := by
    rcases lt3 hi with rfl | rfl | rfl
    all_goals
      rcases lt3 hj with rfl | rfl | rfl
      all_goals
        simp only [rotM]
        grind
  unfold rotQ
  rw [h1,h2]
  exact Rat.divInt_mul_left (fun e => (Int.mul_eq_zero.1 e).elim ht ht)
theorem rotQ_prim {a b c d : Int} (hne : ¬ (a = 0 ∧ b = 0 ∧ c = 0 ∧ d = 0)) {i j : Nat} (hi : i < 3) (hj : j < 3) :
    rotQ (primN (xs4 a b c d) 0) (primN (xs4 a b c d) 1) (primN (xs4 a b c d) 2) (primN (xs4 a b c d) 3) i j = rotQ a b c d i j := by
  have d0 : a = _ := prim_times (xs4 a b c d) (j := 0) (by omega)
  have d1 : b = _ := prim_times (xs4 a b c d) (j := 1) (by omega)
  have d2 : c = _ := prim_times (xs4 a b c d) (j := 2) (by omega)
  have d3 : d = _ := prim_times (xs4 a b c d) (j := 3) (by omega)
  have hG : primG (xs4 a b c d) ≠ 0 := fun e => by
    rw [e,Int.zero_mul] at d0 d1 d2 d3
    exact hne ⟨d0,d1,d2,d3⟩
  have := rotQ_scale hG (primN (xs4 a b c d) 0) (primN (xs4 a b c d) 1) (primN (xs4 a b c d) 2) (primN (xs4 a b c d) 3) hi hj
  rw [← d0,← d1,← d2,← d3] at this
  exact this.symm
theorem prim_code {a b c d : Int} (hne : ¬ (a = 0 ∧ b = 0 ∧ c = 0 ∧ d = 0)) (hp : primOk (xs4 a b c d)) :
    qcode (primN (xs4 a b c d) 0) (primN (xs4 a b c d) 1) (primN (xs4 a b c d) 2) (primN (xs4 a b c d) 3) = 0 := by
  have d0 : a = _ := prim_times (xs4 a b c d) (j := 0) (by omega)
  have d1 : b = _ := prim_times (xs4 a b c d) (j := 1) (by omega)
  have d2 : c = _ := prim_times (xs4 a b c d) (j := 2) (by omega)
  have d3 : d = _ := prim_times (xs4 a b c d) (j := 3) (by omega)
  unfold qcode
  rw [if_neg,if_pos ⟨hp 0 (by omega),hp 1 (by omega),hp 2 (by omega),hp 3 (by omega)⟩]
  rintro ⟨e0,e1,e2,e3⟩
  rw [e0,Int.mul_zero] at d0
  rw [e1,Int.mul_zero] at d1
  rw [e2,Int.mul_zero] at d2
  rw [e3,Int.mul_zero] at d3
  exact hne ⟨d0,d1,d2,d3⟩
theorem rotQ_conj (a b c d : Int) {i j : Nat} (hi : i < 3) (hj : j < 3) : rotQ a (-b) (-c) (-d) i j = rotQ a b c d j i := by
  have h1 : normI a (-b) (-c) (-d) = normI a b c d := by unfold normI;grind
  unfold rotQ
  rw [h1]
  congr 1
  rcases lt3 hi with rfl | rfl | rfl
  all_goals
    rcases lt3 hj with rfl | rfl | rfl
    all_goals
      simp only [rotM]
      grind
theorem rotQ_mul {a b c d e f g h : Int} (h1 : normI a b c d ≠ 0) (h2 : normI e f g h ≠ 0) {i j : Nat} (hi : i < 3) (hj : j < 3) :
    rotQ (a * e - b * f - c * g - d * h) (a * f + b * e + c * h - d * g) (a * g - b * h + c * e + d * f) (a * h + b * g - c * f + d * e) i j = dotQ (rotQ a b c d i) (fun k => rotQ e f g h k j) 3 := by
  have n1 := normI_rat h1
  have n2 := normI_rat h2
  have hN : normI (a * e - b * f - c * g - d * h) (a * f + b * e + c * h - d * g) (a * g - b * h + c * e + d * f) (a * h + b * g - c * f + d * e) = normI a b c d * normI e f g h := by unfold normI;grind
  have hM : rotM (a * e - b * f - c * g - d * h) (a * f + b * e + c * h - d * g) (a * g - b * h + c * e + d * f) (a * h + b * g - c * f + d * e) i j = rotM a b c d i 0 * rotM e f g h 0 j + rotM a b c d i 1 * rotM e f g h 1 j + rotM a b c d i 2 * rotM e f g h 2 j := by
    rcases lt3 hi with rfl | rfl | rfl
    all_goals
      rcases lt3 hj with rfl | rfl | rfl
      all_goals
        simp only [rotM]
        grind
  simp only [dotQ,rotQ_eq]
  rw [hN,hM]
  simp only [Rat.intCast_add,Rat.intCast_mul]
  generalize ((normI a b c d : Int) : Rat) = m at *
  generalize ((normI e f g h : Int) : Rat) = n at *
  generalize ((rotM a b c d i 0 : Int) : Rat) = x0
  generalize ((rotM a b c d i 1 : Int) : Rat) = x1
  generalize ((rotM a b c d i 2 : Int) : Rat) = x2
  generalize ((rotM e f g h 0 j : Int) : Rat) = y0
  generalize ((rotM e f g h 1 j : Int) : Rat) = y1
  generalize ((rotM e f g h 2 j : Int) : Rat) = y2
  grind
theorem rotQ_one {i j : Nat} (hi : i < 3) (hj : j < 3) : rotQ 1 0 0 0 i j = idE i j := by
  rcases lt3 hi with rfl | rfl | rfl
  all_goals
    rcases lt3 hj with rfl | rfl | rfl
    all_goals decide +kernel
theorem rotQ_orth {a b c d : Int} (h : normI a b c d ≠ 0) {i j : Nat} (hi : i < 3) (hj : j < 3) : dotQ (rotQ a b c d i) (rotQ a b c d j) 3 = idE i j := by
  have := rotQ_turn h
  unfold turnB at this
  rw [Bool.and_eq_true] at this
  have := allB_iff.1 (allB_iff.1 this.1 i hi) j hj
  simpa [turnOk] using this
theorem conj_rot {a b c d : Int} (hq : qcode a b c d = 0) : ∃ e f g h : Int,conjV a b c d = .tuple #[.agg #[.int .i64 e,.int .i64 f,.int .i64 g,.int .i64 h],.int .i64 0] ∧ qcode e f g h = 0 ∧ ∀ i j,i < 3 → j < 3 → rotQ e f g h i j = rotQ a b c d j i := by
  obtain ⟨hne,oa,ob,oc,od⟩ := qcode_ok hq
  have on : ∀ {x : Int},okc x → okc (-x) := fun h => by unfold okc at *;omega
  have hne' : ¬ (a = 0 ∧ -b = 0 ∧ -c = 0 ∧ -d = 0) := fun h => hne ⟨h.1,by omega,by omega,by omega⟩
  have hq' : qcode a (-b) (-c) (-d) = 0 := by
    unfold qcode
    rw [if_neg hne',if_pos ⟨oa,on ob,on oc,on od⟩]
  have hp := prim_rot hq'
  refine ⟨_,_,_,_,?_,prim_code hne' hp,fun i j hi hj => ?_⟩
  · unfold conjV;rw [if_pos hq,primV_ok hp];rfl
  · rw [rotQ_prim hne' hi hj,rotQ_conj a b c d hi hj]
theorem mul_rot {a b c d e f g h : Int} (hq : qcode a b c d = 0) (hq2 : qcode e f g h = 0) :
    mulV a b c d e f g h = .tuple #[.agg #[.int .i64 0,.int .i64 0,.int .i64 0,.int .i64 0],.int .i64 3] ∨
    ∃ x y z u : Int,mulV a b c d e f g h = .tuple #[.agg #[.int .i64 x,.int .i64 y,.int .i64 z,.int .i64 u],.int .i64 0] ∧ qcode x y z u = 0 ∧ ∀ i j,i < 3 → j < 3 → rotQ x y z u i j = dotQ (rotQ a b c d i) (fun k => rotQ e f g h k j) 3 := by
  have h1 := (qcode_ok hq).1
  have h2 := (qcode_ok hq2).1
  have hne := qmul_ne h1 h2
  unfold mulV
  rw [if_pos (by unfold qcode2;rw [if_pos hq];exact hq2)]
  unfold qmulX
  by_cases hp : primOk (xs4 (a * e - b * f - c * g - d * h) (a * f + b * e + c * h - d * g) (a * g - b * h + c * e + d * f) (a * h + b * g - c * f + d * e))
  · refine .inr ⟨_,_,_,_,primV_ok hp,prim_code hne hp,fun i j hi hj => ?_⟩
    rw [rotQ_prim hne hi hj]
    exact rotQ_mul (by have := normI_pos h1;omega) (by have := normI_pos h2;omega) hi hj
  · exact .inl (if_neg hp)
end Go.Proofs.YtidfgdchcpmnfaaGreat
namespace Go.Proofs.YtidfgdchcpmnfaaGreat
open Go Go.RowKit
set_option linter.unusedSimpArgs false
set_option linter.unusedVariables false
set_option maxRecDepth 20000
theorem vc_of {G : Prop} (V : Prop) (h : V = G) (v : V) : G := h ▸ v
abbrev sval.{u} {α : Sort u} {p : α → Prop} (x : Subtype p) : α := x.1
abbrev asT (α : Type) (x : α) : α := x
abbrev nilT (α : Type) : List α := []
abbrev natI (n : Nat) : Int := (n : Int)
abbrev intQ (n : Int) : Rat := (n : Rat)
abbrev tB : Ty := .bool
abbrev tQuat : Ty := .pair tI (.pair tI (.pair tI (.pair tI .unit)))
abbrev tM : Ty := .list (.list tQ)
theorem v_quat {F : Nat → Prop} {w : World} (a b c d : Int) : vrep F w tQuat (.agg #[.int .i64 a,.int .i64 b,.int .i64 c,.int .i64 d]) (a,b,c,d,()) :=
  ⟨[.int .i64 a,.int .i64 b,.int .i64 c,.int .i64 d],rfl,[_],_,rfl,rfl,[_],_,rfl,rfl,[_],_,rfl,rfl,[_],_,rfl,rfl,rfl⟩
def cHI (pre : Int → Int → Int → Int → Prop) (g : Int → Int → Int → Int → Int) : Ctr := ⟨[tQuat],[tI],fun x => pre x.1.1 x.1.2.1 x.1.2.2.1 x.1.2.2.2.1,fun x => (g x.1.1 x.1.2.1 x.1.2.2.1 x.1.2.2.2.1,())⟩
abbrev QC4 : Type := (Int × Int × Int × Int × Unit) × Int × Unit
def qcV (x : QC4) : Value := .tuple #[.agg #[.int .i64 x.1.1,.int .i64 x.1.2.1,.int .i64 x.1.2.2.1,.int .i64 x.1.2.2.2.1],.int .i64 x.2.1]
def cHQ (pre : Int → Int → Int → Int → Prop) (g : Int → Int → Int → Int → QC4) : Ctr := ⟨[tQuat],[tQuat,tI],fun x => pre x.1.1 x.1.2.1 x.1.2.2.1 x.1.2.2.2.1,fun x => g x.1.1 x.1.2.1 x.1.2.2.1 x.1.2.2.2.1⟩
def cHHQ (g : Int → Int → Int → Int → Int → Int → Int → Int → QC4) : Ctr := ⟨[tQuat,tQuat],[tQuat,tI],fun x => True,fun x => g x.1.1 x.1.2.1 x.1.2.2.1 x.1.2.2.2.1 x.2.1.1 x.2.1.2.1 x.2.1.2.2.1 x.2.1.2.2.2.1⟩
def cQ2B (pre : Rat → Rat → Prop) (g : Rat → Rat → Bool) : Ctr := ⟨[tQ,tQ],[tB],fun x => pre x.1 x.2.1,fun x => (g x.1 x.2.1,())⟩
theorem cQ2B_ok {f : FuncId} {pre : Rat → Rat → Prop} {g : Rat → Rat → Bool} (h : ∀ (v u : Value) (x y : Rat) (w : World),RQ w v x → RQ w u y → pre x y → Calls Tryz.prog f #[v,u] w (GB (g x y) w)) : CtrOk Tryz.prog f (cQ2B pre g) := by
  intro F w vs x hF hvs hp
  obtain ⟨v,vs',rfl,h1,u,vs'',rfl,h2,h3⟩ := hvs
  have h3 : vs'' = [] := h3
  subst h3
  refine (h v u x.1 x.2.1 w (rat_v h1) (rat_v h2) hp).mono ?_
  rintro e w' ⟨rfl,hb⟩
  exact ⟨_,rfl,v_bool _,hb⟩
def cQ2I (pre : Rat → Rat → Prop) (g : Rat → Rat → Int) : Ctr := ⟨[tQ,tQ],[tI],fun x => pre x.1 x.2.1,fun x => (g x.1 x.2.1,())⟩
theorem cQ2I_ok {f : FuncId} {pre : Rat → Rat → Prop} {g : Rat → Rat → Int} (h : ∀ (v u : Value) (x y : Rat) (w : World),RQ w v x → RQ w u y → pre x y → Calls Tryz.prog f #[v,u] w (fun e w' => e = .returned (.int .i64 (g x y)) ∧ Below w.heap.size w w')) : CtrOk Tryz.prog f (cQ2I pre g) := by
  intro F w vs x hF hvs hp
  obtain ⟨v,vs',rfl,h1,u,vs'',rfl,h2,h3⟩ := hvs
  have h3 : vs'' = [] := h3
  subst h3
  refine (h v u x.1 x.2.1 w (rat_v h1) (rat_v h2) hp).mono ?_
  rintro e w' ⟨rfl,hb⟩
  exact ⟨_,rfl,v_int _,hb⟩
def cQI (pre : Rat → Prop) (g : Rat → Int) : Ctr := ⟨[tQ],[tI],fun x => pre x.1,fun x => (g x.1,())⟩
theorem cQI_ok {f : FuncId} {pre : Rat → Prop} {g : Rat → Int} (h : ∀ (v : Value) (x : Rat) (w : World),RQ w v x → pre x → Calls Tryz.prog f #[v] w (fun e w' => e = .returned (.int .i64 (g x)) ∧ Below w.heap.size w w')) : CtrOk Tryz.prog f (cQI pre g) := by
  intro F w vs x hF hvs hp
  obtain ⟨v,vs',rfl,h1,h3⟩ := hvs
  have h3 : vs' = [] := h3
  subst h3
  refine (h v x.1 w (rat_v h1) hp).mono ?_
  rintro e w' ⟨rfl,hb⟩
  exact ⟨_,rfl,v_int _,hb⟩
def wordP (i : Int) : Prop := -9223372036854775808 ≤ i ∧ i ≤ 9223372036854775807
def cIIQC : Ctr := ⟨[tI,tI],[tQ,tI],fun x => wordP x.1 ∧ wordP x.2.1 ∧ (show Int from x.2.1) ≠ 0,fun x => (Rat.divInt x.1 x.2.1,(0 : Int),())⟩
theorem cIIQC_ok {f : FuncId} (h : ∀ (i k : Int) (w : World),-9223372036854775808 ≤ i → i ≤ 9223372036854775807 → -9223372036854775808 ≤ k → k ≤ 9223372036854775807 → k ≠ 0 → Calls Tryz.prog f #[.int .i64 i,.int .i64 k] w (GQC (Rat.divInt i k) 0 w)) : CtrOk Tryz.prog f cIIQC := by
  intro F w vs x hF hvs hp
  obtain ⟨v,vs',rfl,h1,u,vs'',rfl,h2,h3⟩ := hvs
  have h3 : vs'' = [] := h3
  subst h3
  rw [int_v h1,int_v h2]
  refine (h _ _ w hp.1.1 hp.1.2 hp.2.1.1 hp.2.1.2 hp.2.2).mono ?_
  rintro e w' ⟨r,rfl,hr,hb⟩
  exact ⟨_,rfl,⟨[_,_],rfl,_,_,rfl,v_rat hr,_,_,rfl,v_int _,rfl⟩,hb⟩
def cB (b : Bool) : Ctr := ⟨[],[tB],fun x => True,fun x => (b,())⟩
def primT (xs : Nat → Int) : QC4 := if primOk xs then ((primN xs 0,primN xs 1,primN xs 2,primN xs 3,()),0,()) else ((0,0,0,0,()),3,())
theorem qc_prim (xs : Nat → Int) : qcV (primT xs) = primV xs := by
  unfold primT primV
  split <;> rfl
def conjT (a b c d : Int) : QC4 := if qcode a b c d = 0 then primT (xs4 a (-b) (-c) (-d)) else ((0,0,0,0,()),qcode a b c d,())
theorem qc_conj (a b c d : Int) : qcV (conjT a b c d) = conjV a b c d := by
  unfold conjT conjV
  split
  · exact qc_prim _
  · rfl
def canonT (a b c d : Int) : QC4 := if qcode a b c d = 0 then primT (xs4 a b c d) else ((0,0,0,0,()),qcode a b c d,())
def mulT (a b c d e f g h : Int) : QC4 := if qcode2 a b c d e f g h = 0 then primT (qmulX a b c d e f g h) else ((0,0,0,0,()),qcode2 a b c d e f g h,())
theorem qc_mul (a b c d e f g h : Int) : qcV (mulT a b c d e f g h) = mulV a b c d e f g h := by
  unfold mulT mulV
  split
  · exact qc_prim _
  · rfl
noncomputable def LQ : Lib := (((((((Lib.nil
  ).add 43 (cQ2 (fun x y => rsz x ≤ 190000000 ∧ rsz y ≤ 190000000) (· + ·)) (cQ2_ok fun v u x y w a b h => raddQ_any v u x y w a b h.1 h.2)
  ).add 44 (cQ2 (fun x y => rsz x ≤ 190000000 ∧ rsz y ≤ 190000000) (· * ·)) (cQ2_ok fun v u x y w a b h => rmulQ_any v u x y w a b h.1 h.2)
  ).add 111 (cQ1 (fun x => rsz x ≤ 190000000) (fun x => -x)) (cQ1_ok fun v x w a h => rnegQ_any v x w a (by omega))
  ).add 47 cIIQC (cIIQC_ok fun i k w h0 h1 h2 h3 hk => rofQ_any i k w h0 h1 h2 h3 hk)
  ).add 75 (cQ2B (fun x y => rsz x ≤ 190000000 ∧ rsz y ≤ 190000000) (fun x y => decide (x = y))) (cQ2B_ok fun v u x y w a b h => rsame_any v u x y w a b h.1 h.2)
  ).add 21 (cQ2B (fun x y => rsz x ≤ 190000000 ∧ rsz y ≤ 190000000) (fun x y => decide (x = y))) (cQ2B_ok fun v u x y w a b h => rsameRat_any v u x y w a b h.1 h.2)
  ).add 64 cIIQC (cIIQC_ok fun i k w h0 h1 h2 h3 hk => ofQ_any i k w h0 h1 h2 h3 hk)
end Go.Proofs.YtidfgdchcpmnfaaGreat
