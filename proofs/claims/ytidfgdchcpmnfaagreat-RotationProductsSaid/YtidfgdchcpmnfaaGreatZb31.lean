/-
  Lemmas for the statements about rotations, part 31 of 51.
-/
import Derived.Test.YtidfgdchcpmnfaaGreatZb21
import Derived.Test.YtidfgdchcpmnfaaGreatZb24
import Derived.Test.YtidfgdchcpmnfaaGreatZb27
import Derived.Test.YtidfgdchcpmnfaaGreatZb30
namespace Go.Proofs.YtidfgdchcpmnfaaGreat
open Go.RowKit
set_option maxRecDepth 100000
set_option maxHeartbeats 16000000
set_option linter.unusedSimpArgs false
set_option linter.unusedVariables false
theorem ofMatrix_size (p : Option Addr) (c R K : Nat) (L : Nat → Nat) (ok : Nat → Nat → Bool) (e : Nat → Nat → Rat) (w : World) (h : MatR w (.slice p R c) R L K ok e) (hR : ¬ R = 3) :
    Calls Tryz.prog 14 #[.slice p R c] w (GV (.tuple #[quatV 0 0 0 0,.int .i64 1]) w) := by
  obtain ⟨_,_,he,hf1,hf2⟩ := h.form
  cases he
  have hd : ¬ ((R : Int) = 3) := by omega
  have hd2 : ((R : Int) == 3) = false := by simpa using hd
  have hd3 : ((R : Int) != 3) = true := by simpa using hd
  have hW : Below w.heap.size w ((w.alloc (.cells #[.slice p R c] 23)).alloc (.cells #[.int .i64 0,.int .i64 0,.int .i64 0,.int .i64 0] 33)) := Below.al ((Below.refl _ _).alloc (Nat.le_refl _) _) _
  have hm := h.below hW
  have qa : Bx ((w.alloc (.cells #[.slice p R c] 23)).alloc (.cells #[.int .i64 0,.int .i64 0,.int .i64 0,.int .i64 0] 33)) w.heap.size [.slice p R c] := by have := (Bx.new w [.slice p R c] 23).alloc (.cells #[.int .i64 0,.int .i64 0,.int .i64 0,.int .i64 0] 33);simpa using this
  have qr : Bx ((w.alloc (.cells #[.slice p R c] 23)).alloc (.cells #[.int .i64 0,.int .i64 0,.int .i64 0,.int .i64 0] 33)) (w.heap.size + 1) [.int .i64 0,.int .i64 0,.int .i64 0,.int .i64 0] := by have := Bx.new (w.alloc (.cells #[.slice p R c] 23)) [.int .i64 0,.int .i64 0,.int .i64 0,.int .i64 0] 33;simpa using this
  clear hR
  go_enter Tryz.func14,Tryz.ntmps14
  have r0 := qr.c0
  have r1 := qr.c1
  have r2 := qr.c2
  have r3 := qr.c3
  have f0 := qr.f0
  have f1 := qr.f1
  have f2 := qr.f2
  have f3 := qr.f3
  go_wp2_with fail
  exact bodyPost_ret (v := .tuple #[.agg #[.int .i64 0,.int .i64 0,.int .i64 0,.int .i64 0],.int .i64 1]) (by simp [results,Tryz.results14,go_sem,r0,r1,r2,r3,f0,f1,f2,f3]) rfl ⟨rfl,hW⟩
theorem ofMatrix_form (b o c K : Nat) (L : Nat → Nat) (ok : Nat → Nat → Bool) (e : Nat → Nat → Rat) (w : World) (h : MatR w (.slice (some ⟨b,o,none⟩) 3 c) 3 L K ok e) (hK : K ≤ 1000000000) (hm0 : ¬ mcode 3 L ok = 0) :
    Calls Tryz.prog 14 #[.slice (some ⟨b,o,none⟩) 3 c] w (GV (.tuple #[quatV 0 0 0 0,.int .i64 1]) w) := by
  obtain ⟨_,_,he,hf1,hf2⟩ := h.form
  cases he
  have hW : Below w.heap.size w ((w.alloc (.cells #[.slice (some ⟨b,o,none⟩) 3 c] 23)).alloc (.cells #[.int .i64 0,.int .i64 0,.int .i64 0,.int .i64 0] 33)) := Below.al ((Below.refl _ _).alloc (Nat.le_refl _) _) _
  have hm := h.below hW
  have qa : Bx ((w.alloc (.cells #[.slice (some ⟨b,o,none⟩) 3 c] 23)).alloc (.cells #[.int .i64 0,.int .i64 0,.int .i64 0,.int .i64 0] 33)) w.heap.size [.slice (some ⟨b,o,none⟩) 3 c] := by have := (Bx.new w [.slice (some ⟨b,o,none⟩) 3 c] 23).alloc (.cells #[.int .i64 0,.int .i64 0,.int .i64 0,.int .i64 0] 33);simpa using this
  have qr : Bx ((w.alloc (.cells #[.slice (some ⟨b,o,none⟩) 3 c] 23)).alloc (.cells #[.int .i64 0,.int .i64 0,.int .i64 0,.int .i64 0] 33)) (w.heap.size + 1) [.int .i64 0,.int .i64 0,.int .i64 0,.int .i64 0] := by have := Bx.new (w.alloc (.cells #[.slice (some ⟨b,o,none⟩) 3 c] 23)) [.int .i64 0,.int .i64 0,.int .i64 0,.int .i64 0] 33;simpa using this
  have hq : (mcode 3 L ok == 0) = false := by simpa using hm0
  have hq2 : (mcode 3 L ok != 0) = true := by simpa using hm0
  clear hm0
  go_enter Tryz.func14,Tryz.ntmps14
  go_wp2_with fail
  refine (mcheck_any _ 3 K L ok e _ hm hK).mono ?_
  rintro x w1 ⟨rfl,hb1⟩
  have q1 := qr.to hb1
  have hB1 := Below.tr hW hb1
  have r0 := q1.c0
  have r1 := q1.c1
  have r2 := q1.c2
  have r3 := q1.c3
  have f0 := q1.f0
  have f1 := q1.f1
  have f2 := q1.f2
  have f3 := q1.f3
  go_wp2_with fail
  exact bodyPost_ret (v := .tuple #[.agg #[.int .i64 0,.int .i64 0,.int .i64 0,.int .i64 0],.int .i64 1]) (by simp [results,Tryz.results14,go_sem,r0,r1,r2,r3,f0,f1,f2,f3]) rfl ⟨rfl,Below.sets4 hB1 (b := w.heap.size + 1) (by omega) _ _ _ _⟩
theorem ofMatrix_wide (b o c K : Nat) (L : Nat → Nat) (ok : Nat → Nat → Bool) (e : Nat → Nat → Rat) (w : World) (h : MatR w (.slice (some ⟨b,o,none⟩) 3 c) 3 L K ok e) (hK : K ≤ 1000000000) (hm0 : mcode 3 L ok = 0) (hL : ¬ L 0 = 3) :
    Calls Tryz.prog 14 #[.slice (some ⟨b,o,none⟩) 3 c] w (GV (.tuple #[quatV 0 0 0 0,.int .i64 1]) w) := by
  obtain ⟨_,_,he,hf1,hf2⟩ := h.form
  cases he
  obtain ⟨_,_,q0,d0,he,hl,c0,hr⟩ := h.at_ (k := 0) (by omega)
  cases he
  rw [Nat.add_zero] at c0
  generalize hL0 : L 0 = l at *
  have HL0 := Lib.hid hL0
  clear hL0
  have hd : ¬ ((l : Int) = 3) := by omega
  have hd2 : ((l : Int) == 3) = false := by simpa using hd
  have hd3 : ((l : Int) != 3) = true := by simpa using hd
  have hW : Below w.heap.size w ((w.alloc (.cells #[.slice (some ⟨b,o,none⟩) 3 c] 23)).alloc (.cells #[.int .i64 0,.int .i64 0,.int .i64 0,.int .i64 0] 33)) := Below.al ((Below.refl _ _).alloc (Nat.le_refl _) _) _
  have hm := h.below hW
  have qa : Bx ((w.alloc (.cells #[.slice (some ⟨b,o,none⟩) 3 c] 23)).alloc (.cells #[.int .i64 0,.int .i64 0,.int .i64 0,.int .i64 0] 33)) w.heap.size [.slice (some ⟨b,o,none⟩) 3 c] := by have := (Bx.new w [.slice (some ⟨b,o,none⟩) 3 c] 23).alloc (.cells #[.int .i64 0,.int .i64 0,.int .i64 0,.int .i64 0] 33);simpa using this
  have qr : Bx ((w.alloc (.cells #[.slice (some ⟨b,o,none⟩) 3 c] 23)).alloc (.cells #[.int .i64 0,.int .i64 0,.int .i64 0,.int .i64 0] 33)) (w.heap.size + 1) [.int .i64 0,.int .i64 0,.int .i64 0,.int .i64 0] := by have := Bx.new (w.alloc (.cells #[.slice (some ⟨b,o,none⟩) 3 c] 23)) [.int .i64 0,.int .i64 0,.int .i64 0,.int .i64 0] 33;simpa using this
  have HM := Lib.hid hm0
  have c1 := cellB hW hl c0
  have hl1 : b < ((w.alloc (.cells #[.slice (some ⟨b,o,none⟩) 3 c] 23)).alloc (.cells #[.int .i64 0,.int .i64 0,.int .i64 0,.int .i64 0] 33)).heap.size := Nat.lt_of_lt_of_le hl hW.size
  clear hm0 hL
  go_enter Tryz.func14,Tryz.ntmps14
  go_wp2_with fail
  have hck := mcheck_any _ 3 K L ok e _ hm hK
  rw [HM.out] at hck
  refine hck.mono ?_
  rintro x w1 ⟨rfl,hb1⟩
  clear hck
  have q1 := qr.to hb1
  have a1 := qa.to hb1
  have a1c := a1.c0
  have c2 := cellB hb1 hl1 c1
  have hB1 := Below.tr hW hb1
  have r0 := q1.c0
  have r1 := q1.c1
  have r2 := q1.c2
  have r3 := q1.c3
  have f0 := q1.f0
  have f1 := q1.f1
  have f2 := q1.f2
  have f3 := q1.f3
  go_wp2_with fail
  exact bodyPost_ret (v := .tuple #[.agg #[.int .i64 0,.int .i64 0,.int .i64 0,.int .i64 0],.int .i64 1]) (by simp [results,Tryz.results14,go_sem,r0,r1,r2,r3,f0,f1,f2,f3]) rfl ⟨rfl,Below.sets4 hB1 (b := w.heap.size + 1) (by omega) _ _ _ _⟩
theorem ofMatrix_out (b o c K : Nat) (e : Nat → Nat → Rat) (w : World) (h : MatQ w (.slice (some ⟨b,o,none⟩) 3 c) 3 3 K e) (hK1 : 1 ≤ K) (hK : K ≤ 700000) (ht : turnB e = false) :
    Calls Tryz.prog 14 #[.slice (some ⟨b,o,none⟩) 3 c] w (GV (.tuple #[quatV 0 0 0 0,.int .i64 15]) w) := by
  obtain ⟨_,_,he,hf1,hf2⟩ := h.form
  cases he
  obtain ⟨_,_,q0,d0,he,hl,c0,hr⟩ := h.at_ (k := 0) (by omega)
  cases he
  rw [Nat.add_zero] at c0
  have hW : Below w.heap.size w ((w.alloc (.cells #[.slice (some ⟨b,o,none⟩) 3 c] 23)).alloc (.cells #[.int .i64 0,.int .i64 0,.int .i64 0,.int .i64 0] 33)) := Below.al ((Below.refl _ _).alloc (Nat.le_refl _) _) _
  have hm := h.below hW
  have qa : Bx ((w.alloc (.cells #[.slice (some ⟨b,o,none⟩) 3 c] 23)).alloc (.cells #[.int .i64 0,.int .i64 0,.int .i64 0,.int .i64 0] 33)) w.heap.size [.slice (some ⟨b,o,none⟩) 3 c] := by have := (Bx.new w [.slice (some ⟨b,o,none⟩) 3 c] 23).alloc (.cells #[.int .i64 0,.int .i64 0,.int .i64 0,.int .i64 0] 33);simpa using this
  have qr : Bx ((w.alloc (.cells #[.slice (some ⟨b,o,none⟩) 3 c] 23)).alloc (.cells #[.int .i64 0,.int .i64 0,.int .i64 0,.int .i64 0] 33)) (w.heap.size + 1) [.int .i64 0,.int .i64 0,.int .i64 0,.int .i64 0] := by have := Bx.new (w.alloc (.cells #[.slice (some ⟨b,o,none⟩) 3 c] 23)) [.int .i64 0,.int .i64 0,.int .i64 0,.int .i64 0] 33;simpa using this
  have HTU : Hid (∀ w',MatQ w' (.slice (some ⟨b,o,none⟩) 3 c) 3 3 K e → Calls Tryz.prog 49 #[.slice (some ⟨b,o,none⟩) 3 c] w' (GB false w')) := Lib.hid (fun w' h => by have := turning_any _ K e w' h hK1 hK;rw [ht] at this;exact this)
  clear ht
  have c1 := cellB hW hl c0
  have hl1 : b < ((w.alloc (.cells #[.slice (some ⟨b,o,none⟩) 3 c] 23)).alloc (.cells #[.int .i64 0,.int .i64 0,.int .i64 0,.int .i64 0] 33)).heap.size := Nat.lt_of_lt_of_le hl hW.size
  go_enter Tryz.func14,Tryz.ntmps14
  go_wp2_with fail
  refine (mcheckQ_any _ 3 3 K e _ hm (by omega) (by omega) (by omega) (by omega) (by omega)).mono ?_
  rintro x w1 ⟨rfl,hb1⟩
  have q1 := qr.to hb1
  have a1 := qa.to hb1
  have a1c := a1.c0
  have c2 := cellB hb1 hl1 c1
  have hB1 := Below.tr hW hb1
  go_wp2_with fail
  refine (HTU.out _ (hm.below hb1)).mono ?_
  rintro x w2 ⟨rfl,hb2⟩
  have q2 := q1.to hb2
  have hB2 := Below.tr hB1 hb2
  have r0 := q2.c0
  have r1 := q2.c1
  have r2 := q2.c2
  have r3 := q2.c3
  have f0 := q2.f0
  have f1 := q2.f1
  have f2 := q2.f2
  have f3 := q2.f3
  go_wp2_with fail
  exact bodyPost_ret (v := .tuple #[.agg #[.int .i64 0,.int .i64 0,.int .i64 0,.int .i64 0],.int .i64 15]) (by simp [results,Tryz.results14,go_sem,r0,r1,r2,r3,f0,f1,f2,f3]) rfl ⟨rfl,Below.sets4 hB2 (b := w.heap.size + 1) (by omega) _ _ _ _⟩
end Go.Proofs.YtidfgdchcpmnfaaGreat
namespace Go.Proofs.YtidfgdchcpmnfaaGreat
open Go.RowKit
set_option linter.unusedSimpArgs false
set_option linter.unusedVariables false
def ofMatV (R : Nat) (L : Nat → Nat) (ok : Nat → Nat → Bool) (e : Nat → Nat → Rat) : Value :=
  if R = 3 ∧ mcode 3 L ok = 0 ∧ L 0 = 3 then (if turnB e = true then omRes e else .tuple #[quatV 0 0 0 0,.int .i64 15]) else .tuple #[quatV 0 0 0 0,.int .i64 1]
theorem mcode_rows {L : Nat → Nat} {ok : Nat → Nat → Bool} (h : mcode 3 L ok = 0) : ∀ i,i < 3 → L i = L 0 ∧ ∀ j,j < L i → ok i j = true := by
  unfold mcode at h
  by_cases h1 : 1 ≤ 3 ∧ 3 ≤ 64 ∧ 1 ≤ L 0 ∧ L 0 ≤ 64 ∧ allB 3 (rowOk L ok) = true
  · intro i hi
    have h2 := allB_iff.1 h1.2.2.2.2 i hi
    unfold rowOk at h2
    rw [Bool.and_eq_true,decide_eq_true_eq] at h2
    exact ⟨h2.1,allB_iff.1 h2.2⟩
  · rw [if_neg h1] at h;omega
theorem ofMatrix_any (v : Value) (R K : Nat) (L : Nat → Nat) (ok : Nat → Nat → Bool) (e : Nat → Nat → Rat) (w : World) (h : MatR w v R L K ok e) (hK1 : 1 ≤ K) (hK : K ≤ 700000) :
    Calls Tryz.prog 14 #[v] w (GV (ofMatV R L ok e) w) := by
  obtain ⟨p,c,rfl,h1,h2⟩ := h.form
  unfold ofMatV
  by_cases hR : R = 3
  · subst hR
    obtain ⟨b,o,q,d,rfl,_,_,_⟩ := h.at_ (k := 0) (by omega)
    by_cases hm : mcode 3 L ok = 0
    · by_cases hL : L 0 = 3
      · rw [if_pos ⟨rfl,hm,hL⟩]
        have hr := mcode_rows hm
        have hQ : MatQ w (.slice (some ⟨b,o,none⟩) 3 c) 3 3 K e := MatR.congr h (fun i hi => (hr i hi).1.trans hL) (fun i hi j hj => (hr i hi).2 j hj) (fun _ _ _ _ => rfl)
        cases ht : turnB e
        · rw [if_neg (by simp)];exact ofMatrix_out b o c K e w hQ hK1 hK ht
        · rw [if_pos rfl];exact ofMatrix_turn b o c K e w hQ hK1 hK ht
      · rw [if_neg (fun a => hL a.2.2)];exact ofMatrix_wide b o c K L ok e w h (by omega) hm hL
    · rw [if_neg (fun a => hm a.2.1)];exact ofMatrix_form b o c K L ok e w h (by omega) hm
  · rw [if_neg (fun a => hR a.1)];exact ofMatrix_size p c R K L ok e w h hR
end Go.Proofs.YtidfgdchcpmnfaaGreat
namespace Go.Proofs.YtidfgdchcpmnfaaGreat
open Go.RowKit
set_option maxRecDepth 100000
set_option maxHeartbeats 16000000
set_option linter.unusedSimpArgs false
set_option linter.unusedVariables false
def qmulA (a b c d e f g h : Int) : Int := a * e - b * f - c * g - d * h
def qmulB (a b c d e f g h : Int) : Int := a * f + b * e + c * h - d * g
def qmulC (a b c d e f g h : Int) : Int := a * g - b * h + c * e + d * f
def qmulD (a b c d e f g h : Int) : Int := a * h + b * g - c * f + d * e
def qmulX (a b c d e f g h : Int) : Nat → Int := xs4 (a * e - b * f - c * g - d * h) (a * f + b * e + c * h - d * g) (a * g - b * h + c * e + d * f) (a * h + b * g - c * f + d * e)
def mulV (a b c d e f g h : Int) : Value := if qcode2 a b c d e f g h = 0 then primV (qmulX a b c d e f g h) else .tuple #[quatV 0 0 0 0,.int .i64 (qcode2 a b c d e f g h)]
theorem qmul_norm (a b c d e f g h : Int) : (a * e - b * f - c * g - d * h) * (a * e - b * f - c * g - d * h) + (a * f + b * e + c * h - d * g) * (a * f + b * e + c * h - d * g) + (a * g - b * h + c * e + d * f) * (a * g - b * h + c * e + d * f) + (a * h + b * g - c * f + d * e) * (a * h + b * g - c * f + d * e) = normI a b c d * normI e f g h := by
  unfold normI;grind
theorem normI_pos {a b c d : Int} (h : ¬ (a = 0 ∧ b = 0 ∧ c = 0 ∧ d = 0)) : 0 < normI a b c d := by
  have s : ∀ x : Int,0 ≤ x * x := fun x => by
    rcases Int.le_total 0 x with h | h
    · exact Int.mul_nonneg h h
    · exact Int.mul_nonneg_of_nonpos_of_nonpos h h
  have p : ∀ x : Int,x ≠ 0 → 0 < x * x := fun x hx => by
    rcases Int.lt_or_gt_of_ne hx with h | h
    · exact Int.mul_pos_of_neg_of_neg h h
    · exact Int.mul_pos h h
  unfold normI
  have := s a;have := s b;have := s c;have := s d
  by_cases ha : a = 0
  · by_cases hb : b = 0
    · by_cases hc : c = 0
      · have := p d (fun hd => h ⟨ha,hb,hc,hd⟩);omega
      · have := p c hc;omega
    · have := p b hb;omega
  · have := p a ha;omega
theorem qmul_ne {a b c d e f g h : Int} (h1 : ¬ (a = 0 ∧ b = 0 ∧ c = 0 ∧ d = 0)) (h2 : ¬ (e = 0 ∧ f = 0 ∧ g = 0 ∧ h = 0)) :
    ¬ (a * e - b * f - c * g - d * h = 0 ∧ a * f + b * e + c * h - d * g = 0 ∧ a * g - b * h + c * e + d * f = 0 ∧ a * h + b * g - c * f + d * e = 0) := fun ⟨k0,k1,k2,k3⟩ => by
  have := qmul_norm a b c d e f g h
  rw [k0,k1,k2,k3] at this
  have := Int.mul_pos (normI_pos h1) (normI_pos h2)
  omega
theorem qmul_ok (a b c d e f g h : Int) (w : World) (hq : qcode2 a b c d e f g h = 0) :
    Calls Tryz.prog 26 #[.agg #[.int .i64 a,.int .i64 b,.int .i64 c,.int .i64 d],.agg #[.int .i64 e,.int .i64 f,.int .i64 g,.int .i64 h]] w (GV (mulV a b c d e f g h) w) := by
  have hq1 : qcode a b c d = 0 := by
    unfold qcode2 at hq
    by_cases h1 : qcode a b c d = 0
    · exact h1
    · rw [if_neg h1] at hq;exact absurd hq h1
  have hq2 : qcode e f g h = 0 := by unfold qcode2 at hq;rwa [if_pos hq1] at hq
  obtain ⟨n1,oa,ob,oc,od⟩ := qcode_ok hq1
  obtain ⟨n2,oe,of,og,oh⟩ := qcode_ok hq2
  obtain ⟨mae0,mae1⟩ := okc_mul oa oe
  obtain ⟨maf0,maf1⟩ := okc_mul oa of
  obtain ⟨mag0,mag1⟩ := okc_mul oa og
  obtain ⟨mah0,mah1⟩ := okc_mul oa oh
  obtain ⟨mbe0,mbe1⟩ := okc_mul ob oe
  obtain ⟨mbf0,mbf1⟩ := okc_mul ob of
  obtain ⟨mbg0,mbg1⟩ := okc_mul ob og
  obtain ⟨mbh0,mbh1⟩ := okc_mul ob oh
  obtain ⟨mce0,mce1⟩ := okc_mul oc oe
  obtain ⟨mcf0,mcf1⟩ := okc_mul oc of
  obtain ⟨mcg0,mcg1⟩ := okc_mul oc og
  obtain ⟨mch0,mch1⟩ := okc_mul oc oh
  obtain ⟨mde0,mde1⟩ := okc_mul od oe
  obtain ⟨mdf0,mdf1⟩ := okc_mul od of
  obtain ⟨mdg0,mdg1⟩ := okc_mul od og
  obtain ⟨mdh0,mdh1⟩ := okc_mul od oh
  obtain ⟨za,zb,zc,zd,ze,hz⟩ := primV_form (qmulX a b c d e f g h)
  have HV : Hid (mulV a b c d e f g h = .tuple #[.agg #[.int .i64 za,.int .i64 zb,.int .i64 zc,.int .i64 zd],.int .i64 ze]) := Lib.hid (by unfold mulV;rw [if_pos hq,hz])
  have HRED : Hid (∀ w : World,Calls Tryz.prog 67 #[.int .i64 (a * e - b * f - c * g - d * h),.int .i64 (a * f + b * e + c * h - d * g),.int .i64 (a * g - b * h + c * e + d * f),.int .i64 (a * h + b * g - c * f + d * e)] w (GV (.tuple #[.agg #[.int .i64 za,.int .i64 zb,.int .i64 zc,.int .i64 zd],.int .i64 ze]) w)) := Lib.hid (fun w => by
    rw [← hz]
    exact reduced_any _ _ _ _ w (by omega) (by omega) (by omega) (by omega) (by omega) (by omega) (by omega) (by omega) (qmul_ne n1 n2))
  have hqt : (qcode2 a b c d e f g h == 0) = true := by simp [hq]
  have hqt2 : (qcode2 a b c d e f g h != 0) = false := by simp [hq]
  clear hq hq1 hq2 n1 n2 hz oa ob oc od oe of og oh
  have hB0 : Below w.heap.size w ((((w.alloc (.cells #[.int .i64 a,.int .i64 b,.int .i64 c,.int .i64 d] 33)).alloc (.cells #[.int .i64 e,.int .i64 f,.int .i64 g,.int .i64 h] 33)).alloc (.cells #[.int .i64 0,.int .i64 0,.int .i64 0,.int .i64 0] 33)).alloc (.cells #[.int .i64 a,.int .i64 b,.int .i64 c,.int .i64 d,.int .i64 e,.int .i64 f,.int .i64 g,.int .i64 h] 33)) := Below.al (Below.al (Below.al ((Below.refl _ _).alloc (Nat.le_refl _) _) _) _) _
  have xa : Bx ((((w.alloc (.cells #[.int .i64 a,.int .i64 b,.int .i64 c,.int .i64 d] 33)).alloc (.cells #[.int .i64 e,.int .i64 f,.int .i64 g,.int .i64 h] 33)).alloc (.cells #[.int .i64 0,.int .i64 0,.int .i64 0,.int .i64 0] 33)).alloc (.cells #[.int .i64 a,.int .i64 b,.int .i64 c,.int .i64 d,.int .i64 e,.int .i64 f,.int .i64 g,.int .i64 h] 33)) w.heap.size [.int .i64 a,.int .i64 b,.int .i64 c,.int .i64 d] := by have := (((Bx.new w [.int .i64 a,.int .i64 b,.int .i64 c,.int .i64 d] 33).alloc (.cells #[.int .i64 e,.int .i64 f,.int .i64 g,.int .i64 h] 33)).alloc (.cells #[.int .i64 0,.int .i64 0,.int .i64 0,.int .i64 0] 33)).alloc (.cells #[.int .i64 a,.int .i64 b,.int .i64 c,.int .i64 d,.int .i64 e,.int .i64 f,.int .i64 g,.int .i64 h] 33);simpa using this
  have xb : Bx ((((w.alloc (.cells #[.int .i64 a,.int .i64 b,.int .i64 c,.int .i64 d] 33)).alloc (.cells #[.int .i64 e,.int .i64 f,.int .i64 g,.int .i64 h] 33)).alloc (.cells #[.int .i64 0,.int .i64 0,.int .i64 0,.int .i64 0] 33)).alloc (.cells #[.int .i64 a,.int .i64 b,.int .i64 c,.int .i64 d,.int .i64 e,.int .i64 f,.int .i64 g,.int .i64 h] 33)) (w.heap.size + 1) [.int .i64 e,.int .i64 f,.int .i64 g,.int .i64 h] := by have := ((Bx.new (w.alloc (.cells #[.int .i64 a,.int .i64 b,.int .i64 c,.int .i64 d] 33)) [.int .i64 e,.int .i64 f,.int .i64 g,.int .i64 h] 33).alloc (.cells #[.int .i64 0,.int .i64 0,.int .i64 0,.int .i64 0] 33)).alloc (.cells #[.int .i64 a,.int .i64 b,.int .i64 c,.int .i64 d,.int .i64 e,.int .i64 f,.int .i64 g,.int .i64 h] 33);simpa using this
  have xr : Bx ((((w.alloc (.cells #[.int .i64 a,.int .i64 b,.int .i64 c,.int .i64 d] 33)).alloc (.cells #[.int .i64 e,.int .i64 f,.int .i64 g,.int .i64 h] 33)).alloc (.cells #[.int .i64 0,.int .i64 0,.int .i64 0,.int .i64 0] 33)).alloc (.cells #[.int .i64 a,.int .i64 b,.int .i64 c,.int .i64 d,.int .i64 e,.int .i64 f,.int .i64 g,.int .i64 h] 33)) (w.heap.size + 1 + 1) [.int .i64 0,.int .i64 0,.int .i64 0,.int .i64 0] := by have := (Bx.new ((w.alloc (.cells #[.int .i64 a,.int .i64 b,.int .i64 c,.int .i64 d] 33)).alloc (.cells #[.int .i64 e,.int .i64 f,.int .i64 g,.int .i64 h] 33)) [.int .i64 0,.int .i64 0,.int .i64 0,.int .i64 0] 33).alloc (.cells #[.int .i64 a,.int .i64 b,.int .i64 c,.int .i64 d,.int .i64 e,.int .i64 f,.int .i64 g,.int .i64 h] 33);simpa using this
  have xl : Bx ((((w.alloc (.cells #[.int .i64 a,.int .i64 b,.int .i64 c,.int .i64 d] 33)).alloc (.cells #[.int .i64 e,.int .i64 f,.int .i64 g,.int .i64 h] 33)).alloc (.cells #[.int .i64 0,.int .i64 0,.int .i64 0,.int .i64 0] 33)).alloc (.cells #[.int .i64 a,.int .i64 b,.int .i64 c,.int .i64 d,.int .i64 e,.int .i64 f,.int .i64 g,.int .i64 h] 33)) (w.heap.size + 1 + 1 + 1) [.int .i64 a,.int .i64 b,.int .i64 c,.int .i64 d,.int .i64 e,.int .i64 f,.int .i64 g,.int .i64 h] := by have := Bx.new (((w.alloc (.cells #[.int .i64 a,.int .i64 b,.int .i64 c,.int .i64 d] 33)).alloc (.cells #[.int .i64 e,.int .i64 f,.int .i64 g,.int .i64 h] 33)).alloc (.cells #[.int .i64 0,.int .i64 0,.int .i64 0,.int .i64 0] 33)) [.int .i64 a,.int .i64 b,.int .i64 c,.int .i64 d,.int .i64 e,.int .i64 f,.int .i64 g,.int .i64 h] 33;simpa using this
  go_enter Tryz.func26,Tryz.ntmps26
  go_wp2_with fail
  refine (checked_any a b c d e f g h _ _ xl).mono ?_
  rintro x w1 ⟨rfl,hb1⟩
  have ya := xa.to hb1
  have yb := xb.to hb1
  have yr := xr.to hb1
  have ya0 := ya.c0
  have ya1 := ya.c1
  have ya2 := ya.c2
  have ya3 := ya.c3
  have yb0 := yb.c0
  have yb1 := yb.c1
  have yb2 := yb.c2
  have yb3 := yb.c3
  go_wp2_with fail
  refine (HRED.out _).mono ?_
  rintro x w2 ⟨rfl,hb2⟩
  have zr := yr.to hb2
  have zr0 := zr.c0
  have zr1 := zr.c1
  have zr2 := zr.c2
  have zr3 := zr.c3
  have zf0 := zr.f0
  have zf1 := zr.f1
  have zf2 := zr.f2
  have zf3 := zr.f3
  go_wp2_with fail
  exact bodyPost_ret (v := .tuple #[.agg #[.int .i64 za,.int .i64 zb,.int .i64 zc,.int .i64 zd],.int .i64 ze]) (by simp [results,Tryz.results26,go_sem,zr0,zr1,zr2,zr3,zf0,zf1,zf2,zf3]) rfl ⟨by rw [HV.out],Below.sets4 (Below.tr (Below.tr hB0 hb1) hb2) (b := w.heap.size + 1 + 1) (by omega) _ _ _ _⟩
theorem qmul_no (a b c d e f g h : Int) (w : World) (hq : ¬ qcode2 a b c d e f g h = 0) :
    Calls Tryz.prog 26 #[.agg #[.int .i64 a,.int .i64 b,.int .i64 c,.int .i64 d],.agg #[.int .i64 e,.int .i64 f,.int .i64 g,.int .i64 h]] w (GV (mulV a b c d e f g h) w) := by
  have HV : Hid (mulV a b c d e f g h = .tuple #[.agg #[.int .i64 0,.int .i64 0,.int .i64 0,.int .i64 0],.int .i64 (qcode2 a b c d e f g h)]) := Lib.hid (if_neg hq)
  have hqt : (qcode2 a b c d e f g h == 0) = false := by simpa using hq
  have hqt2 : (qcode2 a b c d e f g h != 0) = true := by simpa using hq
  clear hq
  have hB0 : Below w.heap.size w ((((w.alloc (.cells #[.int .i64 a,.int .i64 b,.int .i64 c,.int .i64 d] 33)).alloc (.cells #[.int .i64 e,.int .i64 f,.int .i64 g,.int .i64 h] 33)).alloc (.cells #[.int .i64 0,.int .i64 0,.int .i64 0,.int .i64 0] 33)).alloc (.cells #[.int .i64 a,.int .i64 b,.int .i64 c,.int .i64 d,.int .i64 e,.int .i64 f,.int .i64 g,.int .i64 h] 33)) := Below.al (Below.al (Below.al ((Below.refl _ _).alloc (Nat.le_refl _) _) _) _) _
  have xa : Bx ((((w.alloc (.cells #[.int .i64 a,.int .i64 b,.int .i64 c,.int .i64 d] 33)).alloc (.cells #[.int .i64 e,.int .i64 f,.int .i64 g,.int .i64 h] 33)).alloc (.cells #[.int .i64 0,.int .i64 0,.int .i64 0,.int .i64 0] 33)).alloc (.cells #[.int .i64 a,.int .i64 b,.int .i64 c,.int .i64 d,.int .i64 e,.int .i64 f,.int .i64 g,.int .i64 h] 33)) w.heap.size [.int .i64 a,.int .i64 b,.int .i64 c,.int .i64 d] := by have := (((Bx.new w [.int .i64 a,.int .i64 b,.int .i64 c,.int .i64 d] 33).alloc (.cells #[.int .i64 e,.int .i64 f,.int .i64 g,.int .i64 h] 33)).alloc (.cells #[.int .i64 0,.int .i64 0,.int .i64 0,.int .i64 0] 33)).alloc (.cells #[.int .i64 a,.int .i64 b,.int .i64 c,.int .i64 d,.int .i64 e,.int .i64 f,.int .i64 g,.int .i64 h] 33);simpa using this
  have xb : Bx ((((w.alloc (.cells #[.int .i64 a,.int .i64 b,.int .i64 c,.int .i64 d] 33)).alloc (.cells #[.int .i64 e,.int .i64 f,.int .i64 g,.int .i64 h] 33)).alloc (.cells #[.int .i64 0,.int .i64 0,.int .i64 0,.int .i64 0] 33)).alloc (.cells #[.int .i64 a,.int .i64 b,.int .i64 c,.int .i64 d,.int .i64 e,.int .i64 f,.int .i64 g,.int .i64 h] 33)) (w.heap.size + 1) [.int .i64 e,.int .i64 f,.int .i64 g,.int .i64 h] := by have := ((Bx.new (w.alloc (.cells #[.int .i64 a,.int .i64 b,.int .i64 c,.int .i64 d] 33)) [.int .i64 e,.int .i64 f,.int .i64 g,.int .i64 h] 33).alloc (.cells #[.int .i64 0,.int .i64 0,.int .i64 0,.int .i64 0] 33)).alloc (.cells #[.int .i64 a,.int .i64 b,.int .i64 c,.int .i64 d,.int .i64 e,.int .i64 f,.int .i64 g,.int .i64 h] 33);simpa using this
  have xr : Bx ((((w.alloc (.cells #[.int .i64 a,.int .i64 b,.int .i64 c,.int .i64 d] 33)).alloc (.cells #[.int .i64 e,.int .i64 f,.int .i64 g,.int .i64 h] 33)).alloc (.cells #[.int .i64 0,.int .i64 0,.int .i64 0,.int .i64 0] 33)).alloc (.cells #[.int .i64 a,.int .i64 b,.int .i64 c,.int .i64 d,.int .i64 e,.int .i64 f,.int .i64 g,.int .i64 h] 33)) (w.heap.size + 1 + 1) [.int .i64 0,.int .i64 0,.int .i64 0,.int .i64 0] := by have := (Bx.new ((w.alloc (.cells #[.int .i64 a,.int .i64 b,.int .i64 c,.int .i64 d] 33)).alloc (.cells #[.int .i64 e,.int .i64 f,.int .i64 g,.int .i64 h] 33)) [.int .i64 0,.int .i64 0,.int .i64 0,.int .i64 0] 33).alloc (.cells #[.int .i64 a,.int .i64 b,.int .i64 c,.int .i64 d,.int .i64 e,.int .i64 f,.int .i64 g,.int .i64 h] 33);simpa using this
  have xl : Bx ((((w.alloc (.cells #[.int .i64 a,.int .i64 b,.int .i64 c,.int .i64 d] 33)).alloc (.cells #[.int .i64 e,.int .i64 f,.int .i64 g,.int .i64 h] 33)).alloc (.cells #[.int .i64 0,.int .i64 0,.int .i64 0,.int .i64 0] 33)).alloc (.cells #[.int .i64 a,.int .i64 b,.int .i64 c,.int .i64 d,.int .i64 e,.int .i64 f,.int .i64 g,.int .i64 h] 33)) (w.heap.size + 1 + 1 + 1) [.int .i64 a,.int .i64 b,.int .i64 c,.int .i64 d,.int .i64 e,.int .i64 f,.int .i64 g,.int .i64 h] := by have := Bx.new (((w.alloc (.cells #[.int .i64 a,.int .i64 b,.int .i64 c,.int .i64 d] 33)).alloc (.cells #[.int .i64 e,.int .i64 f,.int .i64 g,.int .i64 h] 33)).alloc (.cells #[.int .i64 0,.int .i64 0,.int .i64 0,.int .i64 0] 33)) [.int .i64 a,.int .i64 b,.int .i64 c,.int .i64 d,.int .i64 e,.int .i64 f,.int .i64 g,.int .i64 h] 33;simpa using this
  go_enter Tryz.func26,Tryz.ntmps26
  go_wp2_with fail
  refine (checked_any a b c d e f g h _ _ xl).mono ?_
  rintro x w1 ⟨rfl,hb1⟩
  have zr := xr.to hb1
  have zr0 := zr.c0
  have zr1 := zr.c1
  have zr2 := zr.c2
  have zr3 := zr.c3
  have zf0 := zr.f0
  have zf1 := zr.f1
  have zf2 := zr.f2
  have zf3 := zr.f3
  go_wp2_with fail
  exact bodyPost_ret (v := .tuple #[.agg #[.int .i64 0,.int .i64 0,.int .i64 0,.int .i64 0],.int .i64 (qcode2 a b c d e f g h)]) (by simp [results,Tryz.results26,go_sem,zr0,zr1,zr2,zr3,zf0,zf1,zf2,zf3]) rfl ⟨by rw [HV.out],Below.sets4 (Below.tr hB0 hb1) (b := w.heap.size + 1 + 1) (by omega) _ _ _ _⟩
theorem qmul_any (a b c d e f g h : Int) (w : World) : Calls Tryz.prog 26 #[.agg #[.int .i64 a,.int .i64 b,.int .i64 c,.int .i64 d],.agg #[.int .i64 e,.int .i64 f,.int .i64 g,.int .i64 h]] w (GV (mulV a b c d e f g h) w) := by
  by_cases hq : qcode2 a b c d e f g h = 0
  · exact qmul_ok a b c d e f g h w hq
  · exact qmul_no a b c d e f g h w hq
end Go.Proofs.YtidfgdchcpmnfaaGreat
namespace Go.Proofs.YtidfgdchcpmnfaaGreat
open Go.RowKit
theorem normI_bound {a b c d : Int} (oa : okc a) (ob : okc b) (oc : okc c) (od : okc d) : -8796093022208 ≤ normI a b c d ∧ normI a b c d ≤ 8796093022208 := by
  obtain ⟨p0,p1⟩ := okc_mul oa oa
  obtain ⟨p2,p3⟩ := okc_mul ob ob
  obtain ⟨p4,p5⟩ := okc_mul oc oc
  obtain ⟨p6,p7⟩ := okc_mul od od
  unfold normI;omega
end Go.Proofs.YtidfgdchcpmnfaaGreat
namespace Go.Proofs.YtidfgdchcpmnfaaGreat
open Go Go.RowKit
set_option linter.unusedSimpArgs false
set_option linter.unusedVariables false
set_option maxRecDepth 20000
def CA (p : Value → Bool) (w : World) (g : Nat) : Prop := ∀ i u,w.cell? ⟨g,i,none⟩ = some u → p u = true
section
variable {P : Program} {p : Value → Bool} (w : World)
def CAv (p : Value → Bool) (w : World) (v : Value) : Prop := ∀ g,v.ownBlock = some g → CA p w g
theorem CA.of_cells {p : Value → Bool} {w : World} {g : Nat} {cur : Array Value} {e : TypeId} (hg : w.heap[g]? = some (.cells cur e (0,0))) (h : ∀ u ∈ cur.toList,p u = true) : CA p w g := by
  intro i u hc
  rw [cell_of_row w g i cur e (0,0) hg] at hc
  exact h u (by rw [Array.mem_toList_iff];exact Array.mem_of_getElem? hc)
theorem CA.cells {w : World} {g : Nat} {cur : Array Value} {e : TypeId} (hg : w.heap[g]? = some (.cells cur e (0,0))) (h : CA p w g) : ∀ u ∈ cur.toList,p u = true := by
  intro u hu
  rw [Array.mem_toList_iff] at hu
  obtain ⟨i,hi,rfl⟩ := Array.mem_iff_getElem.1 hu
  exact h i _ (by rw [cell_of_row w g i cur e (0,0) hg];exact Array.getElem?_eq_getElem hi)
theorem zeroCells_ca {z : Array Value} (hz : ∀ u ∈ z.toList,p u = true) (n : Nat) : ∀ u ∈ (Builtin.zeroCells z n).toList,p u = true := by
  intro u hu
  rw [Array.mem_toList_iff] at hu
  obtain ⟨i,hi,rfl⟩ := Array.mem_iff_getElem.1 hu
  simp only [Builtin.zeroCells,Array.size_map,Array.size_range] at hi
  simp only [Builtin.zeroCells,Array.getElem_map,Array.getElem_range]
  have hs : 0 < z.size := by
    rcases Nat.eq_zero_or_pos z.size with h | h
    · rw [h] at hi;simp at hi
    · exact h
  have hlt : i % z.size < z.size := Nat.mod_lt _ hs
  rw [getElem!_pos z (i % z.size) hlt]
  exact hz _ (by rw [Array.mem_toList_iff];exact Array.getElem_mem hlt)
theorem run_append_ca (base : Nat) (t ty e : TypeId) (i : TypeInfo) (z : Value) (size bytes : Nat) (ht : P.underlying t = some (.slice e)) (hi : P.info? e = some i) (hz : i.zero = some z)
    (hsize : i.size = size) (hby : i.bytes = bytes) (hzs : z.cells.size = size) (hsz : 0 < size) (hzn : ∀ u ∈ z.cells.toList,p u = true)
    (v : Value) (n : Nat) (xs : List Value) (hown : w.ownsRow base e size v n xs) (hv : CAv p w v)
    (a : Addr) (m c : Nat) (news : List Value) (hl : news.length = m * size) (hnews : ∀ j u,news[j]? = some u → w.cell? (a.add j) = some u) (h1 : ∀ u ∈ news,u.oneCell' = true) (hnn : ∀ u ∈ news,p u = true) (hm : 0 < m)
    (h63 : n + m ≤ maxLen) (hbytes : (n + m) * bytes ≤ 140737488355328) (hbase : base ≤ w.heap.size) :
    ∃ g cap w',(Builtin.append_ #[t,t] ty #[v,.slice (some a) m c]).run P w = .ok (.slice (some ⟨g,0,none⟩) (n + m) cap) w' ∧ w'.ownsRow base e size (.slice (some ⟨g,0,none⟩) (n + m) cap) (n + m) (xs ++ news) ∧ w.grownBy w' v.ownBlock ∧ CA p w' g ∧ (v.ownBlock = some g ∨ g = w.heap.size) := by
  obtain ⟨v',w',hr,h2,h3,h4⟩ := run_append_own (P := P) w base t ty e i z size bytes ht hi hz hsize hby hzs hsz v n xs hown a m c news hl hnews h1 h63 hbytes hbase
  subst hsize
  subst hby
  have hsmall : n + m ≤ 9223372036854775807 := by simp only [maxLen] at h63;omega
  have hz0 := fun k => zeroCells_ca (z := z.cells) hzn k
  rcases hown.2 with ⟨rfl,rfl⟩ | ⟨g,cap,cur,rfl,hbg,hg,hnc,hcm,hcs,htake⟩
  · have hrun := run_append_nil (P := P) w t ty e i z ht hi hz a m c news hl hnews hm (by omega) (by have hb := hbytes;simp only [Nat.zero_add] at hb;omega)
    rw [hrun] at hr
    simp only [Result.ok.injEq] at hr
    obtain ⟨rfl,rfl⟩ := hr
    refine ⟨w.heap.size,_,_,by rw [Nat.zero_add];exact hrun,by simpa using h2,h3,?_,.inr rfl⟩
    refine CA.of_cells (heap_alloc_new w.drew _) (fun u hu => ?_)
    simp only [Array.toList_append,List.mem_append] at hu
    rcases hu with hu | hu
    · exact hnn u hu
    · exact hz0 _ u hu
  · by_cases hroom : n + m ≤ cap
    · have hfit : n * i.size + news.length ≤ cur.size := by rw [hl,hcs,← Nat.add_mul];exact Nat.mul_le_mul_right _ hroom
      have hrun := run_append_room (P := P) w t ty e i ht hi g n cap cur hg a m c news hl hnews h1 hroom hfit
      rw [hrun] at hr
      simp only [Result.ok.injEq] at hr
      obtain ⟨rfl,rfl⟩ := hr
      refine ⟨g,cap,_,hrun,h2,h3,?_,.inl rfl⟩
      have hcn := CA.cells hg (hv g rfl)
      refine CA.of_cells (setRow_heap w g cur _ e _ hg) (fun u hu => ?_)
      simp only [List.mem_append] at hu
      rcases hu with (hu | hu) | hu
      · exact hcn u (List.mem_of_mem_take hu)
      · exact hnn u hu
      · exact hcn u (List.mem_of_mem_drop hu)
    · have holds : ∀ j u,xs[j]? = some u → w.cell? ((⟨g,0,none⟩ : Addr).add j) = some u := hown.cells (g := g) rfl
      have hrun := run_append_grow (P := P) w t ty e i z ht hi hz ⟨g,0,none⟩ n cap xs hown.1 holds a m c news hl hnews (by omega) (by omega) (growslice_fits (by omega) hbytes)
      rw [hrun] at hr
      simp only [Result.ok.injEq] at hr
      obtain ⟨rfl,rfl⟩ := hr
      refine ⟨w.heap.size,_,_,hrun,h2,h3,?_,.inr rfl⟩
      have hcn := CA.cells hg (hv g rfl)
      refine CA.of_cells (heap_alloc_new w.drew _) (fun u hu => ?_)
      simp only [Array.toList_append,List.mem_append] at hu
      rcases hu with (hu | hu) | hu
      · rw [← htake] at hu;exact hcn u (List.mem_of_mem_take hu)
      · exact hnn u hu
      · exact hz0 _ u hu
theorem wp_append_ca {o : Oper} {a : Act} {K : Act → World → Prop} {Q : Exit → Act → World → Prop} (s x : Operand) (t : TypeId)
    (ho : o.op = .call { callee := .builtin .append,args := #[s,x],argTypes := #[t,t] })
    (base : Nat) (e : TypeId) (i : TypeInfo) (z : Value) (size bytes : Nat) (ht : P.underlying t = some (.slice e)) (hi : P.info? e = some i) (hz : i.zero = some z)
    (hsize : i.size = size) (hby : i.bytes = bytes) (hzs : z.cells.size = size) (hsz : 0 < size) (hzn : ∀ u ∈ z.cells.toList,p u = true)
    (v : Value) (n : Nat) (xs : List Value) (hs : a.eval s = v) (hown : w.ownsRow base e size v n xs) (hv : CAv p w v)
    (ad : Addr) (m c : Nat) (news : List Value) (hx : a.eval x = .slice (some ad) m c) (hl : news.length = m * size) (hnews : ∀ j u,news[j]? = some u → w.cell? (ad.add j) = some u) (h1 : ∀ u ∈ news,u.oneCell' = true) (hnn : ∀ u ∈ news,p u = true) (hm : 0 < m)
    (h63 : n + m ≤ maxLen) (hbytes : (n + m) * bytes ≤ 140737488355328) (hbase : base ≤ w.heap.size)
    (h : ∀ g cap w',w'.ownsRow base e size (.slice (some ⟨g,0,none⟩) (n + m) cap) (n + m) (xs ++ news) → w.grownBy w' v.ownBlock → CA p w' g → (v.ownBlock = some g ∨ g = w.heap.size) → K (a.put o.dst (.slice (some ⟨g,0,none⟩) (n + m) cap)) w') : o.wp P a w K Q := by
  obtain ⟨g,cap,w',hr,h2,h3,h4,h5⟩ := run_append_ca (P := P) w base t o.type e i z size bytes ht hi hz hsize hby hzs hsz hzn v n xs hown hv ad m c news hl hnews h1 hnn hm h63 hbytes hbase
  unfold Oper.wp execOp
  simp only [ho,resolve,invoke,builtin,Sem.run_bind,Sem.run_pure,Result.andThen_ok,List.map_toArray,List.map_cons,List.map_nil,hs,hx,hr]
  exact h g cap w' h2 h3 h4 h5
theorem wpList_append_ca {ops : Array Oper} {rest : List Oper} {o : Oper} {a : Act} {Q : Exit → Act → World → Prop} (hgd : o.guard = none) (s x : Operand) (t : TypeId)
    (ho : o.op = .call { callee := .builtin .append,args := #[s,x],argTypes := #[t,t] })
    (base : Nat) (e : TypeId) (i : TypeInfo) (z : Value) (size bytes : Nat) (ht : P.underlying t = some (.slice e)) (hi : P.info? e = some i) (hz : i.zero = some z)
    (hsize : i.size = size) (hby : i.bytes = bytes) (hzs : z.cells.size = size) (hsz : 0 < size) (hzn : ∀ u ∈ z.cells.toList,p u = true)
    (v : Value) (n : Nat) (xs : List Value) (hs : a.eval s = v) (hown : w.ownsRow base e size v n xs) (hv : CAv p w v)
    (ad : Addr) (m c : Nat) (news : List Value) (hx : a.eval x = .slice (some ad) m c) (hl : news.length = m * size) (hnews : ∀ j u,news[j]? = some u → w.cell? (ad.add j) = some u) (h1 : ∀ u ∈ news,u.oneCell' = true) (hnn : ∀ u ∈ news,p u = true) (hm : 0 < m)
    (h63 : n + m ≤ maxLen) (hbytes : (n + m) * bytes ≤ 140737488355328) (hbase : base ≤ w.heap.size)
    (h : ∀ g cap w',w'.ownsRow base e size (.slice (some ⟨g,0,none⟩) (n + m) cap) (n + m) (xs ++ news) → w.grownBy w' v.ownBlock → CA p w' g → (v.ownBlock = some g ∨ g = w.heap.size) → wpList P ops Q rest (a.put o.dst (.slice (some ⟨g,0,none⟩) (n + m) cap)) w') : wpList P ops Q (o :: rest) a w :=
  wpList_plain hgd fun _ hK => wp_append_ca w s x t ho base e i z size bytes ht hi hz hsize hby hzs hsz hzn v n xs hs hown hv ad m c news hx hl hnews h1 hnn hm h63 hbytes hbase fun g cap w' h2 h3 h4 h5 => hK _ _ (h g cap w' h2 h3 h4 h5)
end
end Go.Proofs.YtidfgdchcpmnfaaGreat
