/-
  Lemmas for the statements about rotations, part 47 of 51.
-/
import Derived.Test.YtidfgdchcpmnfaaGreatZb25
import Derived.Test.YtidfgdchcpmnfaaGreatZb46
namespace Go.Proofs.YtidfgdchcpmnfaaGreat
open Go.RowKit
set_option maxRecDepth 100000
set_option maxHeartbeats 4000000
set_option linter.unusedSimpArgs false
set_option linter.unusedVariables false
theorem rlist_any (a b c d : Int) (w : World) :
    Calls Tryz.prog 66 #[.agg #[.int .i64 a,.int .i64 b,.int .i64 c,.int .i64 d]] w fun e w' => e = .returned (.slice (some ⟨w.heap.size + 1,0,none⟩) 4 4) ∧ Bx w' (w.heap.size + 1) [.int .i64 a,.int .i64 b,.int .i64 c,.int .i64 d] ∧ Below w.heap.size w w' := by
  go_enter Tryz.func66,Tryz.ntmps66
  go_wp2
  go_ret
  exact ⟨rfl,by simpa using Bx.new (w.alloc (.cells #[.int .i64 a,.int .i64 b,.int .i64 c,.int .i64 d] 33)) [.int .i64 a,.int .i64 b,.int .i64 c,.int .i64 d] 3,((Below.refl _ _).alloc (Nat.le_refl _) _).alloc (by simp) _⟩
theorem rcheck_0 (a b c d : Int) (w : World) (HNZ : Hid (¬ (a = 0 ∧ b = 0 ∧ c = 0 ∧ d = 0))) (fa : (a == 0) = false) :
    Calls Tryz.prog 17 #[.agg #[.int .i64 a,.int .i64 b,.int .i64 c,.int .i64 d]] w fun e w' => e = .returned (.int .i64 (qcode a b c d)) ∧ Below w.heap.size w w' := by
  have hB0 : Below w.heap.size w (w.alloc (.cells #[.int .i64 a,.int .i64 b,.int .i64 c,.int .i64 d] 33)) := (Below.refl _ _).alloc (Nat.le_refl _) _
  go_enter Tryz.func17,Tryz.ntmps17
  go_wp2_with fail
  refine (rlist_any a b c d _).mono ?_
  rintro e w1 ⟨rfl,hx1,hb1⟩
  have hB1 := Below.tr hB0 hb1
  rw [World.size_alloc] at hx1 ⊢
  have c0 := hx1.c0
  have c1 := hx1.c1
  have c2 := hx1.c2
  have c3 := hx1.c3
  go_wp2_with fail
  go_loop [4,25,26,27,28,29,30,31,32,33,34,35,36,37,38,39,40] (fun i _ _ _ _ _ _ _ _ _ _ _ _ _ _ _ _ => ∃ k : Nat,k ≤ 4 ∧ i = .int .i64 (k : Nat) ∧ Hid (∀ j,j < k → okc ([a,b,c,d].getD j 0))) (fun i _ _ _ _ _ _ _ _ _ _ _ _ _ _ _ _ => 4 - (intOf i).toNat)
  case atStart => exact ⟨0,by omega,rfl,fun j hj => by omega⟩
  case round =>
    obtain ⟨k,hk4,rfl,hk⟩ := hrel
    obtain rfl | rfl | rfl | rfl | rfl : k = 0 ∨ k = 1 ∨ k = 2 ∨ k = 3 ∨ k = 4 := by omega
    · by_cases ha : okc a
      · have h1 : decide (a < -1048576) = false := by have := ha.1;simp;omega
        have h2 : decide (1048576 < a) = false := by have := ha.2;simp;omega
        have HO := Lib.hid ha
        clear ha
        go_wp2_with fail
        go_round
        case rel => exact ⟨1,by omega,by go_num,okl_step hk.out HO.out⟩
        case measure => simp [intOf]
      · have HF : Hid (qcode a b c d = 3) := by
          unfold Hid qcode
          rw [if_neg HNZ.out,if_neg (fun h => ha (by first | exact h.1 | exact h.2.1 | exact h.2.2.1 | exact h.2.2.2))]
        have h0 : a < -1048576 ∨ 1048576 < a := by unfold okc at ha;omega
        clear ha
        rcases h0 with h0 | h0
        · have h1 : decide (a < -1048576) = true := by simpa using h0
          have h2 : decide (1048576 < a) = false := by simp;omega
          go_wp2_with fail
          go_ret
          exact ⟨ret_int HF.out.symm,hB1⟩
        · have h2 : decide (1048576 < a) = true := by simpa using h0
          go_wp2_with fail
          go_ret
          exact ⟨ret_int HF.out.symm,hB1⟩
    · by_cases hb : okc b
      · have h1 : decide (b < -1048576) = false := by have := hb.1;simp;omega
        have h2 : decide (1048576 < b) = false := by have := hb.2;simp;omega
        have HO := Lib.hid hb
        clear hb
        go_wp2_with fail
        go_round
        case rel => exact ⟨2,by omega,by go_num,okl_step hk.out HO.out⟩
        case measure => simp [intOf]
      · have HF : Hid (qcode a b c d = 3) := by
          unfold Hid qcode
          rw [if_neg HNZ.out,if_neg (fun h => hb (by first | exact h.1 | exact h.2.1 | exact h.2.2.1 | exact h.2.2.2))]
        have h0 : b < -1048576 ∨ 1048576 < b := by unfold okc at hb;omega
        clear hb
        rcases h0 with h0 | h0
        · have h1 : decide (b < -1048576) = true := by simpa using h0
          have h2 : decide (1048576 < b) = false := by simp;omega
          go_wp2_with fail
          go_ret
          exact ⟨ret_int HF.out.symm,hB1⟩
        · have h2 : decide (1048576 < b) = true := by simpa using h0
          go_wp2_with fail
          go_ret
          exact ⟨ret_int HF.out.symm,hB1⟩
    · by_cases hc : okc c
      · have h1 : decide (c < -1048576) = false := by have := hc.1;simp;omega
        have h2 : decide (1048576 < c) = false := by have := hc.2;simp;omega
        have HO := Lib.hid hc
        clear hc
        go_wp2_with fail
        go_round
        case rel => exact ⟨3,by omega,by go_num,okl_step hk.out HO.out⟩
        case measure => simp [intOf]
      · have HF : Hid (qcode a b c d = 3) := by
          unfold Hid qcode
          rw [if_neg HNZ.out,if_neg (fun h => hc (by first | exact h.1 | exact h.2.1 | exact h.2.2.1 | exact h.2.2.2))]
        have h0 : c < -1048576 ∨ 1048576 < c := by unfold okc at hc;omega
        clear hc
        rcases h0 with h0 | h0
        · have h1 : decide (c < -1048576) = true := by simpa using h0
          have h2 : decide (1048576 < c) = false := by simp;omega
          go_wp2_with fail
          go_ret
          exact ⟨ret_int HF.out.symm,hB1⟩
        · have h2 : decide (1048576 < c) = true := by simpa using h0
          go_wp2_with fail
          go_ret
          exact ⟨ret_int HF.out.symm,hB1⟩
    · by_cases hd : okc d
      · have h1 : decide (d < -1048576) = false := by have := hd.1;simp;omega
        have h2 : decide (1048576 < d) = false := by have := hd.2;simp;omega
        have HO := Lib.hid hd
        clear hd
        go_wp2_with fail
        go_round
        case rel => exact ⟨4,by omega,by go_num,okl_step hk.out HO.out⟩
        case measure => simp [intOf]
      · have HF : Hid (qcode a b c d = 3) := by
          unfold Hid qcode
          rw [if_neg HNZ.out,if_neg (fun h => hd (by first | exact h.1 | exact h.2.1 | exact h.2.2.1 | exact h.2.2.2))]
        have h0 : d < -1048576 ∨ 1048576 < d := by unfold okc at hd;omega
        clear hd
        rcases h0 with h0 | h0
        · have h1 : decide (d < -1048576) = true := by simpa using h0
          have h2 : decide (1048576 < d) = false := by simp;omega
          go_wp2_with fail
          go_ret
          exact ⟨ret_int HF.out.symm,hB1⟩
        · have h2 : decide (1048576 < d) = true := by simpa using h0
          go_wp2_with fail
          go_ret
          exact ⟨ret_int HF.out.symm,hB1⟩
    · have HF : Hid (qcode a b c d = 0) := by
        unfold Hid qcode
        rw [if_neg HNZ.out,if_pos ⟨hk.out 0 (by omega),hk.out 1 (by omega),hk.out 2 (by omega),hk.out 3 (by omega)⟩]
      go_wp2_with fail
      go_ret
      exact ⟨ret_int HF.out.symm,hB1⟩
theorem rcheck_1 (a b c d : Int) (w : World) (HNZ : Hid (¬ (a = 0 ∧ b = 0 ∧ c = 0 ∧ d = 0))) (fa : (a == 0) = true) (fb : (b == 0) = false) :
    Calls Tryz.prog 17 #[.agg #[.int .i64 a,.int .i64 b,.int .i64 c,.int .i64 d]] w fun e w' => e = .returned (.int .i64 (qcode a b c d)) ∧ Below w.heap.size w w' := by
  have hB0 : Below w.heap.size w (w.alloc (.cells #[.int .i64 a,.int .i64 b,.int .i64 c,.int .i64 d] 33)) := (Below.refl _ _).alloc (Nat.le_refl _) _
  go_enter Tryz.func17,Tryz.ntmps17
  go_wp2_with fail
  refine (rlist_any a b c d _).mono ?_
  rintro e w1 ⟨rfl,hx1,hb1⟩
  have hB1 := Below.tr hB0 hb1
  rw [World.size_alloc] at hx1 ⊢
  have c0 := hx1.c0
  have c1 := hx1.c1
  have c2 := hx1.c2
  have c3 := hx1.c3
  go_wp2_with fail
  go_loop [4,25,26,27,28,29,30,31,32,33,34,35,36,37,38,39,40] (fun i _ _ _ _ _ _ _ _ _ _ _ _ _ _ _ _ => ∃ k : Nat,k ≤ 4 ∧ i = .int .i64 (k : Nat) ∧ Hid (∀ j,j < k → okc ([a,b,c,d].getD j 0))) (fun i _ _ _ _ _ _ _ _ _ _ _ _ _ _ _ _ => 4 - (intOf i).toNat)
  case atStart => exact ⟨0,by omega,rfl,fun j hj => by omega⟩
  case round =>
    obtain ⟨k,hk4,rfl,hk⟩ := hrel
    obtain rfl | rfl | rfl | rfl | rfl : k = 0 ∨ k = 1 ∨ k = 2 ∨ k = 3 ∨ k = 4 := by omega
    · by_cases ha : okc a
      · have h1 : decide (a < -1048576) = false := by have := ha.1;simp;omega
        have h2 : decide (1048576 < a) = false := by have := ha.2;simp;omega
        have HO := Lib.hid ha
        clear ha
        go_wp2_with fail
        go_round
        case rel => exact ⟨1,by omega,by go_num,okl_step hk.out HO.out⟩
        case measure => simp [intOf]
      · have HF : Hid (qcode a b c d = 3) := by
          unfold Hid qcode
          rw [if_neg HNZ.out,if_neg (fun h => ha (by first | exact h.1 | exact h.2.1 | exact h.2.2.1 | exact h.2.2.2))]
        have h0 : a < -1048576 ∨ 1048576 < a := by unfold okc at ha;omega
        clear ha
        rcases h0 with h0 | h0
        · have h1 : decide (a < -1048576) = true := by simpa using h0
          have h2 : decide (1048576 < a) = false := by simp;omega
          go_wp2_with fail
          go_ret
          exact ⟨ret_int HF.out.symm,hB1⟩
        · have h2 : decide (1048576 < a) = true := by simpa using h0
          go_wp2_with fail
          go_ret
          exact ⟨ret_int HF.out.symm,hB1⟩
    · by_cases hb : okc b
      · have h1 : decide (b < -1048576) = false := by have := hb.1;simp;omega
        have h2 : decide (1048576 < b) = false := by have := hb.2;simp;omega
        have HO := Lib.hid hb
        clear hb
        go_wp2_with fail
        go_round
        case rel => exact ⟨2,by omega,by go_num,okl_step hk.out HO.out⟩
        case measure => simp [intOf]
      · have HF : Hid (qcode a b c d = 3) := by
          unfold Hid qcode
          rw [if_neg HNZ.out,if_neg (fun h => hb (by first | exact h.1 | exact h.2.1 | exact h.2.2.1 | exact h.2.2.2))]
        have h0 : b < -1048576 ∨ 1048576 < b := by unfold okc at hb;omega
        clear hb
        rcases h0 with h0 | h0
        · have h1 : decide (b < -1048576) = true := by simpa using h0
          have h2 : decide (1048576 < b) = false := by simp;omega
          go_wp2_with fail
          go_ret
          exact ⟨ret_int HF.out.symm,hB1⟩
        · have h2 : decide (1048576 < b) = true := by simpa using h0
          go_wp2_with fail
          go_ret
          exact ⟨ret_int HF.out.symm,hB1⟩
    · by_cases hc : okc c
      · have h1 : decide (c < -1048576) = false := by have := hc.1;simp;omega
        have h2 : decide (1048576 < c) = false := by have := hc.2;simp;omega
        have HO := Lib.hid hc
        clear hc
        go_wp2_with fail
        go_round
        case rel => exact ⟨3,by omega,by go_num,okl_step hk.out HO.out⟩
        case measure => simp [intOf]
      · have HF : Hid (qcode a b c d = 3) := by
          unfold Hid qcode
          rw [if_neg HNZ.out,if_neg (fun h => hc (by first | exact h.1 | exact h.2.1 | exact h.2.2.1 | exact h.2.2.2))]
        have h0 : c < -1048576 ∨ 1048576 < c := by unfold okc at hc;omega
        clear hc
        rcases h0 with h0 | h0
        · have h1 : decide (c < -1048576) = true := by simpa using h0
          have h2 : decide (1048576 < c) = false := by simp;omega
          go_wp2_with fail
          go_ret
          exact ⟨ret_int HF.out.symm,hB1⟩
        · have h2 : decide (1048576 < c) = true := by simpa using h0
          go_wp2_with fail
          go_ret
          exact ⟨ret_int HF.out.symm,hB1⟩
    · by_cases hd : okc d
      · have h1 : decide (d < -1048576) = false := by have := hd.1;simp;omega
        have h2 : decide (1048576 < d) = false := by have := hd.2;simp;omega
        have HO := Lib.hid hd
        clear hd
        go_wp2_with fail
        go_round
        case rel => exact ⟨4,by omega,by go_num,okl_step hk.out HO.out⟩
        case measure => simp [intOf]
      · have HF : Hid (qcode a b c d = 3) := by
          unfold Hid qcode
          rw [if_neg HNZ.out,if_neg (fun h => hd (by first | exact h.1 | exact h.2.1 | exact h.2.2.1 | exact h.2.2.2))]
        have h0 : d < -1048576 ∨ 1048576 < d := by unfold okc at hd;omega
        clear hd
        rcases h0 with h0 | h0
        · have h1 : decide (d < -1048576) = true := by simpa using h0
          have h2 : decide (1048576 < d) = false := by simp;omega
          go_wp2_with fail
          go_ret
          exact ⟨ret_int HF.out.symm,hB1⟩
        · have h2 : decide (1048576 < d) = true := by simpa using h0
          go_wp2_with fail
          go_ret
          exact ⟨ret_int HF.out.symm,hB1⟩
    · have HF : Hid (qcode a b c d = 0) := by
        unfold Hid qcode
        rw [if_neg HNZ.out,if_pos ⟨hk.out 0 (by omega),hk.out 1 (by omega),hk.out 2 (by omega),hk.out 3 (by omega)⟩]
      go_wp2_with fail
      go_ret
      exact ⟨ret_int HF.out.symm,hB1⟩
theorem rcheck_2 (a b c d : Int) (w : World) (HNZ : Hid (¬ (a = 0 ∧ b = 0 ∧ c = 0 ∧ d = 0))) (fa : (a == 0) = true) (fb : (b == 0) = true) (fc : (c == 0) = false) :
    Calls Tryz.prog 17 #[.agg #[.int .i64 a,.int .i64 b,.int .i64 c,.int .i64 d]] w fun e w' => e = .returned (.int .i64 (qcode a b c d)) ∧ Below w.heap.size w w' := by
  have hB0 : Below w.heap.size w (w.alloc (.cells #[.int .i64 a,.int .i64 b,.int .i64 c,.int .i64 d] 33)) := (Below.refl _ _).alloc (Nat.le_refl _) _
  go_enter Tryz.func17,Tryz.ntmps17
  go_wp2_with fail
  refine (rlist_any a b c d _).mono ?_
  rintro e w1 ⟨rfl,hx1,hb1⟩
  have hB1 := Below.tr hB0 hb1
  rw [World.size_alloc] at hx1 ⊢
  have c0 := hx1.c0
  have c1 := hx1.c1
  have c2 := hx1.c2
  have c3 := hx1.c3
  go_wp2_with fail
  go_loop [4,25,26,27,28,29,30,31,32,33,34,35,36,37,38,39,40] (fun i _ _ _ _ _ _ _ _ _ _ _ _ _ _ _ _ => ∃ k : Nat,k ≤ 4 ∧ i = .int .i64 (k : Nat) ∧ Hid (∀ j,j < k → okc ([a,b,c,d].getD j 0))) (fun i _ _ _ _ _ _ _ _ _ _ _ _ _ _ _ _ => 4 - (intOf i).toNat)
  case atStart => exact ⟨0,by omega,rfl,fun j hj => by omega⟩
  case round =>
    obtain ⟨k,hk4,rfl,hk⟩ := hrel
    obtain rfl | rfl | rfl | rfl | rfl : k = 0 ∨ k = 1 ∨ k = 2 ∨ k = 3 ∨ k = 4 := by omega
    · by_cases ha : okc a
      · have h1 : decide (a < -1048576) = false := by have := ha.1;simp;omega
        have h2 : decide (1048576 < a) = false := by have := ha.2;simp;omega
        have HO := Lib.hid ha
        clear ha
        go_wp2_with fail
        go_round
        case rel => exact ⟨1,by omega,by go_num,okl_step hk.out HO.out⟩
        case measure => simp [intOf]
      · have HF : Hid (qcode a b c d = 3) := by
          unfold Hid qcode
          rw [if_neg HNZ.out,if_neg (fun h => ha (by first | exact h.1 | exact h.2.1 | exact h.2.2.1 | exact h.2.2.2))]
        have h0 : a < -1048576 ∨ 1048576 < a := by unfold okc at ha;omega
        clear ha
        rcases h0 with h0 | h0
        · have h1 : decide (a < -1048576) = true := by simpa using h0
          have h2 : decide (1048576 < a) = false := by simp;omega
          go_wp2_with fail
          go_ret
          exact ⟨ret_int HF.out.symm,hB1⟩
        · have h2 : decide (1048576 < a) = true := by simpa using h0
          go_wp2_with fail
          go_ret
          exact ⟨ret_int HF.out.symm,hB1⟩
    · by_cases hb : okc b
      · have h1 : decide (b < -1048576) = false := by have := hb.1;simp;omega
        have h2 : decide (1048576 < b) = false := by have := hb.2;simp;omega
        have HO := Lib.hid hb
        clear hb
        go_wp2_with fail
        go_round
        case rel => exact ⟨2,by omega,by go_num,okl_step hk.out HO.out⟩
        case measure => simp [intOf]
      · have HF : Hid (qcode a b c d = 3) := by
          unfold Hid qcode
          rw [if_neg HNZ.out,if_neg (fun h => hb (by first | exact h.1 | exact h.2.1 | exact h.2.2.1 | exact h.2.2.2))]
        have h0 : b < -1048576 ∨ 1048576 < b := by unfold okc at hb;omega
        clear hb
        rcases h0 with h0 | h0
        · have h1 : decide (b < -1048576) = true := by simpa using h0
          have h2 : decide (1048576 < b) = false := by simp;omega
          go_wp2_with fail
          go_ret
          exact ⟨ret_int HF.out.symm,hB1⟩
        · have h2 : decide (1048576 < b) = true := by simpa using h0
          go_wp2_with fail
          go_ret
          exact ⟨ret_int HF.out.symm,hB1⟩
    · by_cases hc : okc c
      · have h1 : decide (c < -1048576) = false := by have := hc.1;simp;omega
        have h2 : decide (1048576 < c) = false := by have := hc.2;simp;omega
        have HO := Lib.hid hc
        clear hc
        go_wp2_with fail
        go_round
        case rel => exact ⟨3,by omega,by go_num,okl_step hk.out HO.out⟩
        case measure => simp [intOf]
      · have HF : Hid (qcode a b c d = 3) := by
          unfold Hid qcode
          rw [if_neg HNZ.out,if_neg (fun h => hc (by first | exact h.1 | exact h.2.1 | exact h.2.2.1 | exact h.2.2.2))]
        have h0 : c < -1048576 ∨ 1048576 < c := by unfold okc at hc;omega
        clear hc
        rcases h0 with h0 | h0
        · have h1 : decide (c < -1048576) = true := by simpa using h0
          have h2 : decide (1048576 < c) = false := by simp;omega
          go_wp2_with fail
          go_ret
          exact ⟨ret_int HF.out.symm,hB1⟩
        · have h2 : decide (1048576 < c) = true := by simpa using h0
          go_wp2_with fail
          go_ret
          exact ⟨ret_int HF.out.symm,hB1⟩
    · by_cases hd : okc d
      · have h1 : decide (d < -1048576) = false := by have := hd.1;simp;omega
        have h2 : decide (1048576 < d) = false := by have := hd.2;simp;omega
        have HO := Lib.hid hd
        clear hd
        go_wp2_with fail
        go_round
        case rel => exact ⟨4,by omega,by go_num,okl_step hk.out HO.out⟩
        case measure => simp [intOf]
      · have HF : Hid (qcode a b c d = 3) := by
          unfold Hid qcode
          rw [if_neg HNZ.out,if_neg (fun h => hd (by first | exact h.1 | exact h.2.1 | exact h.2.2.1 | exact h.2.2.2))]
        have h0 : d < -1048576 ∨ 1048576 < d := by unfold okc at hd;omega
        clear hd
        rcases h0 with h0 | h0
        · have h1 : decide (d < -1048576) = true := by simpa using h0
          have h2 : decide (1048576 < d) = false := by simp;omega
          go_wp2_with fail
          go_ret
          exact ⟨ret_int HF.out.symm,hB1⟩
        · have h2 : decide (1048576 < d) = true := by simpa using h0
          go_wp2_with fail
          go_ret
          exact ⟨ret_int HF.out.symm,hB1⟩
    · have HF : Hid (qcode a b c d = 0) := by
        unfold Hid qcode
        rw [if_neg HNZ.out,if_pos ⟨hk.out 0 (by omega),hk.out 1 (by omega),hk.out 2 (by omega),hk.out 3 (by omega)⟩]
      go_wp2_with fail
      go_ret
      exact ⟨ret_int HF.out.symm,hB1⟩
theorem rcheck_3 (a b c d : Int) (w : World) (HNZ : Hid (¬ (a = 0 ∧ b = 0 ∧ c = 0 ∧ d = 0))) (fa : (a == 0) = true) (fb : (b == 0) = true) (fc : (c == 0) = true) (fd : (d == 0) = false) :
    Calls Tryz.prog 17 #[.agg #[.int .i64 a,.int .i64 b,.int .i64 c,.int .i64 d]] w fun e w' => e = .returned (.int .i64 (qcode a b c d)) ∧ Below w.heap.size w w' := by
  have hB0 : Below w.heap.size w (w.alloc (.cells #[.int .i64 a,.int .i64 b,.int .i64 c,.int .i64 d] 33)) := (Below.refl _ _).alloc (Nat.le_refl _) _
  go_enter Tryz.func17,Tryz.ntmps17
  go_wp2_with fail
  refine (rlist_any a b c d _).mono ?_
  rintro e w1 ⟨rfl,hx1,hb1⟩
  have hB1 := Below.tr hB0 hb1
  rw [World.size_alloc] at hx1 ⊢
  have c0 := hx1.c0
  have c1 := hx1.c1
  have c2 := hx1.c2
  have c3 := hx1.c3
  go_wp2_with fail
  go_loop [4,25,26,27,28,29,30,31,32,33,34,35,36,37,38,39,40] (fun i _ _ _ _ _ _ _ _ _ _ _ _ _ _ _ _ => ∃ k : Nat,k ≤ 4 ∧ i = .int .i64 (k : Nat) ∧ Hid (∀ j,j < k → okc ([a,b,c,d].getD j 0))) (fun i _ _ _ _ _ _ _ _ _ _ _ _ _ _ _ _ => 4 - (intOf i).toNat)
  case atStart => exact ⟨0,by omega,rfl,fun j hj => by omega⟩
  case round =>
    obtain ⟨k,hk4,rfl,hk⟩ := hrel
    obtain rfl | rfl | rfl | rfl | rfl : k = 0 ∨ k = 1 ∨ k = 2 ∨ k = 3 ∨ k = 4 := by omega
    · by_cases ha : okc a
      · have h1 : decide (a < -1048576) = false := by have := ha.1;simp;omega
        have h2 : decide (1048576 < a) = false := by have := ha.2;simp;omega
        have HO := Lib.hid ha
        clear ha
        go_wp2_with fail
        go_round
        case rel => exact ⟨1,by omega,by go_num,okl_step hk.out HO.out⟩
        case measure => simp [intOf]
      · have HF : Hid (qcode a b c d = 3) := by
          unfold Hid qcode
          rw [if_neg HNZ.out,if_neg (fun h => ha (by first | exact h.1 | exact h.2.1 | exact h.2.2.1 | exact h.2.2.2))]
        have h0 : a < -1048576 ∨ 1048576 < a := by unfold okc at ha;omega
        clear ha
        rcases h0 with h0 | h0
        · have h1 : decide (a < -1048576) = true := by simpa using h0
          have h2 : decide (1048576 < a) = false := by simp;omega
          go_wp2_with fail
          go_ret
          exact ⟨ret_int HF.out.symm,hB1⟩
        · have h2 : decide (1048576 < a) = true := by simpa using h0
          go_wp2_with fail
          go_ret
          exact ⟨ret_int HF.out.symm,hB1⟩
    · by_cases hb : okc b
      · have h1 : decide (b < -1048576) = false := by have := hb.1;simp;omega
        have h2 : decide (1048576 < b) = false := by have := hb.2;simp;omega
        have HO := Lib.hid hb
        clear hb
        go_wp2_with fail
        go_round
        case rel => exact ⟨2,by omega,by go_num,okl_step hk.out HO.out⟩
        case measure => simp [intOf]
      · have HF : Hid (qcode a b c d = 3) := by
          unfold Hid qcode
          rw [if_neg HNZ.out,if_neg (fun h => hb (by first | exact h.1 | exact h.2.1 | exact h.2.2.1 | exact h.2.2.2))]
        have h0 : b < -1048576 ∨ 1048576 < b := by unfold okc at hb;omega
        clear hb
        rcases h0 with h0 | h0
        · have h1 : decide (b < -1048576) = true := by simpa using h0
          have h2 : decide (1048576 < b) = false := by simp;omega
          go_wp2_with fail
          go_ret
          exact ⟨ret_int HF.out.symm,hB1⟩
        · have h2 : decide (1048576 < b) = true := by simpa using h0
          go_wp2_with fail
          go_ret
          exact ⟨ret_int HF.out.symm,hB1⟩
    · by_cases hc : okc c
      · have h1 : decide (c < -1048576) = false := by have := hc.1;simp;omega
        have h2 : decide (1048576 < c) = false := by have := hc.2;simp;omega
        have HO := Lib.hid hc
        clear hc
        go_wp2_with fail
        go_round
        case rel => exact ⟨3,by omega,by go_num,okl_step hk.out HO.out⟩
        case measure => simp [intOf]
      · have HF : Hid (qcode a b c d = 3) := by
          unfold Hid qcode
          rw [if_neg HNZ.out,if_neg (fun h => hc (by first | exact h.1 | exact h.2.1 | exact h.2.2.1 | exact h.2.2.2))]
        have h0 : c < -1048576 ∨ 1048576 < c := by unfold okc at hc;omega
        clear hc
        rcases h0 with h0 | h0
        · have h1 : decide (c < -1048576) = true := by simpa using h0
          have h2 : decide (1048576 < c) = false := by simp;omega
          go_wp2_with fail
          go_ret
          exact ⟨ret_int HF.out.symm,hB1⟩
        · have h2 : decide (1048576 < c) = true := by simpa using h0
          go_wp2_with fail
          go_ret
          exact ⟨ret_int HF.out.symm,hB1⟩
    · by_cases hd : okc d
      · have h1 : decide (d < -1048576) = false := by have := hd.1;simp;omega
        have h2 : decide (1048576 < d) = false := by have := hd.2;simp;omega
        have HO := Lib.hid hd
        clear hd
        go_wp2_with fail
        go_round
        case rel => exact ⟨4,by omega,by go_num,okl_step hk.out HO.out⟩
        case measure => simp [intOf]
      · have HF : Hid (qcode a b c d = 3) := by
          unfold Hid qcode
          rw [if_neg HNZ.out,if_neg (fun h => hd (by first | exact h.1 | exact h.2.1 | exact h.2.2.1 | exact h.2.2.2))]
        have h0 : d < -1048576 ∨ 1048576 < d := by unfold okc at hd;omega
        clear hd
        rcases h0 with h0 | h0
        · have h1 : decide (d < -1048576) = true := by simpa using h0
          have h2 : decide (1048576 < d) = false := by simp;omega
          go_wp2_with fail
          go_ret
          exact ⟨ret_int HF.out.symm,hB1⟩
        · have h2 : decide (1048576 < d) = true := by simpa using h0
          go_wp2_with fail
          go_ret
          exact ⟨ret_int HF.out.symm,hB1⟩
    · have HF : Hid (qcode a b c d = 0) := by
        unfold Hid qcode
        rw [if_neg HNZ.out,if_pos ⟨hk.out 0 (by omega),hk.out 1 (by omega),hk.out 2 (by omega),hk.out 3 (by omega)⟩]
      go_wp2_with fail
      go_ret
      exact ⟨ret_int HF.out.symm,hB1⟩
theorem rcheck_any (a b c d : Int) (w : World) :
    Calls Tryz.prog 17 #[.agg #[.int .i64 a,.int .i64 b,.int .i64 c,.int .i64 d]] w fun e w' => e = .returned (.int .i64 (qcode a b c d)) ∧ Below w.heap.size w w' := by
  by_cases hz : a = 0 ∧ b = 0 ∧ c = 0 ∧ d = 0
  · have HV : Hid (qcode a b c d = 1) := by unfold Hid qcode;rw [if_pos hz]
    obtain ⟨rfl,rfl,rfl,rfl⟩ := hz
    go_enter Tryz.func17,Tryz.ntmps17
    go_wp2
    go_ret
    exact ⟨ret_int HV.out.symm,(Below.refl _ _).alloc (Nat.le_refl _) _⟩
  · by_cases ha : a = 0
    · by_cases hb : b = 0
      · by_cases hc : c = 0
        · exact rcheck_3 a b c d w hz (by simpa using ha) (by simpa using hb) (by simpa using hc) (by simp;intro hd;exact hz ⟨ha,hb,hc,hd⟩)
        · exact rcheck_2 a b c d w hz (by simpa using ha) (by simpa using hb) (by simpa using hc)
      · exact rcheck_1 a b c d w hz (by simpa using ha) (by simpa using hb)
    · exact rcheck_0 a b c d w hz (by simpa using ha)
end Go.Proofs.YtidfgdchcpmnfaaGreat
namespace Go.Proofs.YtidfgdchcpmnfaaGreat
open Go.RowKit
set_option maxRecDepth 100000
set_option maxHeartbeats 16000000
set_option linter.unusedSimpArgs false
set_option linter.unusedVariables false
theorem rnorm_any (a b c d : Int) (w : World) (oa : okc a) (ob : okc b) (oc : okc c) (od : okc d) :
    Calls Tryz.prog 73 #[.agg #[.int .i64 a,.int .i64 b,.int .i64 c,.int .i64 d]] w (GI (normI a b c d) w) := by
  obtain ⟨p0,p1⟩ := okc_mul oa oa
  obtain ⟨p2,p3⟩ := okc_mul ob ob
  obtain ⟨p4,p5⟩ := okc_mul oc oc
  obtain ⟨p6,p7⟩ := okc_mul od od
  go_enter Tryz.func73,Tryz.ntmps73
  go_wp2_with fail
  go_ret
  exact ⟨rfl,(Below.refl _ _).alloc (Nat.le_refl _) _⟩
theorem rflat_n (a b c d : Int) (w : World) (hq : ¬ qcode a b c d = 0) :
    Calls Tryz.prog 31 #[.agg #[.int .i64 a,.int .i64 b,.int .i64 c,.int .i64 d]] w (GB (flatB a b c d) w) := by
  have HV : Hid (flatB a b c d = false) := Lib.hid (by unfold flatB;simp [hq])
  have hqt : (qcode a b c d == 0) = false := by simpa using hq
  clear hq
  have hB0 : Below w.heap.size w (w.alloc (.cells #[.int .i64 a,.int .i64 b,.int .i64 c,.int .i64 d] 33)) := (Below.refl _ _).alloc (Nat.le_refl _) _
  have xa : Bx (w.alloc (.cells #[.int .i64 a,.int .i64 b,.int .i64 c,.int .i64 d] 33)) w.heap.size [.int .i64 a,.int .i64 b,.int .i64 c,.int .i64 d] := by have := Bx.new w [.int .i64 a,.int .i64 b,.int .i64 c,.int .i64 d] 33;simpa using this
  go_enter Tryz.func31,Tryz.ntmps31
  go_wp2_with fail
  refine (rcheck_any a b c d _).mono ?_
  rintro x w1 ⟨rfl,hb1⟩
  have ya := xa.to hb1
  have y0 := ya.c0
  have y1 := ya.c1
  have y2 := ya.c2
  have y3 := ya.c3
  go_wp2_with fail
  go_ret
  exact ⟨ret_bool HV.out.symm,Below.tr hB0 hb1⟩
theorem rflat_b (a b c d : Int) (w : World) (hq : qcode a b c d = 0) (hb : ¬ b = 0) :
    Calls Tryz.prog 31 #[.agg #[.int .i64 a,.int .i64 b,.int .i64 c,.int .i64 d]] w (GB (flatB a b c d) w) := by
  have HV : Hid (flatB a b c d = false) := Lib.hid (by unfold flatB;simp [hq,hb])
  have hqt : (qcode a b c d == 0) = true := by simp [hq]
  clear hq
  have hbt : (b == 0) = false := by simpa using hb
  clear hb
  have hB0 : Below w.heap.size w (w.alloc (.cells #[.int .i64 a,.int .i64 b,.int .i64 c,.int .i64 d] 33)) := (Below.refl _ _).alloc (Nat.le_refl _) _
  have xa : Bx (w.alloc (.cells #[.int .i64 a,.int .i64 b,.int .i64 c,.int .i64 d] 33)) w.heap.size [.int .i64 a,.int .i64 b,.int .i64 c,.int .i64 d] := by have := Bx.new w [.int .i64 a,.int .i64 b,.int .i64 c,.int .i64 d] 33;simpa using this
  go_enter Tryz.func31,Tryz.ntmps31
  go_wp2_with fail
  refine (rcheck_any a b c d _).mono ?_
  rintro x w1 ⟨rfl,hb1⟩
  have ya := xa.to hb1
  have y0 := ya.c0
  have y1 := ya.c1
  have y2 := ya.c2
  have y3 := ya.c3
  go_wp2_with fail
  go_ret
  exact ⟨ret_bool HV.out.symm,Below.tr hB0 hb1⟩
theorem rflat_d (a b c d : Int) (w : World) (hq : qcode a b c d = 0) (hb : b = 0) (hd : ¬ d = 0) :
    Calls Tryz.prog 31 #[.agg #[.int .i64 a,.int .i64 b,.int .i64 c,.int .i64 d]] w (GB (flatB a b c d) w) := by
  have HV : Hid (flatB a b c d = false) := Lib.hid (by unfold flatB;simp [hq,hb,hd])
  have hqt : (qcode a b c d == 0) = true := by simp [hq]
  clear hq
  have hbt : (b == 0) = true := by simp [hb]
  have hdt : (d == 0) = false := by simpa using hd
  clear hb hd
  have hB0 : Below w.heap.size w (w.alloc (.cells #[.int .i64 a,.int .i64 b,.int .i64 c,.int .i64 d] 33)) := (Below.refl _ _).alloc (Nat.le_refl _) _
  have xa : Bx (w.alloc (.cells #[.int .i64 a,.int .i64 b,.int .i64 c,.int .i64 d] 33)) w.heap.size [.int .i64 a,.int .i64 b,.int .i64 c,.int .i64 d] := by have := Bx.new w [.int .i64 a,.int .i64 b,.int .i64 c,.int .i64 d] 33;simpa using this
  go_enter Tryz.func31,Tryz.ntmps31
  go_wp2_with fail
  refine (rcheck_any a b c d _).mono ?_
  rintro x w1 ⟨rfl,hb1⟩
  have ya := xa.to hb1
  have y0 := ya.c0
  have y1 := ya.c1
  have y2 := ya.c2
  have y3 := ya.c3
  go_wp2_with fail
  go_ret
  exact ⟨ret_bool HV.out.symm,Below.tr hB0 hb1⟩
theorem rflat_y (a b c d : Int) (w : World) (hq : qcode a b c d = 0) (hb : b = 0) (hd : d = 0) :
    Calls Tryz.prog 31 #[.agg #[.int .i64 a,.int .i64 b,.int .i64 c,.int .i64 d]] w (GB (flatB a b c d) w) := by
  have HV : Hid (flatB a b c d = true) := Lib.hid (by unfold flatB;rw [decide_eq_true hq,decide_eq_true hb,decide_eq_true hd];rfl)
  have hqt : (qcode a b c d == 0) = true := by simp [hq]
  clear hq
  have hbt : (b == 0) = true := by simp [hb]
  have hdt : (d == 0) = true := by simp [hd]
  clear hb hd
  have hB0 : Below w.heap.size w (w.alloc (.cells #[.int .i64 a,.int .i64 b,.int .i64 c,.int .i64 d] 33)) := (Below.refl _ _).alloc (Nat.le_refl _) _
  have xa : Bx (w.alloc (.cells #[.int .i64 a,.int .i64 b,.int .i64 c,.int .i64 d] 33)) w.heap.size [.int .i64 a,.int .i64 b,.int .i64 c,.int .i64 d] := by have := Bx.new w [.int .i64 a,.int .i64 b,.int .i64 c,.int .i64 d] 33;simpa using this
  go_enter Tryz.func31,Tryz.ntmps31
  go_wp2_with fail
  refine (rcheck_any a b c d _).mono ?_
  rintro x w1 ⟨rfl,hb1⟩
  have ya := xa.to hb1
  have y0 := ya.c0
  have y1 := ya.c1
  have y2 := ya.c2
  have y3 := ya.c3
  go_wp2_with fail
  go_ret
  exact ⟨ret_bool HV.out.symm,Below.tr hB0 hb1⟩
theorem rflat_any (a b c d : Int) (w : World) : Calls Tryz.prog 31 #[.agg #[.int .i64 a,.int .i64 b,.int .i64 c,.int .i64 d]] w (GB (flatB a b c d) w) := by
  by_cases hq : qcode a b c d = 0
  · by_cases hb : b = 0
    · by_cases hd : d = 0
      · exact rflat_y a b c d w hq hb hd
      · exact rflat_d a b c d w hq hb hd
    · exact rflat_b a b c d w hq hb
  · exact rflat_n a b c d w hq
end Go.Proofs.YtidfgdchcpmnfaaGreat
