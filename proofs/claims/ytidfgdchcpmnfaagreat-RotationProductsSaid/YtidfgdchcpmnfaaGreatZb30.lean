/-
  Lemmas for the statements about rotations, part 30 of 51.
-/
import Derived.Test.YtidfgdchcpmnfaaGreatZb11
import Derived.Test.YtidfgdchcpmnfaaGreatZb28
import Derived.Test.YtidfgdchcpmnfaaGreatZb29
namespace Go.Proofs.YtidfgdchcpmnfaaGreat
open Go.RowKit
set_option maxRecDepth 100000
set_option maxHeartbeats 16000000
set_option linter.unusedSimpArgs false
set_option linter.unusedVariables false
theorem omSum_sp (B b o c K : Nat) (x y z : Int) (e : Nat → Nat → Rat) (w : World) (hcB : w.cell? ⟨B,0,none⟩ = some (.slice (some ⟨b,o,none⟩) 3 c)) (hBl : B < w.heap.size) (h : MatQ w (.slice (some ⟨b,o,none⟩) 3 c) 3 3 K e) (hK : K ≤ 10000000) (hx : x = 1 ∨ x = -1) (hy : y = 1 ∨ y = -1) (hz : z = 1 ∨ z = -1) :
    Calls Tryz.prog 50 #[.agg #[.int .i64 x,.int .i64 y,.int .i64 z],.pointer (some ⟨B,0,none⟩)] w (GQ (omSum (xs4 x y z 0) e 3) w) :=
  omSum_any B b o c K (xs4 x y z 0) e w hcB hBl h hK (fun k hk => by
    obtain rfl | rfl | rfl : k = 0 ∨ k = 1 ∨ k = 2 := by omega
    · exact hx
    · exact hy
    · exact hz)
theorem omMinus_i (B b o c K i j : Nat) (x y : Int) (e : Nat → Nat → Rat) (w : World) (hB : w.cell? ⟨B,0,none⟩ = some (.slice (some ⟨b,o,none⟩) 3 c)) (hBl : B < w.heap.size) (h : MatQ w (.slice (some ⟨b,o,none⟩) 3 c) 3 3 K e) (hi : i < 3) (hj : j < 3) (hK : K ≤ 100000000) (hx : x = (i : Nat)) (hy : y = (j : Nat)) :
    Calls Tryz.prog 55 #[.int .i64 x,.int .i64 y,.pointer (some ⟨B,0,none⟩)] w (GQ (e i j - e j i) w) := by
  subst hx hy
  exact omMinus_any B b o c K i j e w hB hBl h hi hj hK
theorem omPlus_i (B b o c K i j : Nat) (x y : Int) (e : Nat → Nat → Rat) (w : World) (hB : w.cell? ⟨B,0,none⟩ = some (.slice (some ⟨b,o,none⟩) 3 c)) (hBl : B < w.heap.size) (h : MatQ w (.slice (some ⟨b,o,none⟩) 3 c) 3 3 K e) (hi : i < 3) (hj : j < 3) (hK : K ≤ 100000000) (hx : x = (i : Nat)) (hy : y = (j : Nat)) :
    Calls Tryz.prog 54 #[.int .i64 x,.int .i64 y,.pointer (some ⟨B,0,none⟩)] w (GQ (e i j + e j i) w) := by
  subst hx hy
  exact omPlus_any B b o c K i j e w hB hBl h hi hj hK
def omRow (e : Nat → Nat → Rat) : Nat → Nat → Rat
  | 0 => fun | 0 => omSum (xs4 1 1 1 0) e 3 | 1 => e 2 1 - e 1 2 | 2 => e 0 2 - e 2 0 | _ => e 1 0 - e 0 1
  | 1 => fun | 0 => e 2 1 - e 1 2 | 1 => omSum (xs4 1 (-1) (-1) 0) e 3 | 2 => e 0 1 + e 1 0 | _ => e 0 2 + e 2 0
  | 2 => fun | 0 => e 0 2 - e 2 0 | 1 => e 0 1 + e 1 0 | 2 => omSum (xs4 (-1) 1 (-1) 0) e 3 | _ => e 1 2 + e 2 1
  | _ => fun | 0 => e 1 0 - e 0 1 | 1 => e 0 2 + e 2 0 | 2 => e 1 2 + e 2 1 | _ => omSum (xs4 (-1) (-1) 1 0) e 3
def omRes (e : Nat → Nat → Rat) : Value := if nzB (omRow e 0) = true then primV (clearXs (omRow e 0)) else if nzB (omRow e 1) = true then primV (clearXs (omRow e 1)) else if nzB (omRow e 2) = true then primV (clearXs (omRow e 2)) else if nzB (omRow e 3) = true then primV (clearXs (omRow e 3)) else .tuple #[quatV 0 0 0 0,.int .i64 15]
def Rows4 (w : World) (bb : Nat) (e : Nat → Nat → Rat) : Prop := bb < w.heap.size ∧ ∀ k,k < 4 → ∃ (yga : Bool) (ypa : Option Addr) (yna yca : Nat) (yha : Bool) (yoa : Option Addr) (yma yea : Nat) (ygb : Bool) (ypb : Option Addr) (ynb ycb : Nat) (yhb : Bool) (yob : Option Addr) (ymb yeb : Nat) (ygc : Bool) (ypc : Option Addr) (ync ycc : Nat) (yhc : Bool) (yoc : Option Addr) (ymc yec : Nat) (ygd : Bool) (ypd : Option Addr) (ynd ycd : Nat) (yhd : Bool) (yod : Option Addr) (ymd yed : Nat),w.cell? ⟨bb,k * 16,none⟩ = some (.bool yga) ∧ w.cell? ⟨bb,k * 16 + 1,none⟩ = some (.slice ypa yna yca) ∧ w.cell? ⟨bb,k * 16 + 2,none⟩ = some (.bool yha) ∧ w.cell? ⟨bb,k * 16 + 3,none⟩ = some (.slice yoa yma yea) ∧ w.cell? ⟨bb,k * 16 + 4,none⟩ = some (.bool ygb) ∧ w.cell? ⟨bb,k * 16 + 5,none⟩ = some (.slice ypb ynb ycb) ∧ w.cell? ⟨bb,k * 16 + 6,none⟩ = some (.bool yhb) ∧ w.cell? ⟨bb,k * 16 + 7,none⟩ = some (.slice yob ymb yeb) ∧ w.cell? ⟨bb,k * 16 + 8,none⟩ = some (.bool ygc) ∧ w.cell? ⟨bb,k * 16 + 9,none⟩ = some (.slice ypc ync ycc) ∧ w.cell? ⟨bb,k * 16 + 10,none⟩ = some (.bool yhc) ∧ w.cell? ⟨bb,k * 16 + 11,none⟩ = some (.slice yoc ymc yec) ∧ w.cell? ⟨bb,k * 16 + 12,none⟩ = some (.bool ygd) ∧ w.cell? ⟨bb,k * 16 + 13,none⟩ = some (.slice ypd ynd ycd) ∧ w.cell? ⟨bb,k * 16 + 14,none⟩ = some (.bool yhd) ∧ w.cell? ⟨bb,k * 16 + 15,none⟩ = some (.slice yod ymd yed) ∧ RQ w (.agg #[.bool yga,.slice ypa yna yca,.bool yha,.slice yoa yma yea]) (omRow e k 0) ∧ RQ w (.agg #[.bool ygb,.slice ypb ynb ycb,.bool yhb,.slice yob ymb yeb]) (omRow e k 1) ∧ RQ w (.agg #[.bool ygc,.slice ypc ync ycc,.bool yhc,.slice yoc ymc yec]) (omRow e k 2) ∧ RQ w (.agg #[.bool ygd,.slice ypd ynd ycd,.bool yhd,.slice yod ymd yed]) (omRow e k 3) ∧ (∀ j,j < 4 → rsz (omRow e k j) ≤ 50000000)
theorem omRes_at {e : Nat → Nat → Rat} {k : Nat} (hk : k < 4) (hz : nzB (omRow e k) = true) (hj : ∀ j,j < k → nzB (omRow e j) = false) : omRes e = primV (clearXs (omRow e k)) := by
  unfold omRes
  obtain rfl | rfl | rfl | rfl : k = 0 ∨ k = 1 ∨ k = 2 ∨ k = 3 := by omega
  · rw [if_pos hz]
  · rw [if_neg (by rw [hj 0 (by omega)];simp),if_pos hz]
  · rw [if_neg (by rw [hj 0 (by omega)];simp),if_neg (by rw [hj 1 (by omega)];simp),if_pos hz]
  · rw [if_neg (by rw [hj 0 (by omega)];simp),if_neg (by rw [hj 1 (by omega)];simp),if_neg (by rw [hj 2 (by omega)];simp),if_pos hz]
theorem omRes_none {e : Nat → Nat → Rat} (hj : ∀ j,j < 4 → nzB (omRow e j) = false) : omRes e = .tuple #[quatV 0 0 0 0,.int .i64 15] := by
  unfold omRes
  rw [if_neg (by rw [hj 0 (by omega)];simp),if_neg (by rw [hj 1 (by omega)];simp),if_neg (by rw [hj 2 (by omega)];simp),if_neg (by rw [hj 3 (by omega)];simp)]
theorem nz_ne {q : Nat → Rat} (h : nzB q = true) : Hid (∃ j,j < 4 ∧ q j ≠ 0) := Lib.hid (by
  apply Classical.byContradiction
  intro hn
  have : allB 4 (fun i => decide (q i = 0)) = true := allB_iff.2 (fun i hi => by
    simp only [decide_eq_true_eq]
    exact Classical.byContradiction (fun e => hn ⟨i,hi,e⟩))
  unfold nzB at h
  rw [this] at h
  cases h)
theorem cleared_f {za zb zc zd ze : Int} (ya yb yc yd ye yf yg yh yi yj yk yl ym yn yo yp : Value) (q : Nat → Rat) (K : Nat) (w : World) (h : V4 w ya yb yc yd ye yf yg yh yi yj yk yl ym yn yo yp q K) (hK : K ≤ 50000000) (hne : ∃ j,j < 4 ∧ q j ≠ 0) (hz : primV (clearXs q) = .tuple #[.agg #[.int .i64 za,.int .i64 zb,.int .i64 zc,.int .i64 zd],.int .i64 ze]) :
    Calls Tryz.prog 58 #[.agg #[ya,yb,yc,yd,ye,yf,yg,yh,yi,yj,yk,yl,ym,yn,yo,yp]] w (GV (.tuple #[.agg #[.int .i64 za,.int .i64 zb,.int .i64 zc,.int .i64 zd],.int .i64 ze]) w) := by
  have := cleared_any ya yb yc yd ye yf yg yh yi yj yk yl ym yn yo yp q K w h hK hne
  rw [hz] at this
  exact this
theorem omRow_rsz {e : Nat → Nat → Rat} {K : Nat} (h : ∀ i j,i < 3 → j < 3 → rsz (e i j) ≤ K) (hK : K ≤ 700000) : ∀ i k,k < 4 → rsz (omRow e i k) ≤ 50000000 := by
  have hs : ∀ x y z : Int,(x = 1 ∨ x = -1) → (y = 1 ∨ y = -1) → (z = 1 ∨ z = -1) → rsz (omSum (xs4 x y z 0) e 3) ≤ 50000000 := fun x y z hx hy hz => by
    have u : ∀ x : Int,(x = 1 ∨ x = -1) → rsz ((x : Int) : Rat) ≤ 1 := fun x hx => by rcases hx with e | e <;> rw [e] <;> decide +kernel
    have := omSum_rsz (s := xs4 x y z 0) (e := e) (K := K) (fun k hk => by
      obtain rfl | rfl | rfl : k = 0 ∨ k = 1 ∨ k = 2 := by omega
      · exact u x hx
      · exact u y hy
      · exact u z hz) (fun k hk => h k k hk hk) 3 (by omega)
    omega
  have hm : ∀ i j,i < 3 → j < 3 → rsz (e i j - e j i) ≤ 50000000 := fun i j hi hj => by have := rsz_sub (e i j) (e j i);have := h i j hi hj;have := h j i hj hi;omega
  have hp : ∀ i j,i < 3 → j < 3 → rsz (e i j + e j i) ≤ 50000000 := fun i j hi hj => by have := rsz_add (e i j) (e j i);have := h i j hi hj;have := h j i hj hi;omega
  intro i k hk
  obtain rfl | rfl | rfl | rfl : k = 0 ∨ k = 1 ∨ k = 2 ∨ k = 3 := by omega
  all_goals
    match i with
    | 0 => first | exact hs _ _ _ (by omega) (by omega) (by omega) | exact hm _ _ (by omega) (by omega) | exact hp _ _ (by omega) (by omega)
    | 1 => first | exact hs _ _ _ (by omega) (by omega) (by omega) | exact hm _ _ (by omega) (by omega) | exact hp _ _ (by omega) (by omega)
    | 2 => first | exact hs _ _ _ (by omega) (by omega) (by omega) | exact hm _ _ (by omega) (by omega) | exact hp _ _ (by omega) (by omega)
    | _ + 3 => first | exact hs _ _ _ (by omega) (by omega) (by omega) | exact hm _ _ (by omega) (by omega) | exact hp _ _ (by omega) (by omega)
theorem ofMatrix_turn (b o c K : Nat) (e : Nat → Nat → Rat) (w : World) (h : MatQ w (.slice (some ⟨b,o,none⟩) 3 c) 3 3 K e) (hK1 : 1 ≤ K) (hK : K ≤ 700000) (ht : turnB e = true) :
    Calls Tryz.prog 14 #[.slice (some ⟨b,o,none⟩) 3 c] w (GV (omRes e) w) := by
  obtain ⟨_,_,he,hf1,hf2⟩ := h.form
  cases he
  obtain ⟨_,_,q0,d0,he,hl,c0,hr⟩ := h.at_ (k := 0) (by omega)
  cases he
  rw [Nat.add_zero] at c0
  have HTU : Hid (∀ w',MatQ w' (.slice (some ⟨b,o,none⟩) 3 c) 3 3 K e → Calls Tryz.prog 49 #[.slice (some ⟨b,o,none⟩) 3 c] w' (GB true w')) := Lib.hid (fun w' h => by have := turning_any _ K e w' h hK1 hK;rw [ht] at this;exact this)
  clear ht
  have hW0 : Below w.heap.size w ((w.alloc (.cells #[.slice (some ⟨b,o,none⟩) 3 c] 23)).alloc (.cells #[.int .i64 0,.int .i64 0,.int .i64 0,.int .i64 0] 33)) := Below.al ((Below.refl _ _).alloc (Nat.le_refl _) _) _
  have hW := Below.refl ((w.alloc (.cells #[.slice (some ⟨b,o,none⟩) 3 c] 23)).alloc (.cells #[.int .i64 0,.int .i64 0,.int .i64 0,.int .i64 0] 33)).heap.size ((w.alloc (.cells #[.slice (some ⟨b,o,none⟩) 3 c] 23)).alloc (.cells #[.int .i64 0,.int .i64 0,.int .i64 0,.int .i64 0] 33))
  have hMW := h.below hW0
  have hbW : b < ((w.alloc (.cells #[.slice (some ⟨b,o,none⟩) 3 c] 23)).alloc (.cells #[.int .i64 0,.int .i64 0,.int .i64 0,.int .i64 0] 33)).heap.size := Nat.lt_of_lt_of_le hl hW0.size
  have hWl : w.heap.size < ((w.alloc (.cells #[.slice (some ⟨b,o,none⟩) 3 c] 23)).alloc (.cells #[.int .i64 0,.int .i64 0,.int .i64 0,.int .i64 0] 33)).heap.size := by simp;omega
  have hc0W := cellB hW0 hl c0
  have hcW : ((w.alloc (.cells #[.slice (some ⟨b,o,none⟩) 3 c] 23)).alloc (.cells #[.int .i64 0,.int .i64 0,.int .i64 0,.int .i64 0] 33)).cell? ⟨w.heap.size,0,none⟩ = some (.slice (some ⟨b,o,none⟩) 3 c) := by
    have := (Bx.new w [.slice (some ⟨b,o,none⟩) 3 c] 23).alloc (.cells #[.int .i64 0,.int .i64 0,.int .i64 0,.int .i64 0] 33)
    exact this.c0
  have HRS2 : Hid (∀ i k,k < 4 → rsz (omRow e i k) ≤ 50000000) := Lib.hid (omRow_rsz (fun i j hi hj => h.rsz hi hj) hK)
  have HRS : Hid (∀ i k,k < 4 → rsz (omRow e i k) ≤ 100000000) := Lib.hid (fun i k hk => Nat.le_trans (HRS2.out i k hk) (by omega))
  have HHC := Lib.hid hcW
  have HH0 := Lib.hid hc0W
  clear hcW hc0W c0
  have hB_0 : Below w.heap.size w w := Below.refl _ _
  go_enter Tryz.func14,Tryz.ntmps14
  go_wp2_with fail
  have hw1 := hW
  (with_reducible refine (mcheckQ_any _ 3 3 K e _ (hMW.below hw1) (by omega) (by omega) (by omega) (by omega) (by omega)).mono ?_)
  rintro e w1 ⟨rfl,hb1⟩
  have hW_1 := (Below.tr hW hb1)
  have hr01 := cellB (hW_1) hbW HH0.out
  obtain ⟨hA1,m1,n1⟩ := bx2 w rfl [.slice (some ⟨b,o,none⟩) 3 c] 23 [.int .i64 0,.int .i64 0,.int .i64 0,.int .i64 0] 33
  have n0 := (m1.to hb1)
  have b0 := n0.c0
  go_wp2_with fail
  have hw2 := hW_1
  (with_reducible refine (HTU.out _ (hMW.below hw2)).mono ?_)
  rintro e w2 ⟨rfl,hb2⟩
  clear b0
  go_wp2_with fail
  have hW_2 := (Below.tr hW_1 hb2)
  have hw3 := hW_2
  (with_reducible refine (omSum_sp w.heap.size b o c K (1) (1) (1) e _ (cellB hw3 hWl HHC.out) (Nat.lt_of_lt_of_le hWl hw3.size) (hMW.below hw3) (by omega) (by omega) (by omega) (by omega)).mono ?_)
  rintro e w3 ⟨v3,rfl,hi3,hb3⟩
  obtain ⟨g3,p3,n3,c3,h3,o3,m3,e3,rfl⟩ := hi3.form
  go_wp2_with fail
  have hW_3 := (Below.tr hW_2 hb3)
  have hw4 := hW_3
  (with_reducible refine (omMinus_i w.heap.size b o c K 2 1 (2) (1) e _ (cellB hw4 hWl HHC.out) (Nat.lt_of_lt_of_le hWl hw4.size) (hMW.below hw4) (by omega) (by omega) (by omega) rfl rfl).mono ?_)
  rintro e w4 ⟨v4,rfl,hi4,hb4⟩
  obtain ⟨g4,p4,n4,c4,h4,o4,m4,e4,rfl⟩ := hi4.form
  go_wp2_with fail
  have hW_4 := (Below.tr hW_3 hb4)
  have hw5 := hW_4
  (with_reducible refine (omMinus_i w.heap.size b o c K 0 2 (0) (2) e _ (cellB hw5 hWl HHC.out) (Nat.lt_of_lt_of_le hWl hw5.size) (hMW.below hw5) (by omega) (by omega) (by omega) rfl rfl).mono ?_)
  rintro e w5 ⟨v5,rfl,hi5,hb5⟩
  obtain ⟨g5,p5,n5,c5,h5,o5,m5,e5,rfl⟩ := hi5.form
  go_wp2_with fail
  have hW_5 := (Below.tr hW_4 hb5)
  have hw6 := hW_5
  (with_reducible refine (omMinus_i w.heap.size b o c K 1 0 (1) (0) e _ (cellB hw6 hWl HHC.out) (Nat.lt_of_lt_of_le hWl hw6.size) (hMW.below hw6) (by omega) (by omega) (by omega) rfl rfl).mono ?_)
  rintro e w6 ⟨v6,rfl,hi6,hb6⟩
  obtain ⟨g6,p6,n6,c6,h6,o6,m6,e6,rfl⟩ := hi6.form
  go_wp2_with fail
  have hW_6 := (Below.tr hW_5 hb6)
  have hw7 := hW_6
  (with_reducible refine (omMinus_i w.heap.size b o c K 2 1 (2) (1) e _ (cellB hw7 hWl HHC.out) (Nat.lt_of_lt_of_le hWl hw7.size) (hMW.below hw7) (by omega) (by omega) (by omega) rfl rfl).mono ?_)
  rintro e w7 ⟨v7,rfl,hi7,hb7⟩
  obtain ⟨g7,p7,n7,c7,h7,o7,m7,e7,rfl⟩ := hi7.form
  go_wp2_with fail
  have hW_7 := (Below.tr hW_6 hb7)
  have hw8 := hW_7
  (with_reducible refine (omSum_sp w.heap.size b o c K (1) (-1) (-1) e _ (cellB hw8 hWl HHC.out) (Nat.lt_of_lt_of_le hWl hw8.size) (hMW.below hw8) (by omega) (by omega) (by omega) (by omega)).mono ?_)
  rintro e w8 ⟨v8,rfl,hi8,hb8⟩
  obtain ⟨g8,p8,n8,c8,h8,o8,m8,e8,rfl⟩ := hi8.form
  go_wp2_with fail
  have hW_8 := (Below.tr hW_7 hb8)
  have hw9 := hW_8
  (with_reducible refine (omPlus_i w.heap.size b o c K 0 1 (0) (1) e _ (cellB hw9 hWl HHC.out) (Nat.lt_of_lt_of_le hWl hw9.size) (hMW.below hw9) (by omega) (by omega) (by omega) rfl rfl).mono ?_)
  rintro e w9 ⟨v9,rfl,hi9,hb9⟩
  obtain ⟨g9,p9,n9,c9,h9,o9,m9,e9,rfl⟩ := hi9.form
  go_wp2_with fail
  have hW_9 := (Below.tr hW_8 hb9)
  have hw10 := hW_9
  (with_reducible refine (omPlus_i w.heap.size b o c K 0 2 (0) (2) e _ (cellB hw10 hWl HHC.out) (Nat.lt_of_lt_of_le hWl hw10.size) (hMW.below hw10) (by omega) (by omega) (by omega) rfl rfl).mono ?_)
  rintro e w10 ⟨v10,rfl,hi10,hb10⟩
  obtain ⟨g10,p10,n10,c10,h10,o10,m10,e10,rfl⟩ := hi10.form
  go_wp2_with fail
  have g0 := (Below.tr hW_9 hb10)
  have hw11 := g0
  (with_reducible refine (omMinus_i w.heap.size b o c K 0 2 (0) (2) e _ (cellB hw11 hWl HHC.out) (Nat.lt_of_lt_of_le hWl hw11.size) (hMW.below hw11) (by omega) (by omega) (by omega) rfl rfl).mono ?_)
  rintro e w11 ⟨v11,rfl,hi11,hb11⟩
  obtain ⟨g11,p11,n11,c11,h11,o11,m11,e11,rfl⟩ := hi11.form
  go_wp2_with fail
  have h0 := (Below.tr g0 hb11)
  have hw12 := h0
  (with_reducible refine (omPlus_i w.heap.size b o c K 0 1 (0) (1) e _ (cellB hw12 hWl HHC.out) (Nat.lt_of_lt_of_le hWl hw12.size) (hMW.below hw12) (by omega) (by omega) (by omega) rfl rfl).mono ?_)
  rintro e w12 ⟨v12,rfl,hi12,hb12⟩
  obtain ⟨g12,p12,n12,c12,h12,o12,m12,e12,rfl⟩ := hi12.form
  go_wp2_with fail
  have i0 := (Below.tr h0 hb12)
  have hw13 := i0
  (with_reducible refine (omSum_sp w.heap.size b o c K (-1) (1) (-1) e _ (cellB hw13 hWl HHC.out) (Nat.lt_of_lt_of_le hWl hw13.size) (hMW.below hw13) (by omega) (by omega) (by omega) (by omega)).mono ?_)
  rintro e w13 ⟨v13,rfl,hi13,hb13⟩
  obtain ⟨g13,p13,n13,c13,h13,o13,m13,e13,rfl⟩ := hi13.form
  go_wp2_with fail
  have j0 := (Below.tr i0 hb13)
  have hw14 := j0
  (with_reducible refine (omPlus_i w.heap.size b o c K 1 2 (1) (2) e _ (cellB hw14 hWl HHC.out) (Nat.lt_of_lt_of_le hWl hw14.size) (hMW.below hw14) (by omega) (by omega) (by omega) rfl rfl).mono ?_)
  rintro e w14 ⟨v14,rfl,hi14,hb14⟩
  obtain ⟨g14,p14,n14,c14,h14,o14,m14,e14,rfl⟩ := hi14.form
  go_wp2_with fail
  have k0 := (Below.tr j0 hb14)
  have hw15 := k0
  (with_reducible refine (omMinus_i w.heap.size b o c K 1 0 (1) (0) e _ (cellB hw15 hWl HHC.out) (Nat.lt_of_lt_of_le hWl hw15.size) (hMW.below hw15) (by omega) (by omega) (by omega) rfl rfl).mono ?_)
  rintro e w15 ⟨v15,rfl,hi15,hb15⟩
  obtain ⟨g15,p15,n15,c15,h15,o15,m15,e15,rfl⟩ := hi15.form
  go_wp2_with fail
  have l0 := (Below.tr k0 hb15)
  have hw16 := l0
  (with_reducible refine (omPlus_i w.heap.size b o c K 0 2 (0) (2) e _ (cellB hw16 hWl HHC.out) (Nat.lt_of_lt_of_le hWl hw16.size) (hMW.below hw16) (by omega) (by omega) (by omega) rfl rfl).mono ?_)
  rintro e w16 ⟨v16,rfl,hi16,hb16⟩
  obtain ⟨g16,p16,n16,c16,h16,o16,m16,e16,rfl⟩ := hi16.form
  go_wp2_with fail
  have m0 := (Below.tr l0 hb16)
  have hw17 := m0
  (with_reducible refine (omPlus_i w.heap.size b o c K 1 2 (1) (2) e _ (cellB hw17 hWl HHC.out) (Nat.lt_of_lt_of_le hWl hw17.size) (hMW.below hw17) (by omega) (by omega) (by omega) rfl rfl).mono ?_)
  rintro e w17 ⟨v17,rfl,hi17,hb17⟩
  obtain ⟨g17,p17,n17,c17,h17,o17,m17,e17,rfl⟩ := hi17.form
  go_wp2_with fail
  have o1 := (Below.tr m0 hb17)
  have hw18 := o1
  (with_reducible refine (omSum_sp w.heap.size b o c K (-1) (-1) (1) e _ (cellB hw18 hWl HHC.out) (Nat.lt_of_lt_of_le hWl hw18.size) (hMW.below hw18) (by omega) (by omega) (by omega) (by omega)).mono ?_)
  rintro e w18 ⟨v18,rfl,hi18,hb18⟩
  obtain ⟨g18,p18,n18,c18,h18,o18,m18,e18,rfl⟩ := hi18.form
  have l1 := (((((((((((((((((n0.to hb2).to hb3).to hb4).to hb5).to hb6).to hb7).to hb8).to hb9).to hb10).to hb11).to hb12).to hb13).to hb14).to hb15).to hb16).to hb17).to hb18)
  have p1 := (l1).1
  have e0 := ((((((((((((((((((n1.to hb1).to hb2).to hb3).to hb4).to hb5).to hb6).to hb7).to hb8).to hb9).to hb10).to hb11).to hb12).to hb13).to hb14).to hb15).to hb16).to hb17).to hb18)
  have q1 := (e0).1
  obtain ⟨hA2,a0⟩ := bx1 w18 rfl [.bool g3,.slice p3 n3 c3,.bool h3,.slice o3 m3 e3,.bool g4,.slice p4 n4 c4,.bool h4,.slice o4 m4 e4,.bool g5,.slice p5 n5 c5,.bool h5,.slice o5 m5 e5,.bool g6,.slice p6 n6 c6,.bool h6,.slice o6 m6 e6,.bool g7,.slice p7 n7 c7,.bool h7,.slice o7 m7 e7,.bool g8,.slice p8 n8 c8,.bool h8,.slice o8 m8 e8,.bool g9,.slice p9 n9 c9,.bool h9,.slice o9 m9 e9,.bool g10,.slice p10 n10 c10,.bool h10,.slice o10 m10 e10,.bool g11,.slice p11 n11 c11,.bool h11,.slice o11 m11 e11,.bool g12,.slice p12 n12 c12,.bool h12,.slice o12 m12 e12,.bool g13,.slice p13 n13 c13,.bool h13,.slice o13 m13 e13,.bool g14,.slice p14 n14 c14,.bool h14,.slice o14 m14 e14,.bool g15,.slice p15 n15 c15,.bool h15,.slice o15 m15 e15,.bool g16,.slice p16 n16 c16,.bool h16,.slice o16 m16 e16,.bool g17,.slice p17 n17 c17,.bool h17,.slice o17 m17 e17,.bool g18,.slice p18 n18 c18,.bool h18,.slice o18 m18 e18] 63
  have o0 := (Below.tr (Below.tr (Below.tr (Below.tr (Below.tr (Below.tr (Below.tr (Below.tr (Below.tr (Below.tr (Below.tr (Below.tr (Below.tr (Below.tr (Below.tr (Below.tr (Below.tr (Below.tr (Below.tr hB_0 hA1) hb1) hb2) hb3) hb4) hb5) hb6) hb7) hb8) hb9) hb10) hb11) hb12) hb13) hb14) hb15) hb16) hb17) hb18)
  have d1 := (((((((((((((((hi3.below hb4).below hb5).below hb6).below hb7).below hb8).below hb9).below hb10).below hb11).below hb12).below hb13).below hb14).below hb15).below hb16).below hb17).below hb18)
  have e1 := ((((((((((((((hi4.below hb5).below hb6).below hb7).below hb8).below hb9).below hb10).below hb11).below hb12).below hb13).below hb14).below hb15).below hb16).below hb17).below hb18)
  have g1 := (((((((((((((hi5.below hb6).below hb7).below hb8).below hb9).below hb10).below hb11).below hb12).below hb13).below hb14).below hb15).below hb16).below hb17).below hb18)
  have h1 := ((((((((((((hi6.below hb7).below hb8).below hb9).below hb10).below hb11).below hb12).below hb13).below hb14).below hb15).below hb16).below hb17).below hb18)
  have i1 := (((((((((((hi7.below hb8).below hb9).below hb10).below hb11).below hb12).below hb13).below hb14).below hb15).below hb16).below hb17).below hb18)
  have j1 := ((((((((((hi8.below hb9).below hb10).below hb11).below hb12).below hb13).below hb14).below hb15).below hb16).below hb17).below hb18)
  have k1 := (((((((((hi9.below hb10).below hb11).below hb12).below hb13).below hb14).below hb15).below hb16).below hb17).below hb18)
  have p0 := ((((((((hi10.below hb11).below hb12).below hb13).below hb14).below hb15).below hb16).below hb17).below hb18)
  have s0 := (((((((hi11.below hb12).below hb13).below hb14).below hb15).below hb16).below hb17).below hb18)
  have t0 := ((((((hi12.below hb13).below hb14).below hb15).below hb16).below hb17).below hb18)
  have u0 := (((((hi13.below hb14).below hb15).below hb16).below hb17).below hb18)
  have v0 := ((((hi14.below hb15).below hb16).below hb17).below hb18)
  have w0 := (((hi15.below hb16).below hb17).below hb18)
  have a1 := ((hi16.below hb17).below hb18)
  have b1 := (hi17.below hb18)
  have HR4 : Hid (Rows4 ((w18.alloc (.cells #[.bool g3,.slice p3 n3 c3,.bool h3,.slice o3 m3 e3,.bool g4,.slice p4 n4 c4,.bool h4,.slice o4 m4 e4,.bool g5,.slice p5 n5 c5,.bool h5,.slice o5 m5 e5,.bool g6,.slice p6 n6 c6,.bool h6,.slice o6 m6 e6,.bool g7,.slice p7 n7 c7,.bool h7,.slice o7 m7 e7,.bool g8,.slice p8 n8 c8,.bool h8,.slice o8 m8 e8,.bool g9,.slice p9 n9 c9,.bool h9,.slice o9 m9 e9,.bool g10,.slice p10 n10 c10,.bool h10,.slice o10 m10 e10,.bool g11,.slice p11 n11 c11,.bool h11,.slice o11 m11 e11,.bool g12,.slice p12 n12 c12,.bool h12,.slice o12 m12 e12,.bool g13,.slice p13 n13 c13,.bool h13,.slice o13 m13 e13,.bool g14,.slice p14 n14 c14,.bool h14,.slice o14 m14 e14,.bool g15,.slice p15 n15 c15,.bool h15,.slice o15 m15 e15,.bool g16,.slice p16 n16 c16,.bool h16,.slice o16 m16 e16,.bool g17,.slice p17 n17 c17,.bool h17,.slice o17 m17 e17,.bool g18,.slice p18 n18 c18,.bool h18,.slice o18 m18 e18] 63))) (w18.heap.size) e) := Lib.hid ⟨(a0).1,fun k hk => by
    obtain rfl | rfl | rfl | rfl : k = 0 ∨ k = 1 ∨ k = 2 ∨ k = 3 := by omega
    · exact ⟨_,_,_,_,_,_,_,_,_,_,_,_,_,_,_,_,_,_,_,_,_,_,_,_,_,_,_,_,_,_,_,_,((a0).2 0 _ rfl).1,((a0).2 1 _ rfl).1,((a0).2 2 _ rfl).1,((a0).2 3 _ rfl).1,((a0).2 4 _ rfl).1,((a0).2 5 _ rfl).1,((a0).2 6 _ rfl).1,((a0).2 7 _ rfl).1,((a0).2 8 _ rfl).1,((a0).2 9 _ rfl).1,((a0).2 10 _ rfl).1,((a0).2 11 _ rfl).1,((a0).2 12 _ rfl).1,((a0).2 13 _ rfl).1,((a0).2 14 _ rfl).1,((a0).2 15 _ rfl).1,(d1.below hA2),(e1.below hA2),(g1.below hA2),(h1.below hA2),HRS2.out 0⟩
    · exact ⟨_,_,_,_,_,_,_,_,_,_,_,_,_,_,_,_,_,_,_,_,_,_,_,_,_,_,_,_,_,_,_,_,((a0).2 16 _ rfl).1,((a0).2 17 _ rfl).1,((a0).2 18 _ rfl).1,((a0).2 19 _ rfl).1,((a0).2 20 _ rfl).1,((a0).2 21 _ rfl).1,((a0).2 22 _ rfl).1,((a0).2 23 _ rfl).1,((a0).2 24 _ rfl).1,((a0).2 25 _ rfl).1,((a0).2 26 _ rfl).1,((a0).2 27 _ rfl).1,((a0).2 28 _ rfl).1,((a0).2 29 _ rfl).1,((a0).2 30 _ rfl).1,((a0).2 31 _ rfl).1,(i1.below hA2),(j1.below hA2),(k1.below hA2),(p0.below hA2),HRS2.out 1⟩
    · exact ⟨_,_,_,_,_,_,_,_,_,_,_,_,_,_,_,_,_,_,_,_,_,_,_,_,_,_,_,_,_,_,_,_,((a0).2 32 _ rfl).1,((a0).2 33 _ rfl).1,((a0).2 34 _ rfl).1,((a0).2 35 _ rfl).1,((a0).2 36 _ rfl).1,((a0).2 37 _ rfl).1,((a0).2 38 _ rfl).1,((a0).2 39 _ rfl).1,((a0).2 40 _ rfl).1,((a0).2 41 _ rfl).1,((a0).2 42 _ rfl).1,((a0).2 43 _ rfl).1,((a0).2 44 _ rfl).1,((a0).2 45 _ rfl).1,((a0).2 46 _ rfl).1,((a0).2 47 _ rfl).1,(s0.below hA2),(t0.below hA2),(u0.below hA2),(v0.below hA2),HRS2.out 2⟩
    · exact ⟨_,_,_,_,_,_,_,_,_,_,_,_,_,_,_,_,_,_,_,_,_,_,_,_,_,_,_,_,_,_,_,_,((a0).2 48 _ rfl).1,((a0).2 49 _ rfl).1,((a0).2 50 _ rfl).1,((a0).2 51 _ rfl).1,((a0).2 52 _ rfl).1,((a0).2 53 _ rfl).1,((a0).2 54 _ rfl).1,((a0).2 55 _ rfl).1,((a0).2 56 _ rfl).1,((a0).2 57 _ rfl).1,((a0).2 58 _ rfl).1,((a0).2 59 _ rfl).1,((a0).2 60 _ rfl).1,((a0).2 61 _ rfl).1,((a0).2 62 _ rfl).1,((a0).2 63 _ rfl).1,(w0.below hA2),(a1.below hA2),(b1.below hA2),(hi18.below hA2),HRS2.out 3⟩⟩
  have HBW := Lib.hid ((Below.tr o0 hA2))
  have HQR := Lib.hid ((e0.to hA2))
  go_wp2_with fail
  obtain ⟨W,hWW⟩ : ∃ W : World,W = ((w18.alloc (.cells #[.bool g3,.slice p3 n3 c3,.bool h3,.slice o3 m3 e3,.bool g4,.slice p4 n4 c4,.bool h4,.slice o4 m4 e4,.bool g5,.slice p5 n5 c5,.bool h5,.slice o5 m5 e5,.bool g6,.slice p6 n6 c6,.bool h6,.slice o6 m6 e6,.bool g7,.slice p7 n7 c7,.bool h7,.slice o7 m7 e7,.bool g8,.slice p8 n8 c8,.bool h8,.slice o8 m8 e8,.bool g9,.slice p9 n9 c9,.bool h9,.slice o9 m9 e9,.bool g10,.slice p10 n10 c10,.bool h10,.slice o10 m10 e10,.bool g11,.slice p11 n11 c11,.bool h11,.slice o11 m11 e11,.bool g12,.slice p12 n12 c12,.bool h12,.slice o12 m12 e12,.bool g13,.slice p13 n13 c13,.bool h13,.slice o13 m13 e13,.bool g14,.slice p14 n14 c14,.bool h14,.slice o14 m14 e14,.bool g15,.slice p15 n15 c15,.bool h15,.slice o15 m15 e15,.bool g16,.slice p16 n16 c16,.bool h16,.slice o16 m16 e16,.bool g17,.slice p17 n17 c17,.bool h17,.slice o17 m17 e17,.bool g18,.slice p18 n18 c18,.bool h18,.slice o18 m18 e18] 63))) := ⟨_,rfl⟩
  have HWW := Lib.hid hWW
  rw [← hWW] at HR4 HBW HQR
  clear hWW
  go_loopw [74,8,75,76,77,78,79,80,81,82,83,84] (fun i _ _ _ _ _ _ _ _ _ _ _ wr => ∃ k : Nat,k ≤ 4 ∧ i = .int .i64 (k : Nat) ∧ Hid (∀ j,j < k → nzB (omRow e j) = false) ∧ Bx wr (w.heap.size + 1) [.int .i64 0,.int .i64 0,.int .i64 0,.int .i64 0] ∧ Below W.heap.size W wr) (fun i _ _ _ _ _ _ _ _ _ _ _ _ => 4 - (intOf i).toNat)
  case atStart => exact ⟨0,by omega,rfl,Lib.hid (fun j hj => by omega),HWW.out ▸ HQR.out,HWW.out ▸ Below.refl _ _⟩
  case round =>
    obtain ⟨k,hk,rfl,HJ,hqr,hBr⟩ := hrel
    have hBw := Lib.hid (Below.tr HBW.out hBr)
    by_cases hlt : k < 4
    · obtain ⟨hbb,hrows⟩ := HR4.out
      obtain ⟨yga,ypa,yna,yca,yha,yoa,yma,yea,ygb,ypb,ynb,ycb,yhb,yob,ymb,yeb,ygc,ypc,ync,ycc,yhc,yoc,ymc,yec,ygd,ypd,ynd,ycd,yhd,yod,ymd,yed,x0,x1,x2,x3,x4,x5,x6,x7,x8,x9,x10,x11,x12,x13,x14,x15,hf0,hf1,hf2,hf3,hfK⟩ := hrows k hlt
      clear hrows
      have z0 := cellB hBr hbb x0
      have z1 := cellB hBr hbb x1
      have z2 := cellB hBr hbb x2
      have z3 := cellB hBr hbb x3
      have z4 := cellB hBr hbb x4
      have z5 := cellB hBr hbb x5
      have z6 := cellB hBr hbb x6
      have z7 := cellB hBr hbb x7
      have z8 := cellB hBr hbb x8
      have z9 := cellB hBr hbb x9
      have z10 := cellB hBr hbb x10
      have z11 := cellB hBr hbb x11
      have z12 := cellB hBr hbb x12
      have z13 := cellB hBr hbb x13
      have z14 := cellB hBr hbb x14
      have z15 := cellB hBr hbb x15
      clear x0 x1 x2 x3 x4 x5 x6 x7 x8 x9 x10 x11 x12 x13 x14 x15
      have hV : V4 wr (.bool yga) (.slice ypa yna yca) (.bool yha) (.slice yoa yma yea) (.bool ygb) (.slice ypb ynb ycb) (.bool yhb) (.slice yob ymb yeb) (.bool ygc) (.slice ypc ync ycc) (.bool yhc) (.slice yoc ymc yec) (.bool ygd) (.slice ypd ynd ycd) (.bool yhd) (.slice yod ymd yed) (omRow e k) 50000000 := ⟨hf0.below hBr,hf1.below hBr,hf2.below hBr,hf3.below hBr,hfK⟩
      have HV4 := Lib.hid hV
      clear hV hf0 hf1 hf2 hf3 hfK
      have hkd : decide ((k : Int) < 4) = true := by simp;omega
      have hk0 : (0 : Int) ≤ (k : Int) := by omega
      have hk4 : (k : Int) < 4 := by omega
      have hq8 : Bx (wr.alloc (.cells #[.bool yga,.slice ypa yna yca,.bool yha,.slice yoa yma yea,.bool ygb,.slice ypb ynb ycb,.bool yhb,.slice yob ymb yeb,.bool ygc,.slice ypc ync ycc,.bool yhc,.slice yoc ymc yec,.bool ygd,.slice ypd ynd ycd,.bool yhd,.slice yod ymd yed] 63)) wr.heap.size [.bool yga,.slice ypa yna yca,.bool yha,.slice yoa yma yea,.bool ygb,.slice ypb ynb ycb,.bool yhb,.slice yob ymb yeb,.bool ygc,.slice ypc ync ycc,.bool yhc,.slice yoc ymc yec,.bool ygd,.slice ypd ynd ycd,.bool yhd,.slice yod ymd yed] := by have := Bx.new wr [.bool yga,.slice ypa yna yca,.bool yha,.slice yoa yma yea,.bool ygb,.slice ypb ynb ycb,.bool yhb,.slice yob ymb yeb,.bool ygc,.slice ypc ync ycc,.bool yhc,.slice yoc ymc yec,.bool ygd,.slice ypd ynd ycd,.bool yhd,.slice yod ymd yed] 63;simpa using this
      have hBa : Below wr.heap.size wr (wr.alloc (.cells #[.bool yga,.slice ypa yna yca,.bool yha,.slice yoa yma yea,.bool ygb,.slice ypb ynb ycb,.bool yhb,.slice yob ymb yeb,.bool ygc,.slice ypc ync ycc,.bool yhc,.slice yoc ymc yec,.bool ygd,.slice ypd ynd ycd,.bool yhd,.slice yod ymd yed] 63)) := (Below.refl _ _).alloc (Nat.le_refl _) _
      go_wp2_with fail
      refine (nonzero_any _ _ _ _ _ _ _ _ _ _ _ _ _ _ _ _ (omRow e k) 50000000 _ (HV4.out.below hBa) (by omega)).mono ?_
      rintro x wB ⟨rfl,hbB⟩
      clear z0 z1 z2 z3 z4 z5 z6 z7 z8 z9 z10 z11 z12 z13 z14 z15
      have hBb := Below.tr hBa hbB
      have hqr2 := hqr.to hBb
      have hq9 := hq8.to hbB
      by_cases hz : nzB (omRow e k) = true
      · obtain ⟨za,zb,zc,zd,ze,hzz⟩ := primV_form (clearXs (omRow e k))
        have HZ := Lib.hid hzz
        have HNZ := nz_ne hz
        have HV : Hid (omRes e = .tuple #[.agg #[.int .i64 za,.int .i64 zb,.int .i64 zc,.int .i64 zd],.int .i64 ze]) := Lib.hid (by rw [omRes_at hlt hz HJ.out,hzz])
        clear hzz
        have y0 := hq9.c0
        have y1 := hq9.c1
        have y2 := hq9.c2
        have y3 := hq9.c3
        have y4 := hq9.c4
        have y5 := hq9.c5
        have y6 := hq9.c6
        have y7 := hq9.c7
        have y8 := hq9.c8
        have y9 := hq9.c9
        have y10 := hq9.c10
        have y11 := hq9.c11
        have y12 := hq9.c12
        have y13 := hq9.c13
        have y14 := hq9.c14
        have y15 := hq9.c15
        go_wp2_with fail
        refine (cleared_f _ _ _ _ _ _ _ _ _ _ _ _ _ _ _ _ (omRow e k) 50000000 _ (HV4.out.below hBb) (by omega) HNZ.out HZ.out).mono ?_
        rintro x wC ⟨rfl,hbC⟩
        clear y0 y1 y2 y3 y4 y5 y6 y7 y8 y9 y10 y11 y12 y13 y14 y15
        have hqr3 := hqr2.to hbC
        have r0 := hqr3.c0
        have f0 := hqr3.f0
        have r1 := hqr3.c1
        have f1 := hqr3.f1
        have r2 := hqr3.c2
        have f2 := hqr3.f2
        have r3 := hqr3.c3
        have f3 := hqr3.f3
        go_wp2_with fail
        exact bodyPost_ret (v := .tuple #[.agg #[.int .i64 za,.int .i64 zb,.int .i64 zc,.int .i64 zd],.int .i64 ze]) (by simp [results,Tryz.results14,go_sem,r0,r1,r2,r3,f0,f1,f2,f3]) rfl ⟨by rw [HV.out],Below.sets4 (Below.tr (Below.tr hBw.out hBb) hbC) (b := w.heap.size + 1) (by omega) _ _ _ _⟩
      · have hzf : nzB (omRow e k) = false := by simpa using hz
        have HN := Lib.hid hzf
        clear hz
        go_wp2_with fail
        go_roundw
        case rel => exact ⟨k + 1,by omega,by go_num,Lib.hid (fun j hj => if e9 : j < k then HJ.out j e9 else by rw [show j = k by omega];exact HN.out),hqr2,Below.tr hBr hBb⟩
        case measure => simp [intOf];omega
    · have he : k = 4 := by omega
      subst he
      have HNO : Hid (omRes e = .tuple #[quatV 0 0 0 0,.int .i64 15]) := Lib.hid (omRes_none HJ.out)
      have r0 := hqr.c0
      have f0 := hqr.f0
      have r1 := hqr.c1
      have f1 := hqr.f1
      have r2 := hqr.c2
      have f2 := hqr.f2
      have r3 := hqr.c3
      have f3 := hqr.f3
      go_wp2_with fail
      exact bodyPost_ret (v := .tuple #[.agg #[.int .i64 0,.int .i64 0,.int .i64 0,.int .i64 0],.int .i64 15]) (by simp [results,Tryz.results14,go_sem,r0,r1,r2,r3,f0,f1,f2,f3]) rfl ⟨by rw [HNO.out];rfl,Below.sets4 hBw.out (b := w.heap.size + 1) (by omega) _ _ _ _⟩
end Go.Proofs.YtidfgdchcpmnfaaGreat
