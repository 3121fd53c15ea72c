/-
  Lemmas for the statements about rotations, part 18 of 51.
-/
import Derived.Deep.RegionWith
import Derived.Test.YtidfgdchcpmnfaaGreatZb11
import Derived.Test.YtidfgdchcpmnfaaGreatZb14
import Derived.Test.YtidfgdchcpmnfaaGreatZb17
namespace Go.Proofs.YtidfgdchcpmnfaaGreat
open Go.RowKit
set_option maxRecDepth 100000
set_option maxHeartbeats 4000000
set_option linter.unusedSimpArgs false
set_option linter.unusedVariables false
theorem underRats : Tryz.prog.underlying 25 = some (.slice 30) := by kernel_rfl
theorem underMat : Tryz.prog.underlying 23 = some (.slice 25) := by kernel_rfl
theorem infoRats : (Tryz.prog.info? 25).map (fun i => (i.zero,i.size,i.bytes)) = some (some (.slice none 0 0),1,24) := by kernel_rfl
theorem infoRat : (Tryz.prog.info? 30).map (fun i => (i.zero,i.size,i.bytes)) = some (some (.agg #[.bool false,.slice none 0 0,.bool false,.slice none 0 0]),4,64) := by kernel_rfl
theorem make_rats (n : Nat) (hn : n ≤ 1000000) (w : World) :
    Sem.run Tryz.prog (Instr.makeSlice 25 (.int .i64 (n : Int)) (.int .i64 (n : Int))) w = .ok (.slice (some ⟨w.heap.size,0,none⟩) n n) (w.alloc (.cells (madeCells Z4 (n * 4)) 30)) := by
  obtain ⟨i,hi,hzz⟩ := Option.map_eq_some_iff.1 infoRat
  simp only [Prod.mk.injEq] at hzz
  obtain ⟨hz,hs,hb⟩ := hzz
  have hr := run_make (P := Tryz.prog) w 25 30 i _ underRats hi hz .i64 .i64 n n (by omega) (Int.le_refl _) (by rw [hb];omega) (by omega)
  simp only [Int.toNat_natCast,hs] at hr
  exact hr
theorem make_rows (n : Nat) (hn : n ≤ 1000000) (w : World) :
    Sem.run Tryz.prog (Instr.makeSlice 23 (.int .i64 (n : Int)) (.int .i64 (n : Int))) w = .ok (.slice (some ⟨w.heap.size,0,none⟩) n n) (w.alloc (.cells (madeCells #[.slice none 0 0] n) 25)) :=
  run_make_row' 23 25 (.slice none 0 0) 24 underMat infoRats rfl .i64 .i64 n (by omega) (by omega) w
theorem made1_any (R C K F : Nat) (c0 : Value) (g : Nat → Nat → Rat) (w : World) (hR : R ≤ 1000000) (hC : C ≤ 1000000) (hg : ∀ i j,i < R → j < C → rsz (g i j) ≤ K)
    (hent : ∀ (a b c0 : Value) (w : World),Sem.run Tryz.prog (callFunc F #[a,b,c0]) w = .ok (.enter F #[a,b,c0]) w)
    (hF : ∀ (i j : Nat) (w' : World),i < R → j < C → Below w.heap.size w w' → Calls Tryz.prog F #[.int .i64 (i : Nat),.int .i64 (j : Nat),c0] w' (GQ (g i j) w')) :
    Calls Tryz.prog 142 #[.int .i64 (R : Nat),.int .i64 (C : Nat),.func (.func F) #[] #[c0]] w (GMatO w.heap.size R C K g w) := by
  have hmk := make_rows R hR
  have hmk2 := make_rats C hC
  have HG := Lib.hid hg
  clear hg
  have HF := Lib.hid hF
  clear hF
  go_enter Tryz.func142,Tryz.ntmps142
  go_wp2_with fail
  go_loopw [14,8,9,15,16,17,18,19,20,21,22,23,24,25,26,27,28,29,30,31,32,33,34,35,36,37,38,39,40,41] (fun i _ _ _ _ _ _ _ _ _ _ _ _ _ _ _ _ _ _ _ _ _ _ _ _ _ _ _ _ _ wr => ∃ (k : Nat) (rb : Nat → Nat),k ≤ R ∧ i = .int .i64 (k : Nat) ∧ MatO wr w.heap.size w.heap.size R C K k rb g ∧ Below w.heap.size w wr) (fun i _ _ _ _ _ _ _ _ _ _ _ _ _ _ _ _ _ _ _ _ _ _ _ _ _ _ _ _ _ _ => R - (intOf i).toNat)
  case atStart => exact ⟨0,fun _ => 0,by omega,rfl,MatO.start w R C K _ g _ (Nat.le_refl _),(Below.refl _ _).alloc (Nat.le_refl _) _⟩
  case round =>
    obtain ⟨k,rb,hk,rfl,hM,hB⟩ := hrel
    have hzB := hB.size
    by_cases hlt : k < R
    · have hkd : decide (k < R) = true := by simpa using hlt
      have hP := MatP.start hM hlt hzB
      have hc0 := (hM.outer.alloc (.cells (madeCells Z4 (C * 4)) 30)).cell hlt
      rw [if_neg (by omega)] at hc0
      have hf0 := (hM.outer.alloc (.cells (madeCells Z4 (C * 4)) 30)).frozen k
      have hc1 := (hP.facts hlt).1
      simp only [if_true] at hc1
      have hB1 : Below w.heap.size w ((wr.alloc (.cells (madeCells Z4 (C * 4)) 30)).setCell ⟨w.heap.size,k,none⟩ (.slice (some ⟨wr.heap.size,0,none⟩) C C)) := (hB.alloc hzB _).setCell (p := ⟨w.heap.size,k,none⟩) (Nat.le_refl _) _
      go_wp2_with fail
      obtain ⟨wo,rfl⟩ : ∃ wo : World,wo = wr := ⟨_,rfl⟩
      go_loopw [27,9,28,29,30,31,32,33,34,35,36,37,38,39,40] (fun i _ _ _ _ _ _ _ _ _ _ _ _ _ _ wq => ∃ (j : Nat),j ≤ C ∧ i = .int .i64 (j : Nat) ∧ MatP wq w.heap.size w.heap.size R C K k j (fun i => if i = k then wo.heap.size else rb i) g ∧ Below w.heap.size w wq) (fun i _ _ _ _ _ _ _ _ _ _ _ _ _ _ _ => C - (intOf i).toNat)
      case atStart => exact ⟨0,by omega,rfl,hP,hB1⟩
      case round =>
        clear hc0 hf0 hc1
        obtain ⟨j,hj,rfl,hQ,hBq⟩ := hrel
        by_cases hlj : j < C
        · have hkj : decide (j < C) = true := by simpa using hlj
          obtain ⟨fc,fb,fr,fn,fr2,fb2⟩ := hQ.facts hlt
          simp only [if_true] at fc fr fn fr2
          have hQd := hQ.below (Below.refl _ _).drew
          have HFc := HF.out k j wr.drew hlt hlj hBq.drew
          have hgk := HG.out k j hlt hlj
          have S0 : (fun w' : World => w'.cell? ⟨w.heap.size,k,none⟩ = some (.slice (some ⟨wo.heap.size,0,none⟩) C C) ∧ wo.heap.size < w'.heap.size) wr.drew := ⟨fc,fr⟩
          have KK : ∀ A B : World,(fun w' : World => w'.cell? ⟨w.heap.size,k,none⟩ = some (.slice (some ⟨wo.heap.size,0,none⟩) C C) ∧ wo.heap.size < w'.heap.size) A → Below A.heap.size A B → (fun w' : World => w'.cell? ⟨w.heap.size,k,none⟩ = some (.slice (some ⟨wo.heap.size,0,none⟩) C C) ∧ wo.heap.size < w'.heap.size) B := by
            rintro A B ⟨h0,h1⟩ hb
            have hs := hb.size
            exact ⟨by rw [(bcell hb).1 _ _ (by omega)];exact h0,by omega⟩
          have KS : ∀ (A : World) (o : Nat) (x0 x1 x2 x3 : Value),(fun w' : World => w'.cell? ⟨w.heap.size,k,none⟩ = some (.slice (some ⟨wo.heap.size,0,none⟩) C C) ∧ wo.heap.size < w'.heap.size) A → (fun w' : World => w'.cell? ⟨w.heap.size,k,none⟩ = some (.slice (some ⟨wo.heap.size,0,none⟩) C C) ∧ wo.heap.size < w'.heap.size) ((((A.setCell ⟨wo.heap.size,o,none⟩ x0).setCell ⟨wo.heap.size,o + 1,none⟩ x1).setCell ⟨wo.heap.size,o + 2,none⟩ x2).setCell ⟨wo.heap.size,o + 3,none⟩ x3) := by
            rintro A o x0 x1 x2 x3 ⟨h0,h1⟩
            refine ⟨?_,by simpa using h1⟩
            rw [World.cell?_setCell_far _ _ _ _ (by simpa using fn),World.cell?_setCell_far _ _ _ _ (by simpa using fn),World.cell?_setCell_far _ _ _ _ (by simpa using fn),World.cell?_setCell_far _ _ _ _ (by simpa using fn)]
            exact h0
          go_wp2_with fail
          have tk1 : True := trivial
          go_region_held3 (fun w' : World => w'.cell? ⟨w.heap.size,k,none⟩ = some (.slice (some ⟨wo.heap.size,0,none⟩) C C) ∧ wo.heap.size < w'.heap.size) (first | with_reducible exact S0 | with_reducible exact KK _ _ (by assumption) (by assumption) | with_reducible exact KS _ _ _ _ _ _ (by assumption) | (simp;done))
            (first
              | (((have := tk1;clear tk1;(with_reducible refine HFc.mono ?_);rintro e w1 ⟨v1,rfl,hi1,hb1⟩;obtain ⟨g1,p1,n1,c1,h1,o1,m1,e1,rfl⟩ := hi1.form;have hQ1 := hQd.below hb1;have hr1 := hQ1.row;simp only [if_true] at hr1;obtain ⟨r0,r1,r2,r3,r4,r5,r6,r7,d0,d1,d2,d3,_,_⟩ := hr1.cells hlj;have f0 := hr1.frozen (j * 4);have f1 := hr1.frozen (j * 4 + 1);have f2 := hr1.frozen (j * 4 + 2);have f3 := hr1.frozen (j * 4 + 3))))
            )
          have hst := hQ1.step hlj (QC.of hi1 (HG.out k j hlt hlj))
          have hlo := hQ1.low (Below.tr hBq.drew hb1) (.bool g1) (.slice p1 n1 c1) (.bool h1) (.slice o1 m1 e1) (j * 4)
          simp only [if_true] at hst hlo
          go_wp2_with fail
          go_roundw
          case rel => exact ⟨j + 1,by omega,by go_num,hst,hlo⟩
          case measure => simp [intOf];omega
        · have he : j = C := by omega
          have hkj : decide (C < C) = false := by simp
          subst he
          go_wp2_with fail
          go_roundw
          case rel => exact ⟨k + 1,_,by omega,by go_num,hQ.done,hBq⟩
          case measure => simp [intOf];omega
    · have he : k = R := by omega
      subst he
      have hkj : decide (k < k) = false := by simp
      go_wp2_with fail
      go_ret
      exact ⟨_,rb,rfl,hM,hB⟩
theorem made2_any (R C K F : Nat) (c0 c1 : Value) (g : Nat → Nat → Rat) (w : World) (hR : R ≤ 1000000) (hC : C ≤ 1000000) (hg : ∀ i j,i < R → j < C → rsz (g i j) ≤ K)
    (hent : ∀ (a b c0 c1 : Value) (w : World),Sem.run Tryz.prog (callFunc F #[a,b,c0,c1]) w = .ok (.enter F #[a,b,c0,c1]) w)
    (hF : ∀ (i j : Nat) (w' : World),i < R → j < C → Below w.heap.size w w' → Calls Tryz.prog F #[.int .i64 (i : Nat),.int .i64 (j : Nat),c0,c1] w' (GQ (g i j) w')) :
    Calls Tryz.prog 142 #[.int .i64 (R : Nat),.int .i64 (C : Nat),.func (.func F) #[] #[c0,c1]] w (GMatO w.heap.size R C K g w) := by
  have hmk := make_rows R hR
  have hmk2 := make_rats C hC
  have HG := Lib.hid hg
  clear hg
  have HF := Lib.hid hF
  clear hF
  go_enter Tryz.func142,Tryz.ntmps142
  go_wp2_with fail
  go_loopw [14,8,9,15,16,17,18,19,20,21,22,23,24,25,26,27,28,29,30,31,32,33,34,35,36,37,38,39,40,41] (fun i _ _ _ _ _ _ _ _ _ _ _ _ _ _ _ _ _ _ _ _ _ _ _ _ _ _ _ _ _ wr => ∃ (k : Nat) (rb : Nat → Nat),k ≤ R ∧ i = .int .i64 (k : Nat) ∧ MatO wr w.heap.size w.heap.size R C K k rb g ∧ Below w.heap.size w wr) (fun i _ _ _ _ _ _ _ _ _ _ _ _ _ _ _ _ _ _ _ _ _ _ _ _ _ _ _ _ _ _ => R - (intOf i).toNat)
  case atStart => exact ⟨0,fun _ => 0,by omega,rfl,MatO.start w R C K _ g _ (Nat.le_refl _),(Below.refl _ _).alloc (Nat.le_refl _) _⟩
  case round =>
    obtain ⟨k,rb,hk,rfl,hM,hB⟩ := hrel
    have hzB := hB.size
    by_cases hlt : k < R
    · have hkd : decide (k < R) = true := by simpa using hlt
      have hP := MatP.start hM hlt hzB
      have hc0 := (hM.outer.alloc (.cells (madeCells Z4 (C * 4)) 30)).cell hlt
      rw [if_neg (by omega)] at hc0
      have hf0 := (hM.outer.alloc (.cells (madeCells Z4 (C * 4)) 30)).frozen k
      have hc1 := (hP.facts hlt).1
      simp only [if_true] at hc1
      have hB1 : Below w.heap.size w ((wr.alloc (.cells (madeCells Z4 (C * 4)) 30)).setCell ⟨w.heap.size,k,none⟩ (.slice (some ⟨wr.heap.size,0,none⟩) C C)) := (hB.alloc hzB _).setCell (p := ⟨w.heap.size,k,none⟩) (Nat.le_refl _) _
      go_wp2_with fail
      obtain ⟨wo,rfl⟩ : ∃ wo : World,wo = wr := ⟨_,rfl⟩
      go_loopw [27,9,28,29,30,31,32,33,34,35,36,37,38,39,40] (fun i _ _ _ _ _ _ _ _ _ _ _ _ _ _ wq => ∃ (j : Nat),j ≤ C ∧ i = .int .i64 (j : Nat) ∧ MatP wq w.heap.size w.heap.size R C K k j (fun i => if i = k then wo.heap.size else rb i) g ∧ Below w.heap.size w wq) (fun i _ _ _ _ _ _ _ _ _ _ _ _ _ _ _ => C - (intOf i).toNat)
      case atStart => exact ⟨0,by omega,rfl,hP,hB1⟩
      case round =>
        clear hc0 hf0 hc1
        obtain ⟨j,hj,rfl,hQ,hBq⟩ := hrel
        by_cases hlj : j < C
        · have hkj : decide (j < C) = true := by simpa using hlj
          obtain ⟨fc,fb,fr,fn,fr2,fb2⟩ := hQ.facts hlt
          simp only [if_true] at fc fr fn fr2
          have hQd := hQ.below (Below.refl _ _).drew
          have HFc := HF.out k j wr.drew hlt hlj hBq.drew
          have hgk := HG.out k j hlt hlj
          have S0 : (fun w' : World => w'.cell? ⟨w.heap.size,k,none⟩ = some (.slice (some ⟨wo.heap.size,0,none⟩) C C) ∧ wo.heap.size < w'.heap.size) wr.drew := ⟨fc,fr⟩
          have KK : ∀ A B : World,(fun w' : World => w'.cell? ⟨w.heap.size,k,none⟩ = some (.slice (some ⟨wo.heap.size,0,none⟩) C C) ∧ wo.heap.size < w'.heap.size) A → Below A.heap.size A B → (fun w' : World => w'.cell? ⟨w.heap.size,k,none⟩ = some (.slice (some ⟨wo.heap.size,0,none⟩) C C) ∧ wo.heap.size < w'.heap.size) B := by
            rintro A B ⟨h0,h1⟩ hb
            have hs := hb.size
            exact ⟨by rw [(bcell hb).1 _ _ (by omega)];exact h0,by omega⟩
          have KS : ∀ (A : World) (o : Nat) (x0 x1 x2 x3 : Value),(fun w' : World => w'.cell? ⟨w.heap.size,k,none⟩ = some (.slice (some ⟨wo.heap.size,0,none⟩) C C) ∧ wo.heap.size < w'.heap.size) A → (fun w' : World => w'.cell? ⟨w.heap.size,k,none⟩ = some (.slice (some ⟨wo.heap.size,0,none⟩) C C) ∧ wo.heap.size < w'.heap.size) ((((A.setCell ⟨wo.heap.size,o,none⟩ x0).setCell ⟨wo.heap.size,o + 1,none⟩ x1).setCell ⟨wo.heap.size,o + 2,none⟩ x2).setCell ⟨wo.heap.size,o + 3,none⟩ x3) := by
            rintro A o x0 x1 x2 x3 ⟨h0,h1⟩
            refine ⟨?_,by simpa using h1⟩
            rw [World.cell?_setCell_far _ _ _ _ (by simpa using fn),World.cell?_setCell_far _ _ _ _ (by simpa using fn),World.cell?_setCell_far _ _ _ _ (by simpa using fn),World.cell?_setCell_far _ _ _ _ (by simpa using fn)]
            exact h0
          go_wp2_with fail
          have tk1 : True := trivial
          go_region_held3 (fun w' : World => w'.cell? ⟨w.heap.size,k,none⟩ = some (.slice (some ⟨wo.heap.size,0,none⟩) C C) ∧ wo.heap.size < w'.heap.size) (first | with_reducible exact S0 | with_reducible exact KK _ _ (by assumption) (by assumption) | with_reducible exact KS _ _ _ _ _ _ (by assumption) | (simp;done))
            (first
              | (((have := tk1;clear tk1;(with_reducible refine HFc.mono ?_);rintro e w1 ⟨v1,rfl,hi1,hb1⟩;obtain ⟨g1,p1,n1,c1,h1,o1,m1,e1,rfl⟩ := hi1.form;have hQ1 := hQd.below hb1;have hr1 := hQ1.row;simp only [if_true] at hr1;obtain ⟨r0,r1,r2,r3,r4,r5,r6,r7,d0,d1,d2,d3,_,_⟩ := hr1.cells hlj;have f0 := hr1.frozen (j * 4);have f1 := hr1.frozen (j * 4 + 1);have f2 := hr1.frozen (j * 4 + 2);have f3 := hr1.frozen (j * 4 + 3))))
            )
          have hst := hQ1.step hlj (QC.of hi1 (HG.out k j hlt hlj))
          have hlo := hQ1.low (Below.tr hBq.drew hb1) (.bool g1) (.slice p1 n1 c1) (.bool h1) (.slice o1 m1 e1) (j * 4)
          simp only [if_true] at hst hlo
          go_wp2_with fail
          go_roundw
          case rel => exact ⟨j + 1,by omega,by go_num,hst,hlo⟩
          case measure => simp [intOf];omega
        · have he : j = C := by omega
          have hkj : decide (C < C) = false := by simp
          subst he
          go_wp2_with fail
          go_roundw
          case rel => exact ⟨k + 1,_,by omega,by go_num,hQ.done,hBq⟩
          case measure => simp [intOf];omega
    · have he : k = R := by omega
      subst he
      have hkj : decide (k < k) = false := by simp
      go_wp2_with fail
      go_ret
      exact ⟨_,rb,rfl,hM,hB⟩
end Go.Proofs.YtidfgdchcpmnfaaGreat
namespace Go.Proofs.YtidfgdchcpmnfaaGreat
open Go.RowKit
set_option maxRecDepth 100000
set_option maxHeartbeats 4000000
set_option linter.unusedSimpArgs false
set_option linter.unusedVariables false
theorem isz_gcd_le {n d : Int} {k : Nat} (hd : d ≠ 0) (h : isz d ≤ k) : isz ((Int.gcd n d : Nat) : Int) ≤ k := by
  refine Nat.le_trans (isz_mono ?_) h
  rw [Int.natAbs_natCast]
  have := Nat.gcd_le_right n.natAbs (show 0 < d.natAbs by omega)
  exact this
theorem gcd_ne {n d : Int} (hd : d ≠ 0) : ((Int.gcd n d : Nat) : Int) ≠ 0 := by
  have : 0 < Int.gcd n d := Int.gcd_pos_of_ne_zero_right _ hd
  omega
theorem fdiv_gcd_pos {n d : Int} (hd : 0 < d) : n.fdiv ((Int.gcd n d : Nat) : Int) = (Rat.divInt n d).num ∧ d.fdiv ((Int.gcd n d : Nat) : Int) = (Rat.divInt n d).den := by
  rw [divInt_num_pos hd,divInt_den_pos hd,Int.fdiv_eq_ediv_of_nonneg _ (by omega),Int.fdiv_eq_ediv_of_nonneg _ (by omega)]
  exact ⟨rfl,rfl⟩
theorem fdiv_gcd_neg {n d : Int} (hd : d < 0) : (-n).fdiv ((Int.gcd (-n) (-d) : Nat) : Int) = (Rat.divInt n d).num ∧ (-d).fdiv ((Int.gcd (-n) (-d) : Nat) : Int) = (Rat.divInt n d).den := by
  rw [← divInt_neg_neg n d]
  exact fdiv_gcd_pos (by omega)
theorem countedQ_True (v : Value) (x : Int) (w : World) (h : RawV w v true x) :
    Calls Tryz.prog 116 #[v] w (GInt x w) := by
  obtain ⟨b,p,n,c,rfl⟩ := h.raw.form
  have hB_0 : Below w.heap.size w w := Below.refl _ _
  go_enter Tryz.func116,Tryz.ntmps116
  go_wp2_with fail
  obtain ⟨hA1,f0,g0⟩ := bx2 w rfl [.bool b,.slice p n c] 28 [.bool false,.slice none 0 0] 28
  have h0 := (h.below hA1)
  (with_reducible refine (validI_any _ _ _ _ h0).mono ?_)
  rintro e w1 ⟨rfl,hb1⟩
  have q0_1 := (f0.to hb1)
  obtain ⟨i0,j0⟩ := q0_1.cs2
  have q1_1 := (g0.to hb1)
  obtain ⟨a0,c0,b0,d0⟩ := q1_1.cf2
  have h_1 := ((h.below hA1).below hb1)
  have e0 := (Below.tr (Below.tr hB_0 hA1) hb1)
  go_wp2_with fail
  exact bodyPost_ret (v := .agg #[.bool b,.slice p n c]) (by simp [results,Tryz.results116,go_sem,a0,c0,b0,d0]) rfl ⟨_,rfl,RawV.int (h_1.sets2 q1_1 rfl rfl (.bool b) (.slice p n c)),(Below.sets2 e0 (b := w.heap.size + 1) (by omega) (.bool b) (.slice p n c))⟩
theorem countedQ_False (v : Value) (x : Int) (w : World) (h : RawV w v false x) :
    Calls Tryz.prog 116 #[v] w (GInt x w) := by
  obtain ⟨b,p,n,c,rfl⟩ := h.raw.form
  have HX : Hid (x = 0) := h.zero
  have hB_0 : Below w.heap.size w w := Below.refl _ _
  go_enter Tryz.func116,Tryz.ntmps116
  go_wp2_with fail
  obtain ⟨hA1,h0,f0⟩ := bx2 w rfl [.bool b,.slice p n c] 28 [.bool false,.slice none 0 0] 28
  have g0 := (h.below hA1)
  (with_reducible refine (validI_any _ _ _ _ g0).mono ?_)
  rintro e w1 ⟨rfl,hb1⟩
  go_wp2_with fail
  (with_reducible refine (of_any _ _ (by omega) (by omega)).mono ?_)
  rintro e w2 ⟨v2,rfl,hi2,hb2⟩
  obtain ⟨g2,p2,n2,c2,rfl⟩ := hi2.form
  have q1_2 := ((f0.to hb1).to hb2)
  obtain ⟨a0,c0,b0,d0⟩ := q1_2.cf2
  have e0 := (Below.tr (Below.tr (Below.tr hB_0 hA1) hb1) hb2)
  go_wp2_with fail
  exact bodyPost_ret (v := .agg #[.bool g2,.slice p2 n2 c2]) (by simp [results,Tryz.results116,go_sem,a0,c0,b0,d0]) rfl ⟨_,rfl,by rw [HX.out];exact (hi2.sets2 q1_2 rfl rfl (.bool g2) (.slice p2 n2 c2)),(Below.sets2 e0 (b := w.heap.size + 1) (by omega) (.bool g2) (.slice p2 n2 c2))⟩
theorem reducedQ_False (v u : Value) (x y : Int) (w : World) (hv : RInt w v x) (hu : RInt w u y) (hl : isz x ≤ 1000000000) (hl2 : isz y ≤ 1000000000) (hd : 0 < y) :
    Calls Tryz.prog 106 #[v,u] w (GQ (Rat.divInt x y) w) := by
  obtain ⟨b,p,n,c,rfl⟩ := hv.form
  obtain ⟨d,o,m,e,rfl⟩ := hu.form
  have HX := Lib.hid (fdiv_gcd_pos (n := x) hd)
  have hn1 : isz (-x) ≤ 1000000000 := by rw [isz_neg];omega
  have hn2 : isz (-y) ≤ 1000000000 := by rw [isz_neg];omega
  have hlg : isz ((Int.gcd x y : Nat) : Int) ≤ 1000000000 := isz_gcd_le (by omega) (by assumption)
  have hg0 : ((Int.gcd x y : Nat) : Int) ≠ 0 := gcd_ne (by omega)
  have hsg : decide (sgn y < 0) = false := by rw [sgn_pos hd];rfl
  clear hd
  have hB_0 : Below w.heap.size w w := Below.refl _ _
  go_enter Tryz.func106,Tryz.ntmps106
  go_wp2_with fail
  obtain ⟨hA1,w0,x0,y0⟩ := bx3 w rfl [.bool b,.slice p n c] 28 [.bool d,.slice o m e] 28 [.bool false,.slice none 0 0,.bool false,.slice none 0 0] 30
  have a1 := (hu.below hA1).raw
  (with_reducible refine (signI_any _ (y) _ a1).mono ?_)
  rintro e w1 ⟨rfl,hb1⟩
  have q0_1 := (w0.to hb1)
  obtain ⟨j1,m1⟩ := q0_1.cs2
  have q1_1 := (x0.to hb1)
  obtain ⟨p1,r1⟩ := q1_1.cs2
  go_wp2_with fail
  have hv_1 := ((hv.below hA1).below hb1)
  have b1 := hv_1.raw
  have hu_1 := ((hu.below hA1).below hb1)
  have c1 := hu_1.raw
  (with_reducible refine (gcd_any _ _ (x) (y) _ b1 c1 (by omega) (by omega)).mono ?_)
  rintro e w2 ⟨v2,rfl,hi2,hb2⟩
  obtain ⟨g2,p2,n2,c2,rfl⟩ := hi2.form
  have q0_2 := (q0_1.to hb2)
  obtain ⟨k1,n1⟩ := q0_2.cs2
  have q0 := (q0_2).1
  have q1_2 := (q1_1.to hb2)
  have r0 := (q1_2).1
  have q2_2 := ((y0.to hb1).to hb2)
  have s0 := (q2_2).1
  go_wp2_with fail
  have hv_2 := (hv_1.below hb2)
  obtain ⟨hA2,z0⟩ := bx1 w2 rfl [.bool g2,.slice p2 n2 c2] 28
  have d1 := (hv_2.below hA2).raw
  have e1 := (hi2.below hA2).raw
  (with_reducible refine (divide_any _ _ (x) ((Int.gcd (x) (y) : Int)) _ d1 e1 (by omega) hlg hg0).mono ?_)
  rintro e w3 ⟨v3,u3,rfl,hi3,hj3,hb3⟩
  obtain ⟨g3,p3,n3,c3,rfl⟩ := hi3.form
  obtain ⟨h3,o3,m3,e3,rfl⟩ := hj3.form
  have q0_3 := ((q0_2.to hA2).to hb3)
  obtain ⟨a0,c0,b0,d0⟩ := q0_3.cf2
  have q1_3 := ((q1_2.to hA2).to hb3)
  obtain ⟨q1,s1⟩ := q1_3.cs2
  have t1 := (z0.to hb3)
  obtain ⟨u0,v0⟩ := t1.cs2
  go_wp2_with fail
  have hu_3 := (((hu_1.below hb2).below hA2).below hb3)
  have f1 := (hu_3.sets2 q0_3 rfl rfl (.bool g3) (.slice p3 n3 c3)).raw
  have h1 := ((hi2.below hA2).below hb3)
  have g1 := (h1.sets2 q0_3 rfl rfl (.bool g3) (.slice p3 n3 c3)).raw
  (with_reducible refine (divide_any _ _ (y) ((Int.gcd (x) (y) : Int)) _ f1 g1 (by omega) hlg hg0).mono ?_)
  rintro e w4 ⟨v4,u4,rfl,hi4,hj4,hb4⟩
  obtain ⟨g4,p4,n4,c4,rfl⟩ := hi4.form
  obtain ⟨h4,o4,m4,e4,rfl⟩ := hj4.form
  have q1_4 := ((q1_3.other2 (b := w.heap.size) (by omega) (.bool g3) (.slice p3 n3 c3)).to hb4)
  obtain ⟨e0,g0,f0,h0⟩ := q1_4.cf2
  have q0_4 := ((q0_3.store2 (.bool g3) (.slice p3 n3 c3)).to hb4)
  obtain ⟨l1,o1⟩ := q0_4.cs2
  have q2_4 := ((((q2_2.to hA2).to hb3).other2 (b := w.heap.size) (by omega) (.bool g3) (.slice p3 n3 c3)).to hb4)
  obtain ⟨i0,m0,j0,n0,k0,o0,l0,p0⟩ := q2_4.cf4
  have i1 := ((hi3.sets2 q0_3 rfl rfl (.bool g3) (.slice p3 n3 c3)).below hb4)
  have t0 := (Below.tr (Below.sets2 (Below.tr (Below.tr (Below.tr (Below.tr (Below.tr hB_0 hA1) hb1) hb2) hA2) hb3) (b := w.heap.size) (by omega) (.bool g3) (.slice p3 n3 c3)) hb4)
  go_wp2_with fail
  exact bodyPost_ret (v := .agg #[.bool g3,.slice p3 n3 c3,.bool g4,.slice p4 n4 c4]) (by simp [results,Tryz.results106,go_sem,q0,r0,s0,a0,c0,b0,d0,e0,g0,f0,h0,i0,m0,j0,n0,k0,o0,l0,p0]) rfl ⟨_,rfl,RQ.mk' ((i1.sets2 q1_4 rfl rfl (.bool g4) (.slice p4 n4 c4)).sets4 (q2_4.other2 (b := w.heap.size + 1) (by omega) (.bool g4) (.slice p4 n4 c4)) rfl rfl rfl rfl (.bool g3) (.slice p3 n3 c3) (.bool g4) (.slice p4 n4 c4)) ((hi4.sets2 q1_4 rfl rfl (.bool g4) (.slice p4 n4 c4)).sets4 (q2_4.other2 (b := w.heap.size + 1) (by omega) (.bool g4) (.slice p4 n4 c4)) rfl rfl rfl rfl (.bool g3) (.slice p3 n3 c3) (.bool g4) (.slice p4 n4 c4)) HX.out.1 HX.out.2,(Below.sets4 (Below.sets2 t0 (b := w.heap.size + 1) (by omega) (.bool g4) (.slice p4 n4 c4)) (b := w.heap.size + 1 + 1) (by omega) (.bool g3) (.slice p3 n3 c3) (.bool g4) (.slice p4 n4 c4))⟩
theorem reducedQ_True (v u : Value) (x y : Int) (w : World) (hv : RInt w v x) (hu : RInt w u y) (hl : isz x ≤ 1000000000) (hl2 : isz y ≤ 1000000000) (hd : y < 0) :
    Calls Tryz.prog 106 #[v,u] w (GQ (Rat.divInt x y) w) := by
  obtain ⟨b,p,n,c,rfl⟩ := hv.form
  obtain ⟨d,o,m,e,rfl⟩ := hu.form
  have HX := Lib.hid (fdiv_gcd_neg (n := x) hd)
  have hn1 : isz (-x) ≤ 1000000000 := by rw [isz_neg];omega
  have hn2 : isz (-y) ≤ 1000000000 := by rw [isz_neg];omega
  have hlg : isz ((Int.gcd (-x) (-y) : Nat) : Int) ≤ 1000000000 := isz_gcd_le (by omega) (by assumption)
  have hg0 : ((Int.gcd (-x) (-y) : Nat) : Int) ≠ 0 := gcd_ne (by omega)
  have hsg : decide (sgn y < 0) = true := by rw [sgn_neg hd];rfl
  clear hd
  have hB_0 : Below w.heap.size w w := Below.refl _ _
  go_enter Tryz.func106,Tryz.ntmps106
  go_wp2_with fail
  obtain ⟨hA1,f1,g1,h1⟩ := bx3 w rfl [.bool b,.slice p n c] 28 [.bool d,.slice o m e] 28 [.bool false,.slice none 0 0,.bool false,.slice none 0 0] 30
  have j1 := (hu.below hA1).raw
  (with_reducible refine (signI_any _ (y) _ j1).mono ?_)
  rintro e w1 ⟨rfl,hb1⟩
  go_wp2_with fail
  have q0_1 := (f1.to hb1)
  obtain ⟨x1,j2,d2,l2⟩ := q0_1.drew.cf2
  have q1_1 := (g1.to hb1)
  obtain ⟨o2,z2,t2,b3⟩ := q1_1.drew.cf2
  have tk1 : True := trivial
  have tk2 : True := trivial
  go_region_with
    (first
      | (((have := tk1);clear tk1;have hv_1 := ((hv.below hA1).below hb1);have k1 := hv_1.drew.raw;go_at_call 134;(with_reducible refine (neg_any _ (x) _ k1 (by omega)).mono ?_);rintro e w2 ⟨v2,rfl,hi2,hb2⟩;obtain ⟨g2,p2,n2,c2,rfl⟩ := hi2.form;have q1_2 := (q1_1.drew.to hb2);obtain ⟨q2,a3,u2,d3⟩ := q1_2.cf2;have q0_2 := (q0_1.drew.to hb2);obtain ⟨y1,k2,e2,m2⟩ := q0_2.cf2))
      | (((have := tk2);clear tk2;have hu_2 := (((hu.below hA1).below hb1).drew.below hb2);have l1 := hu_2.raw;go_at_call 134;(with_reducible refine (neg_any _ (y) _ l1 (by omega)).mono ?_);rintro e w3 ⟨v3,rfl,hi3,hb3⟩;obtain ⟨g3,p3,n3,c3,rfl⟩ := hi3.form;have q0_3 := (q0_2.to hb3);obtain ⟨a0,e0,c0,g0⟩ := q0_3.cf2;have q1_3 := (q1_2.to hb3);obtain ⟨i0,m0,k0,o0⟩ := q1_3.cf2)))
  all_goals
    obtain ⟨z1,f2⟩ := ((q0_3.store2 (.bool g2) (.slice p2 n2 c2)).other2 (b := w.heap.size + 1) (by omega) (.bool g3) (.slice p3 n3 c3)).cs2
    obtain ⟨r2,x2⟩ := ((q1_3.other2 (b := w.heap.size) (by omega) (.bool g2) (.slice p2 n2 c2)).store2 (.bool g3) (.slice p3 n3 c3)).cs2
    go_wp2_with fail
    have b1 := (hi2.below hb3)
    have m1 := ((b1.sets2 q0_3 rfl rfl (.bool g2) (.slice p2 n2 c2)).sets2 (q1_3.other2 (b := w.heap.size) (by omega) (.bool g2) (.slice p2 n2 c2)) rfl rfl (.bool g3) (.slice p3 n3 c3)).raw
    have n1 := ((hi3.sets2 q0_3 rfl rfl (.bool g2) (.slice p2 n2 c2)).sets2 (q1_3.other2 (b := w.heap.size) (by omega) (.bool g2) (.slice p2 n2 c2)) rfl rfl (.bool g3) (.slice p3 n3 c3)).raw
    (with_reducible refine (gcd_any _ _ (-((x))) (-((y))) _ m1 n1 (by omega) (by omega)).mono ?_)
    rintro e w4 ⟨v4,rfl,hi4,hb4⟩
    obtain ⟨g4,p4,n4,c4,rfl⟩ := hi4.form
    have q0_4 := (((q0_3.store2 (.bool g2) (.slice p2 n2 c2)).other2 (b := w.heap.size + 1) (by omega) (.bool g3) (.slice p3 n3 c3)).to hb4)
    obtain ⟨a2,h2⟩ := q0_4.cs2
    have y0 := (q0_4).1
    have q1_4 := (((q1_3.other2 (b := w.heap.size) (by omega) (.bool g2) (.slice p2 n2 c2)).store2 (.bool g3) (.slice p3 n3 c3)).to hb4)
    have z0 := (q1_4).1
    have q2_4 := ((((((h1.to hb1).drew.to hb2).to hb3).other2 (b := w.heap.size) (by omega) (.bool g2) (.slice p2 n2 c2)).other2 (b := w.heap.size + 1) (by omega) (.bool g3) (.slice p3 n3 c3)).to hb4)
    have a1 := (q2_4).1
    go_wp2_with fail
    have s1 := (((b1.sets2 q0_3 rfl rfl (.bool g2) (.slice p2 n2 c2)).sets2 (q1_3.other2 (b := w.heap.size) (by omega) (.bool g2) (.slice p2 n2 c2)) rfl rfl (.bool g3) (.slice p3 n3 c3)).below hb4)
    obtain ⟨hA2,i1⟩ := bx1 w4 rfl [.bool g4,.slice p4 n4 c4] 28
    have o1 := (s1.below hA2).raw
    have p1 := (hi4.below hA2).raw
    (with_reducible refine (divide_any _ _ (-((x))) ((Int.gcd (-((x))) (-((y))) : Int)) _ o1 p1 (by omega) hlg hg0).mono ?_)
    rintro e w5 ⟨v5,u5,rfl,hi5,hj5,hb5⟩
    obtain ⟨g5,p5,n5,c5,rfl⟩ := hi5.form
    obtain ⟨h5,o5,m5,e5,rfl⟩ := hj5.form
    have q0_5 := ((q0_4.to hA2).to hb5)
    obtain ⟨b0,f0,d0,h0⟩ := q0_5.cf2
    have q1_5 := ((q1_4.to hA2).to hb5)
    obtain ⟨s2,y2⟩ := q1_5.cs2
    have e3 := (i1.to hb5)
    obtain ⟨d1,e1⟩ := e3.cs2
    go_wp2_with fail
    have t1 := (((((hi3.sets2 q0_3 rfl rfl (.bool g2) (.slice p2 n2 c2)).sets2 (q1_3.other2 (b := w.heap.size) (by omega) (.bool g2) (.slice p2 n2 c2)) rfl rfl (.bool g3) (.slice p3 n3 c3)).below hb4).below hA2).below hb5)
    have q1 := (t1.sets2 q0_5 rfl rfl (.bool g5) (.slice p5 n5 c5)).raw
    have u1 := ((hi4.below hA2).below hb5)
    have r1 := (u1.sets2 q0_5 rfl rfl (.bool g5) (.slice p5 n5 c5)).raw
    (with_reducible refine (divide_any _ _ (-((y))) ((Int.gcd (-((x))) (-((y))) : Int)) _ q1 r1 (by omega) hlg hg0).mono ?_)
    rintro e w6 ⟨v6,u6,rfl,hi6,hj6,hb6⟩
    obtain ⟨g6,p6,n6,c6,rfl⟩ := hi6.form
    obtain ⟨h6,o6,m6,e6,rfl⟩ := hj6.form
    have q1_6 := ((q1_5.other2 (b := w.heap.size) (by omega) (.bool g5) (.slice p5 n5 c5)).to hb6)
    obtain ⟨j0,n0,l0,p0⟩ := q1_6.cf2
    have q0_6 := ((q0_5.store2 (.bool g5) (.slice p5 n5 c5)).to hb6)
    obtain ⟨b2,i2⟩ := q0_6.cs2
    have q2_6 := ((((q2_4.to hA2).to hb5).other2 (b := w.heap.size) (by omega) (.bool g5) (.slice p5 n5 c5)).to hb6)
    obtain ⟨q0,u0,r0,v0,s0,w0,t0,x0⟩ := q2_6.cf4
    have v1 := ((hi5.sets2 q0_5 rfl rfl (.bool g5) (.slice p5 n5 c5)).below hb6)
    have c1 := (Below.tr (Below.sets2 (Below.tr (Below.tr (Below.tr (Below.sets2 (Below.sets2 (Below.tr (Below.tr (Below.tr (Below.tr hB_0 hA1) hb1).drew hb2) hb3) (b := w.heap.size) (by omega) (.bool g2) (.slice p2 n2 c2)) (b := w.heap.size + 1) (by omega) (.bool g3) (.slice p3 n3 c3)) hb4) hA2) hb5) (b := w.heap.size) (by omega) (.bool g5) (.slice p5 n5 c5)) hb6)
    go_wp2_with fail
    exact bodyPost_ret (v := .agg #[.bool g5,.slice p5 n5 c5,.bool g6,.slice p6 n6 c6]) (by simp [results,Tryz.results106,go_sem,a0,e0,c0,g0,i0,m0,k0,o0,y0,z0,a1,b0,f0,d0,h0,j0,n0,l0,p0,q0,u0,r0,v0,s0,w0,t0,x0]) rfl ⟨_,rfl,RQ.mk' ((v1.sets2 q1_6 rfl rfl (.bool g6) (.slice p6 n6 c6)).sets4 (q2_6.other2 (b := w.heap.size + 1) (by omega) (.bool g6) (.slice p6 n6 c6)) rfl rfl rfl rfl (.bool g5) (.slice p5 n5 c5) (.bool g6) (.slice p6 n6 c6)) ((hi6.sets2 q1_6 rfl rfl (.bool g6) (.slice p6 n6 c6)).sets4 (q2_6.other2 (b := w.heap.size + 1) (by omega) (.bool g6) (.slice p6 n6 c6)) rfl rfl rfl rfl (.bool g5) (.slice p5 n5 c5) (.bool g6) (.slice p6 n6 c6)) HX.out.1 HX.out.2,(Below.sets4 (Below.sets2 c1 (b := w.heap.size + 1) (by omega) (.bool g6) (.slice p6 n6 c6)) (b := w.heap.size + 1 + 1) (by omega) (.bool g5) (.slice p5 n5 c5) (.bool g6) (.slice p6 n6 c6))⟩
theorem countedQ_any (v : Value) (ok : Bool) (x : Int) (w : World) (h : RawV w v ok x) :
    Calls Tryz.prog 116 #[v] w (GInt x w) := by
  cases ok
  · exact countedQ_False v x w h
  · exact countedQ_True v x w h
theorem reducedQ_any (v u : Value) (x y : Int) (w : World) (hv : RInt w v x) (hu : RInt w u y) (hl : isz x ≤ 1000000000) (hl2 : isz y ≤ 1000000000) (hd : y ≠ 0) :
    Calls Tryz.prog 106 #[v,u] w (GQ (Rat.divInt x y) w) := by
  rcases Int.lt_trichotomy y 0 with h | h | h
  · exact reducedQ_True v u x y w hv hu hl hl2 h
  · exact absurd h hd
  · exact reducedQ_False v u x y w hv hu hl hl2 h
end Go.Proofs.YtidfgdchcpmnfaaGreat
