/-
  Lemmas for the statements about rotations, part 44 of 51.
-/
import Derived.Test.YtidfgdchcpmnfaaGreatZb11
import Derived.Test.YtidfgdchcpmnfaaGreatZb25
import Derived.Test.YtidfgdchcpmnfaaGreatZb35
import Derived.Test.YtidfgdchcpmnfaaGreatZb37
import Derived.Test.YtidfgdchcpmnfaaGreatZb38
namespace Go.Proofs.YtidfgdchcpmnfaaGreat
open Go.RowKit
set_option maxRecDepth 100000
set_option maxHeartbeats 4000000
set_option linter.unusedSimpArgs false
set_option linter.unusedVariables false
theorem val_drop_le {l : List Nat} (k : Nat) : val (l.drop k) ≤ val l := by
  have e := val_append (l.take k) (l.drop k)
  rw [List.take_append_drop] at e
  have h1 : 1 ≤ BB ^ (l.take k).length := Nat.pow_pos BB_pos
  have h2 : val (l.drop k) ≤ BB ^ (l.take k).length * val (l.drop k) := Nat.le_mul_of_pos_left _ h1
  omega
theorem isz_c (x : Int) (h0 : -9223372036854775808 ≤ x) (h1 : x ≤ 9223372036854775807) : isz x ≤ 999999999 :=
  Nat.le_trans (isz_le (k := 3) (by rw [BB_eq];omega)) (by omega)
theorem wrap_i64I {z : Int} (h0 : -9223372036854775808 ≤ z) (h1 : z ≤ 9223372036854775807) : IntKind.i64.wrap z = z := by simp [IntKind.wrap,IntKind.bits,IntKind.signed];omega
theorem sm_in {x : Int} (h : -9223372036854775808 ≤ x ∧ x ≤ 9223372036854775807) : smallV x = x ∧ smallB x = true := by
  unfold smallV smallB
  rw [if_pos (by omega)]
  exact ⟨rfl,by simp;omega⟩
theorem sm_out {x : Int} (h : ¬ (-9223372036854775808 ≤ x ∧ x ≤ 9223372036854775807)) : smallV x = 0 ∧ smallB x = false := by
  unfold smallV smallB
  rw [if_neg (by omega)]
  exact ⟨rfl,by simp;omega⟩
theorem rsmall_low (v : Value) (x : Int) (w : World) (hv : Raw w v x) (hl : isz x ≤ 999999999) (h : x < -9223372036854775808) :
    Calls Tryz.prog 136 #[v] w fun e W' => e = .returned (.tuple #[.int .i64 (smallV x),.bool (smallB x)]) ∧ Below w.heap.size w W' := by
  obtain ⟨b,p,n,c,rfl⟩ := hv.form
  have hl1 : isz x ≤ 1000000000 := by omega
  have hm1 : isz (-9223372036854775808) ≤ 999999999 := isz_c _ (by omega) (by omega)
  have hm2 : isz 9223372036854775807 ≤ 999999999 := isz_c _ (by omega) (by omega)
  have HF := Lib.hid (sm_out (x := x) (by omega))
  have d1 : cmpI x (-9223372036854775808) = -1 := by unfold cmpI;rw [if_pos (by omega)]
  have HC1 := Lib.hid d1
  have HC2 := Lib.hid (show cmpI x 9223372036854775807 = cmpI x 9223372036854775807 from rfl)
  clear d1 h
  have hB_0 : Below w.heap.size w w := Below.refl _ _
  go_enter Tryz.func136,Tryz.ntmps136
  go_wp2_with fail
  obtain ⟨hA1,b0⟩ := bx1 w rfl [.bool b,.slice p n c] 28
  have c0 := (hv.below hA1)
  (with_reducible refine (rvalue_r _ (x) _ c0 hl1).mono ?_)
  rintro e w1 ⟨v1,rfl,hi1,hb1⟩
  obtain ⟨g1,p1,n1,c1,rfl⟩ := hi1.form
  obtain rfl : n1 = (dig x.natAbs).length := hi1.len
  have hf1 := Lib.hid (RInt.flag hi1)
  have q0_1 := (b0.to hb1)
  obtain ⟨h0,l0,j0,m0⟩ := q0_1.cf2
  go_wp2_with fail
  (with_reducible refine (rof_any _ _ (by omega) (by omega)).mono ?_)
  rintro e w2 ⟨v2,rfl,hi2,hb2⟩
  obtain ⟨g2,p2,n2,c2,rfl⟩ := hi2.form
  go_wp2_with fail
  (with_reducible refine (rof_any _ _ (by omega) (by omega)).mono ?_)
  rintro e w3 ⟨v3,rfl,hi3,hb3⟩
  obtain ⟨g3,p3,n3,c3,rfl⟩ := hi3.form
  have q0_3 := (((q0_1.store2 (.bool g1) (.slice p1 (dig x.natAbs).length c1)).to hb2).to hb3)
  obtain ⟨i0,k0⟩ := q0_3.cs2
  have n0 := (q0_3).1
  obtain ⟨hA2,p0⟩ := bx1 w3 rfl [.bool false,.slice none 0 0] 28
  have o0 := ((q0_3.to hA2)).1
  go_wp2_with fail
  have f0 := (((hi1.sets2 q0_1 rfl rfl (.bool g1) (.slice p1 (dig x.natAbs).length c1)).below hb2).below hb3)
  obtain ⟨hA3,q0,r0⟩ := bx2 w3 rfl [.bool g2,.slice p2 n2 c2] 28 [.bool g3,.slice p3 n3 c3] 28
  have d0 := (f0.below hA3).raw
  have g0 := (hi2.below hb3)
  have e0 := (g0.below hA3).raw
  (with_reducible refine (rcompare_any _ _ (x) ((-9223372036854775808)) _ d0 e0 hl hm1).mono ?_)
  rw [HC1.out]
  rintro e w4 ⟨rfl,hb4⟩
  have a0 := (Below.tr (Below.tr (Below.tr (Below.tr (Below.sets2 (Below.tr (Below.tr hB_0 hA1) hb1) (b := w.heap.size) (by omega) (.bool g1) (.slice p1 (dig x.natAbs).length c1)) hb2) hb3) hA3) hb4)
  go_wp2_with fail
  go_ret2
  exact ⟨by rw [HF.out.1,HF.out.2];rfl,a0⟩
theorem rsmall_high (v : Value) (x : Int) (w : World) (hv : Raw w v x) (hl : isz x ≤ 999999999) (h : 9223372036854775807 < x) :
    Calls Tryz.prog 136 #[v] w fun e W' => e = .returned (.tuple #[.int .i64 (smallV x),.bool (smallB x)]) ∧ Below w.heap.size w W' := by
  obtain ⟨b,p,n,c,rfl⟩ := hv.form
  have hl1 : isz x ≤ 1000000000 := by omega
  have hm1 : isz (-9223372036854775808) ≤ 999999999 := isz_c _ (by omega) (by omega)
  have hm2 : isz 9223372036854775807 ≤ 999999999 := isz_c _ (by omega) (by omega)
  have HF := Lib.hid (sm_out (x := x) (by omega))
  have HC1 : Hid (cmpI x (-9223372036854775808) = 1) := by unfold Hid cmpI;rw [if_neg (by omega),if_pos (by omega)]
  have HC2 : Hid (cmpI x 9223372036854775807 = 1) := by unfold Hid cmpI;rw [if_neg (by omega),if_pos (by omega)]
  clear h
  have hB_0 : Below w.heap.size w w := Below.refl _ _
  go_enter Tryz.func136,Tryz.ntmps136
  go_wp2_with fail
  obtain ⟨hA1,e0⟩ := bx1 w rfl [.bool b,.slice p n c] 28
  have g0 := (hv.below hA1)
  (with_reducible refine (rvalue_r _ (x) _ g0 hl1).mono ?_)
  rintro e w1 ⟨v1,rfl,hi1,hb1⟩
  obtain ⟨g1,p1,n1,c1,rfl⟩ := hi1.form
  obtain rfl : n1 = (dig x.natAbs).length := hi1.len
  have hf1 := Lib.hid (RInt.flag hi1)
  have q0_1 := (e0.to hb1)
  obtain ⟨o0,u0,r0,v0⟩ := q0_1.cf2
  go_wp2_with fail
  (with_reducible refine (rof_any _ _ (by omega) (by omega)).mono ?_)
  rintro e w2 ⟨v2,rfl,hi2,hb2⟩
  obtain ⟨g2,p2,n2,c2,rfl⟩ := hi2.form
  go_wp2_with fail
  (with_reducible refine (rof_any _ _ (by omega) (by omega)).mono ?_)
  rintro e w3 ⟨v3,rfl,hi3,hb3⟩
  obtain ⟨g3,p3,n3,c3,rfl⟩ := hi3.form
  have q0_3 := (((q0_1.store2 (.bool g1) (.slice p1 (dig x.natAbs).length c1)).to hb2).to hb3)
  obtain ⟨p0,s0⟩ := q0_3.cs2
  have x0 := (q0_3).1
  obtain ⟨hA2,z0⟩ := bx1 w3 rfl [.bool false,.slice none 0 0] 28
  have y0 := ((q0_3.to hA2)).1
  go_wp2_with fail
  have a0 := (((hi1.sets2 q0_1 rfl rfl (.bool g1) (.slice p1 (dig x.natAbs).length c1)).below hb2).below hb3)
  obtain ⟨hA3,a1,f0⟩ := bx2 w3 rfl [.bool g2,.slice p2 n2 c2] 28 [.bool g3,.slice p3 n3 c3] 28
  have h0 := (a0.below hA3).raw
  have m0 := (hi2.below hb3)
  have i0 := (m0.below hA3).raw
  (with_reducible refine (rcompare_any _ _ (x) ((-9223372036854775808)) _ h0 i0 hl hm1).mono ?_)
  rw [HC1.out]
  rintro e w4 ⟨rfl,hb4⟩
  have q0_4 := ((q0_3.to hA3).to hb4)
  obtain ⟨q0,t0⟩ := q0_4.cs2
  have w0 := (f0.to hb4)
  obtain ⟨c0,d0⟩ := w0.cs2
  go_wp2_with fail
  have l0 := ((a0.below hA3).below hb4)
  have j0 := l0.raw
  have n0 := ((hi3.below hA3).below hb4)
  have k0 := n0.raw
  (with_reducible refine (rcompare_any _ _ (x) (9223372036854775807) _ j0 k0 hl hm2).mono ?_)
  rw [HC2.out]
  rintro e w5 ⟨rfl,hb5⟩
  have b0 := (Below.tr (Below.tr (Below.tr (Below.tr (Below.tr (Below.sets2 (Below.tr (Below.tr hB_0 hA1) hb1) (b := w.heap.size) (by omega) (.bool g1) (.slice p1 (dig x.natAbs).length c1)) hb2) hb3) hA3) hb4) hb5)
  go_wp2_with fail
  go_ret2
  exact ⟨by rw [HF.out.1,HF.out.2];rfl,b0⟩
theorem rsmall_in (v : Value) (x : Int) (w : World) (hv : Raw w v x) (hl : isz x ≤ 999999999) (h : -9223372036854775808 ≤ x ∧ x ≤ 9223372036854775807) :
    Calls Tryz.prog 136 #[v] w fun e W' => e = .returned (.tuple #[.int .i64 (smallV x),.bool (smallB x)]) ∧ Below w.heap.size w W' := by
  obtain ⟨b,p,n,c,rfl⟩ := hv.form
  have hl1 : isz x ≤ 1000000000 := by omega
  have hm1 : isz (-9223372036854775808) ≤ 999999999 := isz_c _ (by omega) (by omega)
  have hm2 : isz 9223372036854775807 ≤ 999999999 := isz_c _ (by omega) (by omega)
  have HF := Lib.hid (sm_in h)
  have HR := Lib.hid h
  obtain ⟨cc,hcc⟩ : ∃ cc,cmpI x (-9223372036854775808) = cc := ⟨_,rfl⟩
  obtain ⟨cd,hcd⟩ : ∃ cd,cmpI x 9223372036854775807 = cd := ⟨_,rfl⟩
  have HC1 := Lib.hid hcc
  have HC2 := Lib.hid hcd
  have d1 : decide (cc < 0) = false := by
    have : 0 ≤ cc := by rw [← hcc];unfold cmpI;rw [if_neg (by omega)];split <;> omega
    simp;omega
  have d2 : decide (0 < cd) = false := by
    have : cd ≤ 0 := by rw [← hcd];unfold cmpI;split <;> (try split) <;> omega
    simp;omega
  clear hcc hcd h
  have hB_0 : Below w.heap.size w w := Below.refl _ _
  go_enter Tryz.func136,Tryz.ntmps136
  go_wp2_with fail
  obtain ⟨hA1,i0⟩ := bx1 w rfl [.bool b,.slice p n c] 28
  have k0 := (hv.below hA1)
  (with_reducible refine (rvalue_r _ (x) _ k0 hl1).mono ?_)
  rintro e w1 ⟨v1,rfl,hi1,hb1⟩
  obtain ⟨g1,p1,n1,c1,rfl⟩ := hi1.form
  obtain rfl : n1 = (dig x.natAbs).length := hi1.len
  have hf1 := Lib.hid (RInt.flag hi1)
  have q0_1 := (i0.to hb1)
  obtain ⟨s0,y0,v0,z0⟩ := q0_1.cf2
  go_wp2_with fail
  (with_reducible refine (rof_any _ _ (by omega) (by omega)).mono ?_)
  rintro e w2 ⟨v2,rfl,hi2,hb2⟩
  obtain ⟨g2,p2,n2,c2,rfl⟩ := hi2.form
  go_wp2_with fail
  (with_reducible refine (rof_any _ _ (by omega) (by omega)).mono ?_)
  rintro e w3 ⟨v3,rfl,hi3,hb3⟩
  obtain ⟨g3,p3,n3,c3,rfl⟩ := hi3.form
  have q0_3 := (((q0_1.store2 (.bool g1) (.slice p1 (dig x.natAbs).length c1)).to hb2).to hb3)
  obtain ⟨t0,w0⟩ := q0_3.cs2
  have b1 := (q0_3).1
  obtain ⟨hA2,i1⟩ := bx1 w3 rfl [.bool false,.slice none 0 0] 28
  have f1 := ((q0_3.to hA2)).1
  go_wp2_with fail
  have a0 := (((hi1.sets2 q0_1 rfl rfl (.bool g1) (.slice p1 (dig x.natAbs).length c1)).below hb2).below hb3)
  obtain ⟨hA3,j1,j0⟩ := bx2 w3 rfl [.bool g2,.slice p2 n2 c2] 28 [.bool g3,.slice p3 n3 c3] 28
  have l0 := (a0.below hA3).raw
  have q0 := (hi2.below hb3)
  have m0 := (q0.below hA3).raw
  (with_reducible refine (rcompare_any _ _ (x) ((-9223372036854775808)) _ l0 m0 hl hm1).mono ?_)
  rw [HC1.out]
  rintro e w4 ⟨rfl,hb4⟩
  have q0_4 := ((q0_3.to hA3).to hb4)
  obtain ⟨u0,x0⟩ := q0_4.cs2
  have a1 := (j0.to hb4)
  obtain ⟨f0,g0⟩ := a1.cs2
  go_wp2_with fail
  have b0 := ((a0.below hA3).below hb4)
  have n0 := b0.raw
  have r0 := ((hi3.below hA3).below hb4)
  have o0 := r0.raw
  (with_reducible refine (rcompare_any _ _ (x) (9223372036854775807) _ n0 o0 hl hm2).mono ?_)
  rw [HC2.out]
  rintro e w5 ⟨rfl,hb5⟩
  have q0_5 := (q0_4.to hb5)
  have p0 := (b0.below hb5)
  have d0 := (Below.tr (Below.tr (Below.tr (Below.tr (Below.tr (Below.sets2 (Below.tr (Below.tr hB_0 hA1) hb1) (b := w.heap.size) (by omega) (.bool g1) (.slice p1 (dig x.natAbs).length c1)) hb2) hb3) hA3) hb4) hb5)
  have qq := q0_5
  have qc0 := qq.c0
  have qc1 := qq.c1
  have hRd := (p0).rd
  have hBB := d0
  have hlen : (dig x.natAbs).length ≤ 1000000000 := hl1
  have HS := Lib.hid (sg_flag x)
  go_wp2_with fail
  go_loop [6,7,26,27,28,29,30,31,32,33,34,35,36,37,38,39,40,41,42,43,44,45,46,47,48,49] (fun nn i _ _ _ _ _ _ _ _ _ _ _ _ _ _ _ _ _ _ _ _ _ _ _ _ => ∃ (k : Nat) (i' z : Int),i = .int .i64 i' ∧ k ≤ (dig x.natAbs).length ∧ Hid (i' = (k : Int) - 1) ∧ nn = .int .i64 z ∧ z = sg (decide (x < 0)) (val ((dig x.natAbs).drop k))) (fun _ i _ _ _ _ _ _ _ _ _ _ _ _ _ _ _ _ _ _ _ _ _ _ _ _ => (intOf i + 1).toNat)
  case atStart => exact ⟨(dig x.natAbs).length,_,0,rfl,Nat.le_refl _,rfl,rfl,by simp [val,sg]⟩
  case round =>
    obtain ⟨k,i',z,rfl,hk,hk',rfl,hz⟩ := hrel
    cases k with
    | zero =>
      obtain rfl : i' = -1 := by have := hk'.out;simpa using this
      have HZ : Hid (z = smallV x) := by
        unfold Hid;rw [HF.out.1,hz]
        simp only [List.drop_zero,val_dig]
        exact HS.out
      clear hz
      go_wp2_with fail
      go_ret2
      exact ⟨by rw [HF.out.2,← HZ.out];rfl,hBB⟩
    | succ k =>
      obtain rfl : i' = (k : Int) := by have := hk'.out;simp at this;omega
      have hkl : k < (dig x.natAbs).length := by omega
      obtain ⟨ba,oa,rfl,hba,hca⟩ := hRd.at (by intro e;rw [e] at hkl;simp at hkl)
      have hcell := hca k hkl
      have ga : gr (dig x.natAbs) k ≤ 999999999 := gr_le (dig_low _) k
      have h0 : (0 : Int) ≤ k := by omega
      have h1 : (k : Int) < (dig x.natAbs).length := by omega
      obtain ⟨v',hvd⟩ : ∃ v',val ((dig x.natAbs).drop (k + 1)) = v' := ⟨_,rfl⟩
      rw [hvd] at hz
      clear hca
      by_cases hneg : x < 0
      · have hdx : decide (x < 0) = true := decide_eq_true hneg
        obtain rfl : g1 = true := by have := hf1.out;rw [this];exact hdx
        obtain rfl : z = -(v' : Int) := by rw [hz,hdx];simp [sg]
        clear hz
        have HV : Hid (-(val ((dig x.natAbs).drop k) : Int) = (-(v' : Int)) * 1000000000 - (gr (dig x.natAbs) k : Int)) := by
          have h9 := val_drop_step hkl
          rw [BB_eq,hvd] at h9
          show _ = _
          omega
        have hb3 : (v' : Int) * 1000000000 + gr (dig x.natAbs) k ≤ 9223372036854775808 := by
          have h1 := val_drop_le (l := dig x.natAbs) k
          rw [val_dig,val_drop_step hkl,BB_eq,hvd] at h1
          have := HR.out
          omega
        have e0 : IntKind.i64.wrap (gr (dig x.natAbs) k : Int) = (gr (dig x.natAbs) k : Int) := wrap_i64I (by omega) (by omega)
        have e1 : IntKind.i64.wrap (-(v' : Int) * 1000000000) = -(v' : Int) * 1000000000 := wrap_i64I (by omega) (by omega)
        have e2 : IntKind.i64.wrap (-(v' : Int) * 1000000000 - (gr (dig x.natAbs) k : Int)) = -(v' : Int) * 1000000000 - (gr (dig x.natAbs) k : Int) := wrap_i64I (by omega) (by omega)
        clear hvd
        go_wp2_with fail
        go_round
        case rel => exact ⟨k,_,_,rfl,by omega,rfl,rfl,by rw [hdx];simp only [sg,if_true,if_false,Bool.false_eq_true];exact HV.out.symm⟩
        case measure => simp [intOf]
      · have hdx : decide (x < 0) = false := decide_eq_false hneg
        obtain rfl : g1 = false := by have := hf1.out;rw [this];exact hdx
        obtain rfl : z = (v' : Int) := by rw [hz,hdx];simp [sg]
        clear hz
        have HV : Hid ((val ((dig x.natAbs).drop k) : Int) = ((v' : Int)) * 1000000000 + (gr (dig x.natAbs) k : Int)) := by
          have h9 := val_drop_step hkl
          rw [BB_eq,hvd] at h9
          show _ = _
          omega
        have hb3 : (v' : Int) * 1000000000 + gr (dig x.natAbs) k ≤ 9223372036854775807 := by
          have h1 := val_drop_le (l := dig x.natAbs) k
          rw [val_dig,val_drop_step hkl,BB_eq,hvd] at h1
          have := HR.out
          omega
        have e0 : IntKind.i64.wrap (gr (dig x.natAbs) k : Int) = (gr (dig x.natAbs) k : Int) := wrap_i64I (by omega) (by omega)
        have e1 : IntKind.i64.wrap ((v' : Int) * 1000000000) = (v' : Int) * 1000000000 := wrap_i64I (by omega) (by omega)
        have e2 : IntKind.i64.wrap ((v' : Int) * 1000000000 + (gr (dig x.natAbs) k : Int)) = (v' : Int) * 1000000000 + (gr (dig x.natAbs) k : Int) := wrap_i64I (by omega) (by omega)
        clear hvd
        go_wp2_with fail
        go_round
        case rel => exact ⟨k,_,_,rfl,by omega,rfl,rfl,by rw [hdx];simp only [sg,if_true,if_false,Bool.false_eq_true];exact HV.out.symm⟩
        case measure => simp [intOf]
theorem rsmall_any (v : Value) (x : Int) (w : World) (hv : Raw w v x) (hl : isz x ≤ 999999999) :
    Calls Tryz.prog 136 #[v] w fun e W' => e = .returned (.tuple #[.int .i64 (smallV x),.bool (smallB x)]) ∧ Below w.heap.size w W' := by
  by_cases h1 : x < -9223372036854775808
  · exact rsmall_low v x w hv hl h1
  by_cases h2 : 9223372036854775807 < x
  · exact rsmall_high v x w hv hl h2
  · exact rsmall_in v x w hv hl ⟨by omega,by omega⟩
end Go.Proofs.YtidfgdchcpmnfaaGreat
