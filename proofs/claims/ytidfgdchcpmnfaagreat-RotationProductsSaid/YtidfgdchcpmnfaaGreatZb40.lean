/-
  Lemmas for the statements about rotations, part 40 of 51.
-/
import Derived.Test.YtidfgdchcpmnfaaGreatZb11
import Derived.Test.YtidfgdchcpmnfaaGreatZb37
namespace Go.Proofs.YtidfgdchcpmnfaaGreat
open Go.RowKit
set_option maxRecDepth 100000
set_option maxHeartbeats 4000000
set_option linter.unusedSimpArgs false
set_option linter.unusedVariables false
theorem two_rd (w : World) (r q : Nat) : Rd (w.alloc (.cells #[.int .u32 (r : Nat),.int .u32 (q : Nat)] 118)) (.slice (some ⟨w.heap.size,0,none⟩) 2 2) [r,q] :=
  Rd.of_owns (l := [r,q]) (World.ownsRow_lit (size := 1) w #[.int .u32 (r : Nat),.int .u32 (q : Nat)] 2 (Nat.le_refl _) (by simp [maxLen]) (by simp))
theorem rgcd_any (v u : Value) (x y : Int) (w : World) (hv : Raw w v x) (hu : Raw w u y) (hl : isz x ≤ 1000000000) (hl2 : isz y ≤ 1000000000) :
    Calls Tryz.prog 125 #[v,u] w (GInt ((Int.gcd x y : Nat) : Int) w) := by
  obtain ⟨b,p,n,c,rfl⟩ := hv.form
  obtain ⟨d,o,m,e,rfl⟩ := hu.form
  have hlx : (dig x.natAbs).length ≤ 1000000000 := hl
  have hly : (dig y.natAbs).length ≤ 1000000000 := hl2
  have hfi := field_Int_1
  have k0 := field_Int_1
  have hB_0 : Below w.heap.size w w := Below.refl _ _
  go_enter Tryz.func125,Tryz.ntmps125
  go_wp2_with fail
  obtain ⟨hA1,l0,m0,n0⟩ := bx3 w rfl [.bool b,.slice p n c] 28 [.bool d,.slice o m e] 28 [.bool false,.slice none 0 0] 28
  have S0_1 := (AndS.mk (l0.drew).bs2 (m0.drew).bs2)
  have tk1 : True := trivial
  have tk2 : True := trivial
  go_region_held3 (AndS (BS2 w.heap.size (.bool b) (.slice p n c)) (BS2 (w.heap.size + 1) (.bool d) (.slice o m e))) (first | with_reducible exact S0_1 | with_reducible exact HeldK.go (AndS.hk BS2.hk BS2.hk) (by assumption) (by assumption) | (simp;done))
    (first
      | (((have := tk1);clear tk1;have a0 := (hv.below hA1).drew;go_at_call 120;(with_reducible refine (rvalue_r _ (x) _ a0 (by omega)).mono ?_);rintro e w1 ⟨v1,rfl,hi1,hb1⟩;obtain ⟨g1,p1,n1,c1,rfl⟩ := hi1.form;obtain rfl : n1 = (dig x.natAbs).length := hi1.len))
      | (((have := tk2);clear tk2;have hu_1 := ((hu.below hA1).drew.below hb1);have d0 := hu_1;go_at_call 120;(with_reducible refine (rvalue_r _ (y) _ d0 (by omega)).mono ?_);rintro e w2 ⟨v2,rfl,hi2,hb2⟩;obtain ⟨g2,p2,n2,c2,rfl⟩ := hi2.form;obtain rfl : n2 = (dig y.natAbs).length := hi2.len)))
  have o0 := (hi1.below hb2)
  have q2_2 := ((n0.drew.to hb1).to hb2)
  have j0 := (Below.tr (Below.tr (Below.tr hB_0 hA1).drew hb1) hb2)
  go_wp2_with fail
  clear hl hl2
  go_loopg [5,6,7,8,17,18,19,20,21,22,23,24,25,26,27,28,29,30,31,32,33,34,35,36,37] (val (dig y.natAbs)) (fun k a b _ _ _ _ _ _ _ _ _ _ _ _ _ _ _ _ _ _ _ _ _ _ _ wr => ∃ (l1 l2 : List Nat) (pa pb : Option Addr) (ca cb : Nat),a = .slice pa l1.length ca ∧ b = .slice pb l2.length cb ∧ Rd wr (.slice pa l1.length ca) l1 ∧ Rd wr (.slice pb l2.length cb) l2 ∧ Canon l1 ∧ Canon l2 ∧ l1.length ≤ 1000000000 ∧ l2.length ≤ 1000000000 ∧ Hid (Nat.gcd (val l1) (val l2) = Int.gcd x y) ∧ Hid (k = val l2) ∧ Bx wr (w.heap.size + 1 + 1) [.bool false,.slice none 0 0] ∧ Below w.heap.size w wr)
  case atStart => exact ⟨_,_,_,_,_,_,rfl,rfl,o0.rd,hi2.rd,dig_canon _,dig_canon _,hlx,hly,gcd_start x y,rfl,q2_2,j0⟩
  case round =>
    obtain ⟨l1,l2,pa,pb,ca,cb,rfl,rfl,ha,hb,ca1,cb1,la,lb,hg,hk,hq,hB⟩ := hrel
    have hzB := hB.size
    have cl1 : Low l1 := ca1.1
    have cl2 : Low l2 := cb1.1
    by_cases hne : l2 = []
    · subst hne
      have HX : Hid (sg false (val l1) = ((Int.gcd x y : Nat) : Int)) := gcd_zero hg.out
      go_wp2_with fail
      have b0 := ha
      (with_reducible refine (rmade_any _ _ _ _ b0 cl1 (by omega)).mono ?_)
      rintro e w1 ⟨v1,rfl,hi1,hb1⟩
      obtain ⟨g1,p1,n1,c1,rfl⟩ := hi1.form
      have qr_1 := (hq.to hb1)
      obtain ⟨e0,h0,g0,i0⟩ := qr_1.cf2
      have hB_1 := (Below.tr hB hb1)
      go_wp2_with fail
      exact bodyPost_ret (v := .agg #[.bool g1,.slice p1 n1 c1]) (by simp [results,Tryz.results125,go_sem,e0,h0,g0,i0]) rfl ⟨_,rfl,divide_out (hi1.sets2 qr_1 rfl rfl (.bool g1) (.slice p1 n1 c1)) HX.out,(Below.sets2 hB_1 (b := w.heap.size + 1 + 1) (by omega) (.bool g1) (.slice p1 n1 c1))⟩
    · have hl0 : 0 < l2.length := List.length_pos_iff.2 hne
      have hlz : ((l2.length : Int) == 0) = false := by simp;omega
      have HLE : Hid ((dig (val l1 % val l2)).length ≤ 1000000000) := by
        unfold Hid
        have := dig_length_mono (Nat.le_of_lt (Nat.mod_lt (val l1) (cb1.pos hne)))
        rw [dig_val cb1] at this
        omega
      by_cases h1 : 2 < l1.length
      · skip
        go_wp2_with fail
        have a0 := ha
        have b0 := hb
        (with_reducible refine (rparts_any _ _ _ _ _ a0 b0 ca1 cb1 la hne).mono ?_)
        rintro e w1 ⟨s1,t1,rfl,hs1,ht1,hb1⟩
        obtain ⟨p1,c1,rfl,hlp1,hmp1⟩ := hs1.form
        obtain ⟨o1,d1,rfl,hlo1,hmo1⟩ := ht1.form
        have hb_1 := (hb.below hb1)
        have qr_1 := (hq.to hb1)
        have hB_1 := (Below.tr hB hb1)
        go_wp2_with fail
        go_roundg (val (dig (val l1 % val l2)))
        case measure => rw [hk.out,val_dig];exact Nat.mod_lt _ (cb1.pos hne)
        case rel => exact ⟨_,_,_,_,_,_,rfl,rfl,hb_1,ht1,cb1,dig_canon _,lb,HLE.out,by unfold Hid;rw [val_dig];exact gcd_step hg.out,rfl,qr_1,hB_1⟩
      · by_cases h2 : 2 < l2.length
        · skip
          go_wp2_with fail
          have a0 := ha
          have b0 := hb
          (with_reducible refine (rparts_any _ _ _ _ _ a0 b0 ca1 cb1 la hne).mono ?_)
          rintro e w1 ⟨s1,t1,rfl,hs1,ht1,hb1⟩
          obtain ⟨p1,c1,rfl,hlp1,hmp1⟩ := hs1.form
          obtain ⟨o1,d1,rfl,hlo1,hmo1⟩ := ht1.form
          have hb_1 := (hb.below hb1)
          have qr_1 := (hq.to hb1)
          have hB_1 := (Below.tr hB hb1)
          go_wp2_with fail
          go_roundg (val (dig (val l1 % val l2)))
          case measure => rw [hk.out,val_dig];exact Nat.mod_lt _ (cb1.pos hne)
          case rel => exact ⟨_,_,_,_,_,_,rfl,rfl,hb_1,ht1,cb1,dig_canon _,lb,HLE.out,by unfold Hid;rw [val_dig];exact gcd_step hg.out,rfl,qr_1,hB_1⟩
        · skip
          go_wp2_with fail
          have a0 := ha
          (with_reducible refine (rpair_any _ _ _ a0 cl1 (by omega)).mono ?_)
          rintro e w' ⟨rfl,rfl⟩
          go_wp2_with fail
          have d0 := hb
          (with_reducible refine (rpair_any _ _ _ d0 cl2 (by omega)).mono ?_)
          rintro e w' ⟨rfl,rfl⟩
          go_wp2_with fail
          have hM := gcd_short ca1 (by omega)
          have hK := gcd_short cb1 (by omega)
          clear ha hb
          go_loopw [9,10,47,48,49,50,51,52] (fun m n _ _ _ _ _ _ wr => ∃ M K : Nat,m = .int .u64 (M : Nat) ∧ n = .int .u64 (K : Nat) ∧ M ≤ 999999999999999999 ∧ K ≤ 999999999999999999 ∧ Hid (Nat.gcd M K = Int.gcd x y) ∧ Bx wr (w.heap.size + 1 + 1) [.bool false,.slice none 0 0] ∧ Below w.heap.size w wr) (fun _ n _ _ _ _ _ _ _ => (intOf n).toNat)
          case atStart => exact ⟨_,_,rfl,rfl,hM,hK,hg,hq,hB⟩
          case round =>
            obtain ⟨M,K,rfl,rfl,hM,hK,hg2,hq2,hB2⟩ := hrel
            by_cases hk0 : 0 < K
            · obtain ⟨R,hR⟩ : ∃ R,M % K = R := ⟨_,rfl⟩
              have hRlt : R < K := by rw [← hR];exact Nat.mod_lt _ hk0
              have i2 : (M : Int) % K = R := by rw [← hR];simp
              have i3 : (M : Int).tmod K = R := by rw [Int.tmod_eq_emod_of_nonneg (by omega)];exact i2
              have w2' : IntKind.u64.wrap (R : Int) = R := wrap_u64 (by omega)
              have hdz : ((K : Int) == 0) = false := by simp;omega
              have hdn : ¬ K = 0 := by omega
              have HG : Hid (Nat.gcd K R = Int.gcd x y) := by unfold Hid;rw [← hR];exact gcd_step hg2.out
              have hrem := fun w => rem_runL (n := M) (d := K) (v := R) (by omega) hM i2 w2' w
              clear hR
              go_wp2_with fail
              go_quiet (fail)
              go_wp2_with fail
              go_roundw
              case rel => exact ⟨K,R,rfl,rfl,hK,by omega,HG,hq2.drewN _,Below.drewn hB2 _⟩
              case measure => simp [intOf];omega
            · obtain rfl : K = 0 := by omega
              obtain ⟨r,hr⟩ : ∃ r,M % 1000000000 = r := ⟨_,rfl⟩
              obtain ⟨q,hq'⟩ : ∃ q,M / 1000000000 = q := ⟨_,rfl⟩
              have HX : Hid (sg false (val [r,q]) = ((Int.gcd x y : Nat) : Int)) := by
                have := hg2.out
                unfold Hid
                rw [← this,Nat.gcd_zero_right]
                have e : val [r,q] = M := by simp [val_cons,val,BB_eq];omega
                rw [e];rfl
              have i1 : (M : Int) % 1000000000 = r := by omega
              have i2 : (M : Int) / 1000000000 = q := by omega
              have hr9 : r ≤ 999999999 := by omega
              have hq9 : q ≤ 999999999 := by omega
              have hlow : Low [r,q] := Low.cons.2 ⟨by rw [BB_eq];omega,Low.cons.2 ⟨by rw [BB_eq];omega,Low.nil⟩⟩
              have hR := two_rd wr r q
              have hzB2 := hB2.size
              clear hr hq'
              go_wp2_with fail
              refine (rmade_any false _ _ _ hR hlow (by simp)).mono ?_
              rw [HX.out]
              rintro e2 w7 ⟨v2,rfl,hi2,hb7⟩
              obtain ⟨g2,p2,n2,c2,rfl⟩ := hi2.form
              have q7 := (hq2.alloc (.cells #[.int .u32 (r : Nat),.int .u32 (q : Nat)] 118)).to hb7
              have r0 := q7.c0
              have r1 := q7.c1
              have f0 := q7.f0
              have f1 := q7.f1
              have hB7 := Below.tr (Below.al hB2 (.cells #[.int .u32 (r : Nat),.int .u32 (q : Nat)] 118)) hb7
              go_wp2_with fail
              exact bodyPost_ret (v := .agg #[.bool g2,.slice p2 n2 c2]) (by simp [results,Tryz.results125,go_sem,r0,r1]) rfl ⟨_,rfl,RInt.sets2 hi2 q7 rfl rfl _ _,Below.sets2 hB7 (by omega) _ _⟩
end Go.Proofs.YtidfgdchcpmnfaaGreat
