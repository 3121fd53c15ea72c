/-
  Lemmas for the statements about rotations, part 14 of 51.
-/
import Derived.BigQuiet
import Derived.Deep.LoopGhost
import Derived.Deep.QuietTactic
import Derived.Test.YtidfgdchcpmnfaaGreatZb11
import Derived.Test.YtidfgdchcpmnfaaGreatZb13
namespace Go.Proofs.YtidfgdchcpmnfaaGreat
open Go.RowKit
set_option maxRecDepth 100000
set_option maxHeartbeats 4000000
set_option linter.unusedSimpArgs false
set_option linter.unusedVariables false
theorem gcd_zero {l1 : List Nat} {x y : Int} (h : Nat.gcd (val l1) (val ([] : List Nat)) = Int.gcd x y) : sg false (val l1) = ((Int.gcd x y : Nat) : Int) := by
  rw [← h];simp [val,sg]
theorem gcd_step {a b g : Nat} (h : Nat.gcd a b = g) : Nat.gcd b (a % b) = g := by
  rw [← h,Nat.gcd_comm a b,Nat.gcd_rec b a,Nat.gcd_comm]
theorem gcd_start (x y : Int) : Hid (Nat.gcd (val (dig x.natAbs)) (val (dig y.natAbs)) = Int.gcd x y) := by unfold Hid;rw [val_dig,val_dig];rfl
theorem gcd_short {l : List Nat} (h : Canon l) (h2 : l.length ≤ 2) : val l ≤ 999999999999999999 := by
  have h1 := val_lt h.1
  have h3 : BB ^ l.length ≤ BB ^ 2 := Nat.pow_le_pow_right BB_pos h2
  rw [BB_eq] at h1 h3
  omega
theorem gcd_any (v u : Value) (x y : Int) (w : World) (hv : Raw w v x) (hu : Raw w u y) (hl : isz x ≤ 1000000000) (hl2 : isz y ≤ 1000000000) :
    Calls Tryz.prog 133 #[v,u] w (GInt ((Int.gcd x y : Nat) : Int) w) := by
  obtain ⟨b,p,n,c,rfl⟩ := hv.form
  obtain ⟨d,o,m,e,rfl⟩ := hu.form
  have hlx : (dig x.natAbs).length ≤ 1000000000 := hl
  have hly : (dig y.natAbs).length ≤ 1000000000 := hl2
  clear hl hl2
  have hB_0 : Below w.heap.size w w := Below.refl _ _
  go_enter Tryz.func133,Tryz.ntmps133
  go_wp2_with fail
  obtain ⟨hA1,o0,p0,q0⟩ := bx3 w rfl [.bool b,.slice p n c] 28 [.bool d,.slice o m e] 28 [.bool false,.slice none 0 0] 28
  have S0_1 := (AndS.mk (o0.drew).bs2 (p0.drew).bs2)
  have tk1 : True := trivial
  have tk2 : True := trivial
  go_region_held3 (AndS (BS2 w.heap.size (.bool b) (.slice p n c)) (BS2 (w.heap.size + 1) (.bool d) (.slice o m e))) (first | with_reducible exact S0_1 | with_reducible exact HeldK.go (AndS.hk BS2.hk BS2.hk) (by assumption) (by assumption) | (simp;done))
    (first
      | (((have := tk1);clear tk1;have a0 := (hv.below hA1).drew;go_at_call 119;(with_reducible refine (groups_any _ (x) _ a0).mono ?_);rintro e w1 ⟨s1,rfl,hs1,hb1⟩;obtain ⟨p1,c1,rfl,hlp1,hmp1⟩ := hs1.form))
      | (((have := tk2);clear tk2;have hu_1 := ((hu.below hA1).drew.below hb1);have b0 := hu_1;go_at_call 119;(with_reducible refine (groups_any _ (y) _ b0).mono ?_);rintro e w2 ⟨s2,rfl,hs2,hb2⟩;obtain ⟨p2,c2,rfl,hlp2,hmp2⟩ := hs2.form)))
  have s0 := (hs1.below hb2)
  have q2_2 := ((q0.drew.to hb1).to hb2)
  have n0 := (Below.tr (Below.tr (Below.tr hB_0 hA1).drew hb1) hb2)
  go_wp2_with fail
  go_loopg [5,6,7,8,9,10,11,12,17,18,19,20,21,22,23,24,25,26,27,28,29,30,31,32,33,34,35,36,37,38,39,40,41,42,43,44,45,46,47,48,49,50] (val (dig y.natAbs)) (fun k a b _ _ _ _ _ _ _ _ _ _ _ _ _ _ _ _ _ _ _ _ _ _ _ _ _ _ _ _ _ _ _ _ _ _ _ _ _ _ _ _ wr => ∃ (l1 l2 : List Nat) (pa pb : Option Addr) (ca cb : Nat),a = .slice pa l1.length ca ∧ b = .slice pb l2.length cb ∧ Rd wr (.slice pa l1.length ca) l1 ∧ Rd wr (.slice pb l2.length cb) l2 ∧ Canon l1 ∧ Canon l2 ∧ l1.length ≤ 1000000000 ∧ l2.length ≤ 1000000000 ∧ Hid (Nat.gcd (val l1) (val l2) = Int.gcd x y) ∧ Hid (k = val l2) ∧ Bx wr (w.heap.size + 1 + 1) [.bool false,.slice none 0 0] ∧ Below w.heap.size w wr)
  case atStart => exact ⟨_,_,_,_,_,_,rfl,rfl,s0,hs2,dig_canon _,dig_canon _,hlx,hly,gcd_start x y,rfl,q2_2,n0⟩
  case round =>
    obtain ⟨l1,l2,pa,pb,ca,cb,rfl,rfl,ha,hb,ca1,cb1,la,lb,hg,hk,hq,hB⟩ := hrel
    have hzB := hB.size
    have cl1 : Low l1 := ca1.1
    have cl2 : Low l2 := cb1.1
    by_cases hne : l2 = []
    · subst hne
      have HX : Hid (sg false (val l1) = ((Int.gcd x y : Nat) : Int)) := gcd_zero hg.out
      go_wp2_with fail
      have a0 := ha
      (with_reducible refine (clone_any _ _ _ a0 (by simpa using la)).mono ?_)
      rintro e w1 ⟨s1,rfl,ho1,hb1⟩
      have hs1 := Rd.of_owns ho1
      obtain ⟨p1,c1,rfl,hlp1,hmp1⟩ := hs1.form
      go_wp2_with fail
      have e0 := hs1
      (with_reducible refine (made_any _ _ _ _ e0 cl1).mono ?_)
      rintro e w2 ⟨v2,rfl,hi2,hb2⟩
      obtain ⟨g2,p2,n2,c2,rfl⟩ := hi2.form
      have qr_2 := ((hq.to hb1).to hb2)
      obtain ⟨f0,h0,g0,i0⟩ := qr_2.cf2
      have hB_2 := (Below.tr (Below.tr hB hb1) hb2)
      go_wp2_with fail
      exact bodyPost_ret (v := .agg #[.bool g2,.slice p2 n2 c2]) (by simp [results,Tryz.results133,go_sem,f0,h0,g0,i0]) rfl ⟨_,rfl,divide_out (hi2.sets2 qr_2 rfl rfl (.bool g2) (.slice p2 n2 c2)) HX.out,(Below.sets2 hB_2 (b := w.heap.size + 1 + 1) (by omega) (.bool g2) (.slice p2 n2 c2))⟩
    · have hl0 : 0 < l2.length := List.length_pos_iff.2 hne
      have HLE : Hid ((dig (val l1 % val l2)).length ≤ 1000000000) := by
        unfold Hid
        have := dig_length_mono (Nat.le_of_lt (Nat.mod_lt (val l1) (cb1.pos hne)))
        rw [dig_val cb1] at this
        omega
      by_cases h1 : 2 < l1.length
      · by_cases h2 : 2 < l2.length
        · skip
          go_wp2_with fail
          have a0 := ha
          (with_reducible refine (word_no _ _ _ a0 (by omega)).mono ?_)
          rintro e w1 ⟨rfl,hb1⟩
          go_wp2_with fail
          have hb_1 := (hb.below hb1)
          have b0 := hb_1
          (with_reducible refine (word_no _ _ _ b0 (by omega)).mono ?_)
          rintro e w2 ⟨rfl,hb2⟩
          go_wp2_with fail
          have ha_2 := ((ha.below hb1).below hb2)
          have c0 := ha_2
          have hb_2 := (hb_1.below hb2)
          have d0 := hb_2
          (with_reducible refine (over_any _ _ _ _ _ c0 d0 ca1 cb1 la hne).mono ?_)
          rintro e w3 ⟨s3,t3,rfl,hs3,ht3,hb3⟩
          obtain ⟨p3,c3,rfl,hlp3,hmp3⟩ := hs3.form
          obtain ⟨o3,d3,rfl,hlo3,hmo3⟩ := ht3.form
          have hb_3 := (hb_2.below hb3)
          have qr_3 := (((hq.to hb1).to hb2).to hb3)
          have hB_3 := (Below.tr (Below.tr (Below.tr hB hb1) hb2) hb3)
          go_wp2_with fail
          go_roundg (val (dig (val l1 % val l2)))
          case measure => rw [hk.out,val_dig];exact Nat.mod_lt _ (cb1.pos hne)
          case rel => exact ⟨_,_,_,_,_,_,rfl,rfl,hb_3,ht3,cb1,dig_canon _,lb,HLE.out,by unfold Hid;rw [val_dig];exact gcd_step hg.out,rfl,qr_3,hB_3⟩
        · skip
          go_wp2_with fail
          have a0 := ha
          (with_reducible refine (word_no _ _ _ a0 (by omega)).mono ?_)
          rintro e w1 ⟨rfl,hb1⟩
          go_wp2_with fail
          have hb_1 := (hb.below hb1)
          have b0 := hb_1
          (with_reducible refine (word_yes _ _ _ b0 cl2 (by omega)).mono ?_)
          rintro e w2 ⟨rfl,hb2⟩
          go_wp2_with fail
          have ha_2 := ((ha.below hb1).below hb2)
          have c0 := ha_2
          have hb_2 := (hb_1.below hb2)
          have d0 := hb_2
          (with_reducible refine (over_any _ _ _ _ _ c0 d0 ca1 cb1 la hne).mono ?_)
          rintro e w3 ⟨s3,t3,rfl,hs3,ht3,hb3⟩
          obtain ⟨p3,c3,rfl,hlp3,hmp3⟩ := hs3.form
          obtain ⟨o3,d3,rfl,hlo3,hmo3⟩ := ht3.form
          have hb_3 := (hb_2.below hb3)
          have qr_3 := (((hq.to hb1).to hb2).to hb3)
          have hB_3 := (Below.tr (Below.tr (Below.tr hB hb1) hb2) hb3)
          go_wp2_with fail
          go_roundg (val (dig (val l1 % val l2)))
          case measure => rw [hk.out,val_dig];exact Nat.mod_lt _ (cb1.pos hne)
          case rel => exact ⟨_,_,_,_,_,_,rfl,rfl,hb_3,ht3,cb1,dig_canon _,lb,HLE.out,by unfold Hid;rw [val_dig];exact gcd_step hg.out,rfl,qr_3,hB_3⟩
      · by_cases h2 : 2 < l2.length
        · skip
          go_wp2_with fail
          have a0 := ha
          (with_reducible refine (word_yes _ _ _ a0 cl1 (by omega)).mono ?_)
          rintro e w1 ⟨rfl,hb1⟩
          go_wp2_with fail
          have hb_1 := (hb.below hb1)
          have b0 := hb_1
          (with_reducible refine (word_no _ _ _ b0 (by omega)).mono ?_)
          rintro e w2 ⟨rfl,hb2⟩
          go_wp2_with fail
          have ha_2 := ((ha.below hb1).below hb2)
          have c0 := ha_2
          have hb_2 := (hb_1.below hb2)
          have d0 := hb_2
          (with_reducible refine (over_any _ _ _ _ _ c0 d0 ca1 cb1 la hne).mono ?_)
          rintro e w3 ⟨s3,t3,rfl,hs3,ht3,hb3⟩
          obtain ⟨p3,c3,rfl,hlp3,hmp3⟩ := hs3.form
          obtain ⟨o3,d3,rfl,hlo3,hmo3⟩ := ht3.form
          have hb_3 := (hb_2.below hb3)
          have qr_3 := (((hq.to hb1).to hb2).to hb3)
          have hB_3 := (Below.tr (Below.tr (Below.tr hB hb1) hb2) hb3)
          go_wp2_with fail
          go_roundg (val (dig (val l1 % val l2)))
          case measure => rw [hk.out,val_dig];exact Nat.mod_lt _ (cb1.pos hne)
          case rel => exact ⟨_,_,_,_,_,_,rfl,rfl,hb_3,ht3,cb1,dig_canon _,lb,HLE.out,by unfold Hid;rw [val_dig];exact gcd_step hg.out,rfl,qr_3,hB_3⟩
        · skip
          go_wp2_with fail
          have a0 := ha
          (with_reducible refine (word_yes _ _ _ a0 cl1 (by omega)).mono ?_)
          rintro e w1 ⟨rfl,hb1⟩
          go_wp2_with fail
          have hb_1 := (hb.below hb1)
          have b0 := hb_1
          (with_reducible refine (word_yes _ _ _ b0 cl2 (by omega)).mono ?_)
          rintro e w2 ⟨rfl,hb2⟩
          have qr_2 := ((hq.to hb1).to hb2)
          have hB_2 := (Below.tr (Below.tr hB hb1) hb2)
          go_wp2_with fail
          have hM := gcd_short ca1 (by omega)
          have hK := gcd_short cb1 (by omega)
          clear ha hb
          go_loopw [7,9,34,35,36,37,38,39] (fun m n _ _ _ _ _ _ wr => ∃ M K : Nat,m = .int .u64 (M : Nat) ∧ n = .int .u64 (K : Nat) ∧ M ≤ 999999999999999999 ∧ K ≤ 999999999999999999 ∧ Hid (Nat.gcd M K = Int.gcd x y) ∧ Bx wr (w.heap.size + 1 + 1) [.bool false,.slice none 0 0] ∧ Below w.heap.size w wr) (fun _ n _ _ _ _ _ _ _ => (intOf n).toNat)
          case atStart => exact ⟨_,_,rfl,rfl,hM,hK,hg,qr_2,hB_2⟩
          case round =>
            obtain ⟨M,K,rfl,rfl,hM,hK,hg2,hq2,hB2⟩ := hrel
            by_cases hk0 : 0 < K
            · obtain ⟨R,hR⟩ : ∃ R,M % K = R := ⟨_,rfl⟩
              have hRlt : R < K := by rw [← hR];exact Nat.mod_lt _ hk0
              have i2 : (M : Int) % K = R := by rw [← hR];simp
              have i3 : (M : Int).tmod K = R := by rw [Int.tmod_eq_emod_of_nonneg (by omega)];exact i2
              have w2' : IntKind.u64.wrap (R : Int) = R := wrap_u64 (by omega)
              have hdz : ((K : Int) == 0) = false := by simp;omega
              have hdn : ¬ K = 0 := by omega
              have HG : Hid (Nat.gcd K R = Int.gcd x y) := by unfold Hid;rw [← hR];exact gcd_step hg2.out
              have hrem := fun w => rem_runL (n := M) (d := K) (v := R) (by omega) hM i2 w2' w
              clear hR
              go_wp2_with fail
              go_quiet (fail)
              go_wp2_with fail
              go_roundw
              case rel => exact ⟨K,R,rfl,rfl,hK,by omega,HG,hq2.drewN _,Below.drewn hB2 _⟩
              case measure => simp [intOf];omega
            · obtain rfl : K = 0 := by omega
              have HX : Hid (sg false (val (dig M)) = ((Int.gcd x y : Nat) : Int)) := by have := hg2.out;unfold Hid;rw [val_dig,← this];simp [sg]
              have hzB2 := hB2.size
              go_wp2_with fail
              (with_reducible refine (split_any M _ (by omega)).mono ?_)
              rintro e w1 ⟨s1,rfl,ho1,hb1⟩
              have hs1 := Rd.of_owns ho1
              obtain ⟨p1,c1,rfl,hlp1,hmp1⟩ := hs1.form
              go_wp2_with fail
              have e0 := hs1
              (with_reducible refine (made_any _ _ _ _ e0 (dig_low _)).mono ?_)
              rintro e w2 ⟨v2,rfl,hi2,hb2⟩
              obtain ⟨g2,p2,n2,c2,rfl⟩ := hi2.form
              have qz_2 := ((hq2.to hb1).to hb2)
              obtain ⟨j0,l0,k0,m0⟩ := qz_2.cf2
              have r0 := (Below.tr (Below.tr hB2 hb1) hb2)
              go_wp2_with fail
              exact bodyPost_ret (v := .agg #[.bool g2,.slice p2 n2 c2]) (by simp [results,Tryz.results133,go_sem,j0,l0,k0,m0]) rfl ⟨_,rfl,divide_out (hi2.sets2 qz_2 rfl rfl (.bool g2) (.slice p2 n2 c2)) HX.out,(Below.sets2 r0 (b := w.heap.size + 1 + 1) (by omega) (.bool g2) (.slice p2 n2 c2))⟩
end Go.Proofs.YtidfgdchcpmnfaaGreat
namespace Go.Proofs.YtidfgdchcpmnfaaGreat
open Go.RowKit
set_option maxRecDepth 100000
set_option maxHeartbeats 4000000
set_option linter.unusedSimpArgs false
set_option linter.unusedVariables false
theorem validI_any (v : Value) (ok : Bool) (x : Int) (w : World) (h : RawV w v ok x) :
    Calls Tryz.prog 158 #[v] w fun e w' => e = .returned (.bool ok) ∧ Below w.heap.size w w' := by
  obtain ⟨neg,s,l,rfl,k2,k3,k4,k5⟩ := h
  have := valid_any neg s l w k2
  rw [← k5] at this
  exact this
def sgn (x : Int) : Int := x.sign
theorem signI_any (v : Value) (x : Int) (w : World) (hv : Raw w v x) :
    Calls Tryz.prog 117 #[v] w fun e w' => e = .returned (.int .i64 (sgn x)) ∧ Below w.heap.size w w' := sign_any v x w hv
theorem sgn_pos {x : Int} (h : 0 < x) : sgn x = 1 := Int.sign_eq_one_of_pos h
theorem sgn_neg {x : Int} (h : x < 0) : sgn x = -1 := Int.sign_eq_neg_one_of_neg h
theorem sgn_zero : sgn 0 = 0 := rfl
theorem sgn_le {x : Int} (h : ¬ 0 < x) : sgn x ≤ 0 := Int.sign_nonpos_iff.2 (by omega)
theorem sgn_ge {x : Int} (h : ¬ x < 0) : 0 ≤ sgn x := Int.sign_nonneg_iff.2 (by omega)
theorem sgn_ne {x : Int} (h : x ≠ 0) : sgn x ≠ 0 := fun e => h (Int.sign_eq_zero_iff_zero.1 e)
def Qn (v : Value) (k : Nat) : Prop := ∃ b p n c b' p' n' c',v = .agg #[.bool b,.slice p n c,.bool b',.slice p' n' c'] ∧ n ≤ k ∧ n' ≤ k
theorem RInt.len {w : World} {b : Bool} {p : Option Addr} {n c : Nat} {x : Int} (h : RInt w (.agg #[.bool b,.slice p n c]) x) : n = isz x := by
  obtain ⟨s,k1,k2⟩ := h
  cases k1
  obtain ⟨p',c',e,_⟩ := k2.form
  cases e
  rfl
theorem RQ.qn {w : World} {v : Value} {q : Rat} {k : Nat} (h : RQ w v q) (hk : rsz q ≤ k) : Qn v k := by
  obtain ⟨b,s,c,t,e,h1,h2⟩ := h
  obtain ⟨b1,p1,n1,c1,e1⟩ := h1.form
  obtain ⟨b2,p2,n2,c2,e2⟩ := h2.form
  cases e1;cases e2
  refine ⟨_,_,_,_,_,_,_,_,e,?_,?_⟩
  · rw [h1.len];have := rsz_num q;omega
  · rw [h2.len];have := rsz_den q;omega
theorem RQ.rsz_le {w : World} {v : Value} {q : Rat} {k : Nat} (h : RQ w v q) (hn : Qn v k) : rsz q ≤ k := by
  obtain ⟨b,s,c,t,e,h1,h2⟩ := h
  obtain ⟨b1,p1,n1,c1,b2,p2,n2,c2,e1,l1,l2⟩ := hn
  rw [e1] at e
  cases e
  rw [h1.len] at l1
  rw [h2.len] at l2
  have : isz (q.den : Int) = nsz q.den := by simp [isz]
  rw [this] at l2
  exact Nat.max_le.2 ⟨l1,l2⟩
theorem rsz_zero : rsz 0 = 1 := by decide +kernel
theorem QRaw.rsz_le {w : World} {v : Value} {ok : Bool} {q : Rat} {k : Nat} (h : QRaw w v ok q) (hn : Qn v k) (hk : 1 ≤ k) : rsz q ≤ k := by
  cases ok
  · rw [h.no,rsz_zero];exact hk
  · exact h.rq.rsz_le hn
theorem cmp_eq_zero (x y : Int) : (cmpI x y == 0) = decide (x = y) := by
  unfold cmpI
  by_cases h1 : x < y
  · rw [if_pos h1];simp;omega
  · rw [if_neg h1]
    by_cases h2 : y < x
    · rw [if_pos h2];simp;omega
    · rw [if_neg h2];simp;omega
theorem ok_res (o1 o2 : Bool) (n d : Int) (r : Bool) (h : r = (o1 && (o2 && (decide (0 < d) && decide (Int.gcd n d = 1))))) {P : Prop} (hP : P) (e : r = (o1 && (o2 && (decide (0 < d) && decide (Int.gcd n d = 1))))) : P := hP
theorem validQ_fff (x y : Int) (w : World) (b d : Bool) (p o : Option Addr) (n c m e : Nat) (k1 : RawV w (.agg #[.bool b,.slice p n c]) false x) (k2 : RawV w (.agg #[.bool d,.slice o m e]) false y) (hl : isz x ≤ 1000000000) (hl2 : isz y ≤ 1000000000) :
    Calls Tryz.prog 122 #[.agg #[.bool b,.slice p n c,.bool d,.slice o m e]] w fun e w' => e = .returned (.bool (false && (false && (decide (0 < y) && decide (Int.gcd x y = 1))))) ∧ Below w.heap.size w w' := by
  have HX : Hid (false = (false && (false && (decide (0 < y) && decide (Int.gcd x y = 1))))) := by unfold Hid;simp
  have hB_0 : Below w.heap.size w w := Below.refl _ _
  go_enter Tryz.func122,Tryz.ntmps122
  go_wp2_with fail
  obtain ⟨hA1,c0⟩ := bx1 w rfl [.bool b,.slice p n c,.bool d,.slice o m e] 30
  have b0 := (k1.below hA1)
  (with_reducible refine (validI_any _ _ _ _ b0).mono ?_)
  rintro e w1 ⟨rfl,hb1⟩
  have a0 := (Below.tr (Below.tr hB_0 hA1) hb1)
  go_wp2_with fail
  go_ret
  exact ⟨ret_bool HX.out,a0⟩
theorem validQ_ftf (x y : Int) (w : World) (b d : Bool) (p o : Option Addr) (n c m e : Nat) (k1 : RawV w (.agg #[.bool b,.slice p n c]) false x) (k2 : RawV w (.agg #[.bool d,.slice o m e]) true y) (hl : isz x ≤ 1000000000) (hl2 : isz y ≤ 1000000000) :
    Calls Tryz.prog 122 #[.agg #[.bool b,.slice p n c,.bool d,.slice o m e]] w fun e w' => e = .returned (.bool (false && (true && (decide (0 < y) && decide (Int.gcd x y = 1))))) ∧ Below w.heap.size w w' := by
  have HX : Hid (false = (false && (true && (decide (0 < y) && decide (Int.gcd x y = 1))))) := by unfold Hid;simp
  have hB_0 : Below w.heap.size w w := Below.refl _ _
  go_enter Tryz.func122,Tryz.ntmps122
  go_wp2_with fail
  obtain ⟨hA1,c0⟩ := bx1 w rfl [.bool b,.slice p n c,.bool d,.slice o m e] 30
  have b0 := (k1.below hA1)
  (with_reducible refine (validI_any _ _ _ _ b0).mono ?_)
  rintro e w1 ⟨rfl,hb1⟩
  have a0 := (Below.tr (Below.tr hB_0 hA1) hb1)
  go_wp2_with fail
  go_ret
  exact ⟨ret_bool HX.out,a0⟩
theorem validQ_tff (x y : Int) (w : World) (b d : Bool) (p o : Option Addr) (n c m e : Nat) (k1 : RawV w (.agg #[.bool b,.slice p n c]) true x) (k2 : RawV w (.agg #[.bool d,.slice o m e]) false y) (hl : isz x ≤ 1000000000) (hl2 : isz y ≤ 1000000000) :
    Calls Tryz.prog 122 #[.agg #[.bool b,.slice p n c,.bool d,.slice o m e]] w fun e w' => e = .returned (.bool (true && (false && (decide (0 < y) && decide (Int.gcd x y = 1))))) ∧ Below w.heap.size w w' := by
  have HX : Hid (false = (true && (false && (decide (0 < y) && decide (Int.gcd x y = 1))))) := by unfold Hid;simp
  have hB_0 : Below w.heap.size w w := Below.refl _ _
  go_enter Tryz.func122,Tryz.ntmps122
  go_wp2_with fail
  obtain ⟨hA1,b0⟩ := bx1 w rfl [.bool b,.slice p n c,.bool d,.slice o m e] 30
  have c0 := (k1.below hA1)
  (with_reducible refine (validI_any _ _ _ _ c0).mono ?_)
  rintro e w1 ⟨rfl,hb1⟩
  have q0_1 := (b0.to hb1)
  obtain ⟨e0,f0,g0,h0⟩ := q0_1.cs4
  go_wp2_with fail
  have k2_1 := ((k2.below hA1).below hb1)
  have d0 := k2_1
  (with_reducible refine (validI_any _ _ _ _ d0).mono ?_)
  rintro e w2 ⟨rfl,hb2⟩
  have a0 := (Below.tr (Below.tr (Below.tr hB_0 hA1) hb1) hb2)
  go_wp2_with fail
  go_ret
  exact ⟨ret_bool HX.out,a0⟩
theorem validQ_ttf (x y : Int) (w : World) (b d : Bool) (p o : Option Addr) (n c m e : Nat) (k1 : RawV w (.agg #[.bool b,.slice p n c]) true x) (k2 : RawV w (.agg #[.bool d,.slice o m e]) true y) (hl : isz x ≤ 1000000000) (hl2 : isz y ≤ 1000000000) (hd : ¬ 0 < y) :
    Calls Tryz.prog 122 #[.agg #[.bool b,.slice p n c,.bool d,.slice o m e]] w fun e w' => e = .returned (.bool (true && (true && (decide (0 < y) && decide (Int.gcd x y = 1))))) ∧ Below w.heap.size w w' := by
  have HX : Hid (false = (true && (true && (decide (0 < y) && decide (Int.gcd x y = 1))))) := by unfold Hid;simp [hd]
  have hsg : decide (sgn y ≤ 0) = true := by have := sgn_le hd;simpa using this
  clear hd
  have hB_0 : Below w.heap.size w w := Below.refl _ _
  go_enter Tryz.func122,Tryz.ntmps122
  go_wp2_with fail
  obtain ⟨hA1,b0⟩ := bx1 w rfl [.bool b,.slice p n c,.bool d,.slice o m e] 30
  have c0 := (k1.below hA1)
  (with_reducible refine (validI_any _ _ _ _ c0).mono ?_)
  rintro e w1 ⟨rfl,hb1⟩
  have q0_1 := (b0.to hb1)
  obtain ⟨f0,h0,j0,l0⟩ := q0_1.cs4
  go_wp2_with fail
  have k2_1 := ((k2.below hA1).below hb1)
  have d0 := k2_1
  (with_reducible refine (validI_any _ _ _ _ d0).mono ?_)
  rintro e w2 ⟨rfl,hb2⟩
  have q0_2 := (q0_1.to hb2)
  obtain ⟨g0,i0,k0,m0⟩ := q0_2.cs4
  go_wp2_with fail
  have k2_2 := (k2_1.below hb2)
  have e0 := k2_2.raw
  (with_reducible refine (signI_any _ (y) _ e0).mono ?_)
  rintro e w3 ⟨rfl,hb3⟩
  have a0 := (Below.tr (Below.tr (Below.tr (Below.tr hB_0 hA1) hb1) hb2) hb3)
  go_wp2_with fail
  go_ret
  exact ⟨ret_bool HX.out,a0⟩
theorem validQ_ttt (x y : Int) (w : World) (b d : Bool) (p o : Option Addr) (n c m e : Nat) (k1 : RawV w (.agg #[.bool b,.slice p n c]) true x) (k2 : RawV w (.agg #[.bool d,.slice o m e]) true y) (hl : isz x ≤ 1000000000) (hl2 : isz y ≤ 1000000000) (hd : 0 < y) :
    Calls Tryz.prog 122 #[.agg #[.bool b,.slice p n c,.bool d,.slice o m e]] w fun e w' => e = .returned (.bool (true && (true && (decide (0 < y) && decide (Int.gcd x y = 1))))) ∧ Below w.heap.size w w' := by
  have HX : Hid ((cmpI ((Int.gcd x y : Nat) : Int) 1 == 0) = (true && (true && (decide (0 < y) && decide (Int.gcd x y = 1))))) := by unfold Hid;rw [cmp_eq_zero];simp [hd];omega
  have hsg : decide (sgn y ≤ 0) = false := by rw [sgn_pos hd];rfl
  clear hd
  have hB_0 : Below w.heap.size w w := Below.refl _ _
  go_enter Tryz.func122,Tryz.ntmps122
  go_wp2_with fail
  obtain ⟨hA1,b0⟩ := bx1 w rfl [.bool b,.slice p n c,.bool d,.slice o m e] 30
  have c0 := (k1.below hA1)
  (with_reducible refine (validI_any _ _ _ _ c0).mono ?_)
  rintro e w1 ⟨rfl,hb1⟩
  have q0_1 := (b0.to hb1)
  obtain ⟨k0,n0,q0,t0⟩ := q0_1.cs4
  go_wp2_with fail
  have k2_1 := ((k2.below hA1).below hb1)
  have d0 := k2_1
  (with_reducible refine (validI_any _ _ _ _ d0).mono ?_)
  rintro e w2 ⟨rfl,hb2⟩
  have q0_2 := (q0_1.to hb2)
  obtain ⟨l0,o0,r0,u0⟩ := q0_2.cs4
  go_wp2_with fail
  have k2_2 := (k2_1.below hb2)
  have e0 := k2_2.raw
  (with_reducible refine (signI_any _ (y) _ e0).mono ?_)
  rintro e w3 ⟨rfl,hb3⟩
  have q0_3 := (q0_2.to hb3)
  obtain ⟨m0,p0,s0,v0⟩ := q0_3.cs4
  go_wp2_with fail
  have k1_3 := ((((k1.below hA1).below hb1).below hb2).below hb3)
  have f0 := k1_3.raw
  have k2_3 := (k2_2.below hb3)
  have g0 := k2_3.raw
  (with_reducible refine (gcd_any _ _ (x) (y) _ f0 g0 (by omega) (by omega)).mono ?_)
  rintro e w4 ⟨v4,rfl,hi4,hb4⟩
  obtain ⟨g4,p4,n4,c4,rfl⟩ := hi4.form
  go_wp2_with fail
  (with_reducible refine (of_any _ _ (by omega) (by omega)).mono ?_)
  rintro e w5 ⟨v5,rfl,hi5,hb5⟩
  obtain ⟨g5,p5,n5,c5,rfl⟩ := hi5.form
  go_wp2_with fail
  have j0 := (hi4.below hb5)
  have h0 := j0.raw
  have i0 := hi5.raw
  (with_reducible refine (compareI_any _ _ ((Int.gcd (x) (y) : Int)) (1) _ h0 i0).mono ?_)
  rintro e w6 ⟨rfl,hb6⟩
  have a0 := (Below.tr (Below.tr (Below.tr (Below.tr (Below.tr (Below.tr (Below.tr hB_0 hA1) hb1) hb2) hb3) hb4) hb5) hb6)
  go_wp2_with fail
  go_ret
  exact ⟨ret_bool HX.out,a0⟩
theorem validQ_any (v : Value) (ok : Bool) (q : Rat) (w : World) (h : QRaw w v ok q) (hn : Qn v 1000000000) :
    Calls Tryz.prog 122 #[v] w fun e w' => e = .returned (.bool ok) ∧ Below w.heap.size w w' := by
  obtain ⟨b,s,c,t,o1,o2,x,y,e,h1,h2,rfl,_⟩ := h
  obtain ⟨b1,p1,n1,c1,b2,p2,n2,c2,e1,l1,l2⟩ := hn
  rw [e1] at e
  cases e
  subst e1
  have l3 := h1.raw.len
  have l4 := h2.raw.len
  cases o1
  · cases o2
    · exact validQ_fff x y w _ _ _ _ _ _ _ _ h1 h2 (by omega) (by omega)
    · exact validQ_ftf x y w _ _ _ _ _ _ _ _ h1 h2 (by omega) (by omega)
  · cases o2
    · exact validQ_tff x y w _ _ _ _ _ _ _ _ h1 h2 (by omega) (by omega)
    · by_cases hd : 0 < y
      · exact validQ_ttt x y w _ _ _ _ _ _ _ _ h1 h2 (by omega) (by omega) hd
      · exact validQ_ttf x y w _ _ _ _ _ _ _ _ h1 h2 (by omega) (by omega) hd
theorem copiedQ_any (v : Value) (q : Rat) (w : World) (h : RQ w v q) (hl : rsz q ≤ 1000000000) :
    Calls Tryz.prog 149 #[v] w (GQ q w) := by
  obtain ⟨b,p,n,c,d,o,m,e,rfl⟩ := h.form
  have b1 := rsz_num q
  have b2 := rsz_den q
  have b3 : isz (-q.num) ≤ 1000000000 := by rw [isz_neg];omega
  have b4 : isz (-(q.den : Int)) ≤ 1000000000 := by rw [isz_neg];omega
  have hB_0 : Below w.heap.size w w := Below.refl _ _
  go_enter Tryz.func149,Tryz.ntmps149
  go_wp2_with fail
  obtain ⟨hA1,l0,i0⟩ := bx2 w rfl [.bool b,.slice p n c,.bool d,.slice o m e] 30 [.bool false,.slice none 0 0,.bool false,.slice none 0 0] 30
  have S0_1 := (AndS.mk (l0.drew).bs4 (BN.of (i0.drew)))
  have j0 : HeldC (w.heap.size + 1) (AndS (BS4 w.heap.size (.bool b) (.slice p n c) (.bool d) (.slice o m e)) (BN (w.heap.size + 1))) := (AndS.hc (BS4.hc (by omega)) BN.hc)
  have tk1 : True := trivial
  have tk2 : True := trivial
  have tk3 : True := trivial
  have tk4 : True := trivial
  go_region_held3 (AndS (BS4 w.heap.size (.bool b) (.slice p n c) (.bool d) (.slice o m e)) (BN (w.heap.size + 1))) (first | with_reducible exact S0_1 | with_reducible exact HeldK.go (AndS.hk BS4.hk BN.hk) (by assumption) (by assumption) | with_reducible exact HeldC.go4 j0 (by assumption) | (simp;done))
    (first
      | (((have := tk1);clear tk1;have m0 := (h.below hA1).drew.num.raw;go_at_call 134;(with_reducible refine (neg_any _ ((q).num) _ m0 (by omega)).mono ?_);rintro e w1 ⟨v1,rfl,hi1,hb1⟩;obtain ⟨g1,p1,n1,c1,rfl⟩ := hi1.form))
      | (((have := tk2);clear tk2;have n0 := hi1.raw;go_at_call 134;(with_reducible refine (neg_any _ (-(((q).num))) _ n0 (by omega)).mono ?_);rintro e w2 ⟨v2,rfl,hi2,hb2⟩;obtain ⟨g2,p2,n2,c2,rfl⟩ := hi2.form))
      | (((have := tk3);clear tk3;have h_2 := (((h.below hA1).drew.below hb1).below hb2);have o0 := h_2.den.raw;go_at_call 134;(with_reducible refine (neg_any _ (((q).den : Int)) _ o0 (by omega)).mono ?_);rintro e w3 ⟨v3,rfl,hi3,hb3⟩;obtain ⟨g3,p3,n3,c3,rfl⟩ := hi3.form))
      | (((have := tk4);clear tk4;have p0 := hi3.raw;go_at_call 134;(with_reducible refine (neg_any _ (-((((q).den : Int)))) _ p0 (by omega)).mono ?_);rintro e w4 ⟨v4,rfl,hi4,hb4⟩;obtain ⟨g4,p4,n4,c4,rfl⟩ := hi4.form;have q1_4 := ((((i0.drew.to hb1).to hb2).to hb3).to hb4);obtain ⟨a0,e0,b0,f0,c0,g0,d0,h0⟩ := q1_4.cf4)))
  have q0 := ((hi2.below hb3).below hb4)
  have k0 := (Below.tr (Below.tr (Below.tr (Below.tr (Below.tr hB_0 hA1).drew hb1) hb2) hb3) hb4)
  go_wp2_with fail
  exact bodyPost_ret (v := .agg #[.bool g2,.slice p2 n2 c2,.bool g4,.slice p4 n4 c4]) (by simp [results,Tryz.results149,go_sem,a0,e0,b0,f0,c0,g0,d0,h0]) rfl ⟨_,rfl,RQ.mk' (q0.sets4 q1_4 rfl rfl rfl rfl (.bool g2) (.slice p2 n2 c2) (.bool g4) (.slice p4 n4 c4)) (hi4.sets4 q1_4 rfl rfl rfl rfl (.bool g2) (.slice p2 n2 c2) (.bool g4) (.slice p4 n4 c4)) (Int.neg_neg _) (Int.neg_neg _),(Below.sets4 k0 (b := w.heap.size + 1) (by omega) (.bool g2) (.slice p2 n2 c2) (.bool g4) (.slice p4 n4 c4))⟩
theorem wholeQ_any (k : Int) (w : World) (h0 : -9223372036854775808 ≤ k) (h1 : k ≤ 9223372036854775807) :
    Calls Tryz.prog 51 #[.int .i64 k] w (GQ (k : Rat) w) := by
  have hB_0 : Below w.heap.size w w := Below.refl _ _
  go_enter Tryz.func51,Tryz.ntmps51
  go_wp2_with fail
  (with_reducible refine (of_any _ _ (by omega) (by omega)).mono ?_)
  rintro e w1 ⟨v1,rfl,hi1,hb1⟩
  obtain ⟨g1,p1,n1,c1,rfl⟩ := hi1.form
  go_wp2_with fail
  (with_reducible refine (of_any _ _ (by omega) (by omega)).mono ?_)
  rintro e w2 ⟨v2,rfl,hi2,hb2⟩
  obtain ⟨g2,p2,n2,c2,rfl⟩ := hi2.form
  obtain ⟨hA1,k0⟩ := bx1 w rfl [.bool false,.slice none 0 0,.bool false,.slice none 0 0] 30
  have q0_2 := ((k0.to hb1).to hb2)
  obtain ⟨a0,e0,b0,f0,c0,g0,d0,i0⟩ := q0_2.cf4
  have l0 := (hi1.below hb2)
  have j0 := (Below.tr (Below.tr (Below.tr hB_0 hA1) hb1) hb2)
  go_wp2_with fail
  exact bodyPost_ret (v := .agg #[.bool g1,.slice p1 n1 c1,.bool g2,.slice p2 n2 c2]) (by simp [results,Tryz.results51,go_sem,a0,e0,b0,f0,c0,g0,d0,i0]) rfl ⟨_,rfl,RQ.mk' (l0.sets4 q0_2 rfl rfl rfl rfl (.bool g1) (.slice p1 n1 c1) (.bool g2) (.slice p2 n2 c2)) (hi2.sets4 q0_2 rfl rfl rfl rfl (.bool g1) (.slice p1 n1 c1) (.bool g2) (.slice p2 n2 c2)) (int_num k).symm (by rw [int_den];rfl),(Below.sets4 j0 (b := w.heap.size) (by omega) (.bool g1) (.slice p1 n1 c1) (.bool g2) (.slice p2 n2 c2))⟩
theorem valueQ_True (v : Value) (q : Rat) (w : World) (h : QRaw w v true q) (hn : Qn v 1000000000) :
    Calls Tryz.prog 105 #[v] w (GQ q w) := by
  obtain ⟨b,p,n,c,d,o,m,e,rfl⟩ := h.form
  have hl := h.rsz_le hn (by omega)
  have hB_0 : Below w.heap.size w w := Below.refl _ _
  go_enter Tryz.func105,Tryz.ntmps105
  go_wp2_with fail
  obtain ⟨hA1,j0,k0⟩ := bx2 w rfl [.bool b,.slice p n c,.bool d,.slice o m e] 30 [.bool false,.slice none 0 0,.bool false,.slice none 0 0] 30
  have l0 := (h.below hA1)
  (with_reducible refine (validQ_any _ _ _ _ l0 hn).mono ?_)
  rintro e w1 ⟨rfl,hb1⟩
  have q0_1 := (j0.to hb1)
  obtain ⟨n0,o0,p0,q0⟩ := q0_1.cs4
  go_wp2_with fail
  have h_1 := ((h.below hA1).below hb1)
  have m0 := h_1.rq
  (with_reducible refine (copiedQ_any _ (q) _ m0 (by omega)).mono ?_)
  rintro e w2 ⟨v2,rfl,hi2,hb2⟩
  obtain ⟨g2,p2,n2,c2,h2,o2,m2,e2,rfl⟩ := hi2.form
  have q1_2 := ((k0.to hb1).to hb2)
  obtain ⟨a0,e0,b0,f0,c0,g0,d0,h0⟩ := q1_2.cf4
  have i0 := (Below.tr (Below.tr (Below.tr hB_0 hA1) hb1) hb2)
  go_wp2_with fail
  exact bodyPost_ret (v := .agg #[.bool g2,.slice p2 n2 c2,.bool h2,.slice o2 m2 e2]) (by simp [results,Tryz.results105,go_sem,a0,e0,b0,f0,c0,g0,d0,h0]) rfl ⟨_,rfl,(hi2.sets4 q1_2 rfl rfl rfl rfl (.bool g2) (.slice p2 n2 c2) (.bool h2) (.slice o2 m2 e2)),(Below.sets4 i0 (b := w.heap.size + 1) (by omega) (.bool g2) (.slice p2 n2 c2) (.bool h2) (.slice o2 m2 e2))⟩
theorem valueQ_False (v : Value) (q : Rat) (w : World) (h : QRaw w v false q) (hn : Qn v 1000000000) :
    Calls Tryz.prog 105 #[v] w (GQ q w) := by
  obtain ⟨b,p,n,c,d,o,m,e,rfl⟩ := h.form
  have hl := h.rsz_le hn (by omega)
  have HX : Hid (q = ((0 : Int) : Rat)) := by unfold Hid;rw [h.no];rfl
  have hB_0 : Below w.heap.size w w := Below.refl _ _
  go_enter Tryz.func105,Tryz.ntmps105
  go_wp2_with fail
  obtain ⟨hA1,l0,j0⟩ := bx2 w rfl [.bool b,.slice p n c,.bool d,.slice o m e] 30 [.bool false,.slice none 0 0,.bool false,.slice none 0 0] 30
  have k0 := (h.below hA1)
  (with_reducible refine (validQ_any _ _ _ _ k0 hn).mono ?_)
  rintro e w1 ⟨rfl,hb1⟩
  go_wp2_with fail
  (with_reducible refine (wholeQ_any _ _ (by omega) (by omega)).mono ?_)
  rintro e w2 ⟨v2,rfl,hi2,hb2⟩
  obtain ⟨g2,p2,n2,c2,h2,o2,m2,e2,rfl⟩ := hi2.form
  have q1_2 := ((j0.to hb1).to hb2)
  obtain ⟨a0,e0,b0,f0,c0,g0,d0,h0⟩ := q1_2.cf4
  have i0 := (Below.tr (Below.tr (Below.tr hB_0 hA1) hb1) hb2)
  go_wp2_with fail
  exact bodyPost_ret (v := .agg #[.bool g2,.slice p2 n2 c2,.bool h2,.slice o2 m2 e2]) (by simp [results,Tryz.results105,go_sem,a0,e0,b0,f0,c0,g0,d0,h0]) rfl ⟨_,rfl,by rw [HX.out];exact (hi2.sets4 q1_2 rfl rfl rfl rfl (.bool g2) (.slice p2 n2 c2) (.bool h2) (.slice o2 m2 e2)),(Below.sets4 i0 (b := w.heap.size + 1) (by omega) (.bool g2) (.slice p2 n2 c2) (.bool h2) (.slice o2 m2 e2))⟩
theorem valueQ_raw (v : Value) (ok : Bool) (q : Rat) (w : World) (h : QRaw w v ok q) (hn : Qn v 1000000000) :
    Calls Tryz.prog 105 #[v] w (GQ q w) := by
  cases ok
  · exact valueQ_False v q w h hn
  · exact valueQ_True v q w h hn
theorem valueQ_any (v : Value) (q : Rat) (w : World) (h : RQ w v q) (hl : rsz q ≤ 1000000000) :
    Calls Tryz.prog 105 #[v] w (GQ q w) := valueQ_raw v true q w h.raw (h.qn hl)
end Go.Proofs.YtidfgdchcpmnfaaGreat
