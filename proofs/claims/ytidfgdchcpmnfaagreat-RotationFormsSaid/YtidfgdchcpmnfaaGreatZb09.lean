/-
  Lemmas for the statements about rotations, part 9 of 51.
-/
import Derived.BigQuiet
import Derived.Deep.DeepCutAuto
import Derived.Deep.LoopGhost
import Derived.Deep.QuietTactic
import Derived.Test.YtidfgdchcpmnfaaGreatZb01
import Derived.Test.YtidfgdchcpmnfaaGreatZb05
import Derived.Test.YtidfgdchcpmnfaaGreatZb06
import Derived.Test.YtidfgdchcpmnfaaGreatZb07
import Derived.Test.YtidfgdchcpmnfaaGreatZb08
namespace Go.Proofs.YtidfgdchcpmnfaaGreat
open Go.RowKit
set_option maxRecDepth 1000000
set_option maxHeartbeats 4000000
set_option linter.unusedSimpArgs false
set_option linter.unusedVariables false
theorem one_rd (w : World) (s : Nat) : Rd (w.alloc (.cells #[.int .u32 (s : Nat)] 118)) (.slice (some ⟨w.heap.size,0,none⟩) 1 1) [s] := by
  refine .inr ⟨w.heap.size,0,1,rfl,by simp,by omega,by simp,fun i hi => ?_⟩
  have : i = 0 := by simp at hi;exact hi
  subst this
  simp [gr,World.cell?_alloc_at]
theorem cells32_snoc (l : List Nat) (g : Nat) : cells32 (l ++ [g]) = cells32 l ++ [.int .u32 (g : Nat)] := by simp [cells32]
theorem long_any (s t : Value) (a b : List Nat) (w : World) (hs : Rd w s a) (ht : Rd w t b) (ha : Canon a) (hb : Canon b) (la : a.length ≤ 1000000000) (hb2 : 2 ≤ b.length) (hle : val b ≤ val a) :
    Calls Tryz.prog 169 #[s,t] w fun e w' => ∃ v1 v2,e = .returned (.tuple #[v1,v2]) ∧ Rd w' v1 (dig (val a / val b)) ∧ Rd w' v2 (dig (val a % val b)) ∧ Below w.heap.size w w' := by
  obtain ⟨i0,hi,hz0,hz1,hz2⟩ := info_parts infoU32
  obtain ⟨p,c,rfl,_,_⟩ := hs.form
  obtain ⟨q,d,rfl,_,_⟩ := ht.form
  have hbn : b ≠ [] := by intro e;subst e;simp at hb2
  obtain ⟨gb,ob,rfl,hgb,hcb⟩ := ht.at hbn
  have hlb : b.length ≤ a.length := by
    have := dig_length_mono hle
    rwa [dig_val ha,dig_val hb] at this
  have htop : gr b (b.length - 1) ≤ 999999999 := gr_le hb.1 _
  have hct := hcb (b.length - 1) (by omega)
  have htp : 1 ≤ gr b (b.length - 1) := by
    have := hb.2
    rw [last_gr hbn] at this
    have : gr b (b.length - 1) ≠ 0 := by simpa using this
    omega
  generalize gr b (b.length - 1) = tp at htop hct htp
  obtain ⟨sc,hsc⟩ : ∃ sc : Nat,(1000000000 : Int) / ((tp : Int) + 1) = sc := ⟨1000000000 / (tp + 1),by simp⟩
  have hsc2 : 1000000000 / (tp + 1) = sc := by
    have : ((1000000000 / (tp + 1) : Nat) : Int) = sc := by rw [← hsc];simp
    omega
  have hsc3 : 1 ≤ sc := by rw [← hsc2];exact (Nat.le_div_iff_mul_le (by omega)).2 (by omega)
  have hsc4 : sc ≤ 500000000 := by rw [← hsc2];exact Nat.le_trans (Nat.div_le_div_left (c := 2) (by omega) (by omega)) (by omega)
  have HSC := Lib.hid hsc2
  have HCB := Lib.hid hcb
  clear hsc2 hcb
  have HA := Lib.hid ha
  have HB := Lib.hid hb
  have HLE := Lib.hid hle
  clear ha hb hle
  have hw1 : IntKind.u32.wrap (sc : Int) = sc := by simp [IntKind.wrap,IntKind.bits,IntKind.signed];omega
  have hidx : ((b.length : Int) - 1).toNat = b.length - 1 := by omega
  go_enter Tryz.func169,Tryz.ntmps169
  go_wp2_with fail
  have hs1 := hs.alloc (.cells #[.int .u32 (sc : Nat)] 118)
  have lsc : Low [sc] := Low.cons.2 ⟨by rw [BB_eq];omega,Low.nil⟩
  have vsc : val [sc] = sc := by simp [val_cons]
  refine (times_any _ _ a [sc] _ hs1 (one_rd w sc) HA.out.1 lsc la (by simp)).mono ?_
  rw [vsc]
  rintro e w1 ⟨uv,rfl,hu1,hb1⟩
  go_wp2_with fail
  have ht1 : Rd (w1.alloc (.cells #[.int .u32 (sc : Nat)] 118)) (.slice (some ⟨gb,ob,none⟩) b.length d) b := ((ht.alloc _).below hb1).alloc _
  refine (times_any _ _ b [sc] _ ht1 (one_rd w1 sc) HB.out.1 lsc (by omega) (by simp)).mono ?_
  rw [vsc]
  rintro e w2 ⟨vv,rfl,hv2,hb2'⟩
  have U0 : a.length ≤ (dig (val a * sc)).length := by
    have := dig_length_mono (show val a ≤ val a * sc from Nat.le_mul_of_pos_right _ hsc3)
    rwa [dig_val HA.out] at this
  have U1 : (dig (val a * sc)).length ≤ 1000000001 := by
    have := nsz_mul (val a) sc
    have h2 : nsz sc ≤ 1 := dig_length_le (by rw [BB_eq];omega)
    unfold nsz at this h2
    rw [dig_val HA.out] at this
    omega
  have V0 : b.length ≤ (dig (val b * sc)).length := by
    have := dig_length_mono (show val b ≤ val b * sc from Nat.le_mul_of_pos_right _ hsc3)
    rwa [dig_val HB.out] at this
  have V1 : (dig (val b * sc)).length ≤ (dig (val a * sc)).length := dig_length_mono (Nat.mul_le_mul_right _ HLE.out)
  have hz1' : w.heap.size + 1 ≤ w1.heap.size := by have := hb1.size;simpa using this
  have hz2' : w1.heap.size + 1 ≤ w2.heap.size := by have := hb2'.size;simpa using this
  obtain ⟨gu,cu,hue,hgu1,hgu2,_⟩ := owns_form hu1 (by omega)
  obtain ⟨gv,cv,hve,hgv1,hgv2,hcv⟩ := owns_form hv2 (by omega)
  rw [hue] at hu1
  rw [hve] at hv2
  rw [hue,hve]
  simp only [World.size_alloc] at hgu1 hgv1
  have hu2 := owns_to (owns_to hu1 ((Below.refl _ w1).alloc (Nat.le_refl _) (.cells #[.int .u32 (sc : Nat)] 118))) hb2'
  have hB2 : Below w.heap.size w w2 := (((Below.refl _ _).alloc (Nat.le_refl _) _).trans (hb1.mono (by simp))).trans (((Below.refl _ _).alloc (by omega) _).trans (hb2'.mono (by simp;omega)))
  have HU := Lib.hid (show val (dig (val a * sc)) = val a * sc from val_dig _)
  have HV := Lib.hid (show val (dig (val b * sc)) = val b * sc from val_dig _)
  have HUc := Lib.hid (dig_canon (val a * sc))
  have HVc := Lib.hid (dig_canon (val b * sc))
  generalize dig (val a * sc) = U at *
  generalize dig (val b * sc) = V at *
  clear hue hve hu1 hb1 hb2' hs1 ht1 hct lsc vsc hidx hw1
  obtain ⟨lu,hlu⟩ : ∃ lu,U.length = lu := ⟨_,rfl⟩
  obtain ⟨n,hn⟩ : ∃ n,V.length = n := ⟨_,rfl⟩
  rw [hlu] at hu2 U0 U1 V1 ⊢
  rw [hn] at hv2 V0 V1 hcv ⊢
  have HLU := Lib.hid hlu
  have HN := Lib.hid hn
  clear hlu hn
  have hd1 : decide ((lu : Int) + 1 ≤ a.length) = false := by simp;omega
  go_wp2_with (at_builtin;refine wpList_append_lies rfl _ _ 26 rfl w.heap.size 118 i0 (.int .u32 0) 1 4 Tryz.underlying26 hi hz0 hz1 hz2 rfl (by decide) _ _ _ rfl ((owns_base hu2 (by simp)).alloc _) ⟨w2.heap.size,0,none⟩ 1 1 [.int .u32 (((0 : Nat)) : Int)] rfl rfl (cell_one_new _ _ _) (by simp [Value.oneCell']) (by omega) (by unfold maxLen;omega) (by omega) (by simp;omega) ?_)
  intro gu' cu' w3 hu3 hgr3 hgx hgl
  have hgu : gu' = gu ∨ gu' = w2.heap.size + 1 := by
    rcases hgx with h | h
    · left;simpa [Value.ownBlock] using h.symm
    · right;simpa using h
  have hne1 : gu' ≠ gv := by omega
  have hgu' : w.heap.size ≤ gu' := by omega
  have hv3 : w3.ownsRow w.heap.size 118 1 (.slice (some ⟨gv,0,none⟩) n cv) n (cells32 V) :=
    ((owns_base hv2 (by simp;omega)).alloc _).kept hgr3 (.inr (by simp [Value.ownBlock];omega))
  have hB3 : Below w.heap.size w w3 := (hB2.alloc (by omega) _).grown hgr3 (by simp;omega) (fun k e => by simp [Value.ownBlock] at e;omega)
  have hz3 : w2.heap.size + 1 ≤ w3.heap.size := by have := hgr3.size;simpa using this
  have hu3' : w3.ownsRow w.heap.size 118 1 (.slice (some ⟨gu',0,none⟩) (lu + 1) cu') (lu + 1) (cells32 (U ++ [0])) := by rw [cells32_snoc];exact hu3
  have hvb : gv < w3.heap.size := by omega
  clear hgx hgr3 hu2 hv2 hu3 hgu2 hgv2 hB2
  obtain ⟨M,hM⟩ : ∃ M : Nat,(lu : Int) + 1 - n = M := ⟨lu + 1 - n,by omega⟩
  have hM2 : M + n = lu + 1 := by omega
  go_wp2_with (at_make;refine wpList_make_full _ rfl _ _ 26 rfl w.heap.size 118 i0 (.int .u32 0) 1 Tryz.underlying26 hi hz0 hz1 _ _ _ _ M rfl rfl (by omega) (by omega) (by rw [hz2];omega) (by unfold maxLen;omega) (by omega) ?_)
  intro w4 hq4 hgr4
  rw [cells32_made] at hq4
  have hv4 := hv3.kept hgr4 (.inr (by simp [Value.ownBlock]))
  have hu4 := hu3'.kept hgr4 (.inr (by simp [Value.ownBlock]))
  have hB4 : Below w.heap.size w w4 := hB3.grown hgr4 (by omega) (fun k e => by cases e)
  obtain ⟨gq,hgq⟩ : ∃ gq,w3.heap.size = gq := ⟨_,rfl⟩
  rw [hgq] at hq4 hgl hvb ⊢
  have hgqw : w.heap.size ≤ gq := by omega
  have hne2 : gu' ≠ gq := by omega
  have hne3 : gv ≠ gq := by omega
  clear hv3 hu3' hB3 hgr4 hgq hz3 hgu
  go_wp2
  have hI0 : LongInv (val a * sc) (val V) n (lu + 1) (U ++ [0]) (List.replicate M 0) M := by
    have e1 := HLU.out
    have e2 := HN.out
    have e3 : val (U ++ [0]) = val a * sc := by rw [val_append,HU.out];simp [val_cons]
    refine ⟨by simp [e1],Low.append.2 ⟨HUc.out.1,Low.cons.2 ⟨BB_pos,Low.nil⟩⟩,by simp;omega,fun g hg => by rw [(List.mem_replicate.1 hg).2];exact BB_pos,fun m _ => gr_replicate _ _,by rw [e3,val_zeros];simp,?_⟩
    rw [e3,← HU.out]
    have h1 := val_lt HUc.out.1
    rw [e1] at h1
    have h2 : BB ^ (n - 1) ≤ val V := by
      have := le_of_dig_length (n := val V) (k := n - 1) (by rw [dig_val HVc.out];omega)
      exact this
    have h3 : BB ^ (n - 1) * BB ^ M ≤ val V * BB ^ M := Nat.mul_le_mul_right _ h2
    rw [← Nat.pow_add,show n - 1 + M = lu from by omega] at h3
    omega
  have HI0 := Lib.hid hI0
  have hn2 : 2 ≤ n := by omega
  have hcu : lu + 1 ≤ cu' := by
    obtain ⟨_,_,e1,_,_,e2⟩ := owns_form hu4 (by omega)
    cases e1;exact e2
  have HSC3 := Lib.hid hsc3
  have HNE := Lib.hid hne1
  clear hI0 hi hz0 hz1 hz2 hcv hne1 hM U0 V0 V1 hsc hsc3 hd1 hgu1 hgv1
  go_loopw [10,11,12,13,14,15,16,17,18,19,20,21,22,64,65,66,67,68,69,70,71,72,73,74,75,76,77,78,79,80,81,82,83,84,85,86,87,88,89,90,91,92,93,94,95,96,97,98,99,100,101,102,103,104,105,106,107,108,109,110,111,112,113,114,115,116,117,118,119,120,121,122,123,124,125,126,127,128,129,130,131,132,133,134,135,136,137,138,139,140,141,142,143,144,145,146,147,148,149,150,151,152,153,154,155,156,157,158,159,160,161,162,163,164,165,166,167,168,169,170,171,172,173,174,175,176,177,178,179,180,181,182,183,184,185,186,187,188,189,190,191,192,193,194,195,196,197,198,199,200,201,202,203,204,205,206,207,208,209,210,211,212,213,214,215,216,217,218,219,220,221,222,223,224,225,226,227,228,229,230,231,232,233,234,235,236,237,238,239,240,241,242,243,244,245,246,247,248,249,250,251,252,253] (fun i _ _ _ _ _ _ _ _ _ _ _ _ _ _ _ _ _ _ _ _ _ _ _ _ _ _ _ _ _ _ _ _ _ _ _ _ _ _ _ _ _ _ _ _ _ _ _ _ _ _ _ _ _ _ _ _ _ _ _ _ _ _ _ _ _ _ _ _ _ _ _ _ _ _ _ _ _ _ _ _ _ _ _ _ _ _ _ _ _ _ _ _ _ _ _ _ _ _ _ _ _ _ _ _ _ _ _ _ _ _ _ _ _ _ _ _ _ _ _ _ _ _ _ _ _ _ _ _ _ _ _ _ _ _ _ _ _ _ _ _ _ _ _ _ _ _ _ _ _ _ _ _ _ _ _ _ _ _ _ _ _ _ _ _ _ _ _ _ _ _ _ _ _ _ _ _ _ _ _ _ _ _ _ _ _ _ _ _ _ _ _ _ _ _ _ _ _ _ _ _ _ _ wr => ∃ (k : Nat) (i' : Int) (u qq : List Nat),i = .int .i64 i' ∧ Hid (i' = (k : Int) - 1) ∧ k ≤ M ∧ Hid (LongInv (val a * sc) (val V) n (lu + 1) u qq k) ∧ wr.ownsRow w.heap.size 118 1 (.slice (some ⟨gu',0,none⟩) (lu + 1) cu') (lu + 1) (cells32 u) ∧ wr.ownsRow w.heap.size 118 1 (.slice (some ⟨gv,0,none⟩) n cv) n (cells32 V) ∧ wr.ownsRow w.heap.size 118 1 (.slice (some ⟨gq,0,none⟩) M M) M (cells32 qq) ∧ Below w.heap.size w wr) (fun i _ _ _ _ _ _ _ _ _ _ _ _ _ _ _ _ _ _ _ _ _ _ _ _ _ _ _ _ _ _ _ _ _ _ _ _ _ _ _ _ _ _ _ _ _ _ _ _ _ _ _ _ _ _ _ _ _ _ _ _ _ _ _ _ _ _ _ _ _ _ _ _ _ _ _ _ _ _ _ _ _ _ _ _ _ _ _ _ _ _ _ _ _ _ _ _ _ _ _ _ _ _ _ _ _ _ _ _ _ _ _ _ _ _ _ _ _ _ _ _ _ _ _ _ _ _ _ _ _ _ _ _ _ _ _ _ _ _ _ _ _ _ _ _ _ _ _ _ _ _ _ _ _ _ _ _ _ _ _ _ _ _ _ _ _ _ _ _ _ _ _ _ _ _ _ _ _ _ _ _ _ _ _ _ _ _ _ _ _ _ _ _ _ _ _ _ _ _ _ _ _ _ wr => (intOf i + 1).toNat)
  case atStart => exact ⟨M,_,_,_,rfl,rfl,Nat.le_refl _,HI0,hu4,hv4,hq4,hB4⟩
  case round =>
    obtain ⟨k,i',u,qq,rfl,hk',hkM,hI,hu,hv,hq,hB⟩ := hrel
    clear hu4 hv4 hq4 hB4 HI0
    cases k with
    | zero =>
      obtain rfl : i' = -1 := by have := hk'.out;simpa using this
      go_wp2_with fail
      have hd := hI.out.done
      have hlt := hI.out.lt
      rw [HV.out] at hd hlt
      rw [Nat.mul_mod_mul_right,Nat.mul_div_mul_right _ _ (by have := HSC3.out;omega)] at hd
      have hlun := hI.out.lu
      have hlow := hI.out.low
      have hVlt := val_low_lt HVc.out.1 HN.out
      rw [HV.out] at hVlt
      have htk : val (u.take n) = val a % val b * sc := by
        rw [← val_top (fun m hm => gr_zero_of (k := n) (by simp at hlt;omega) hm)];exact hd.2
      have hown := ownsRow_take hu (m := n) (by omega)
      have hck : (cells32 u).take n = cells32 (u.take n) := by simp [cells32,List.map_take]
      rw [hck] at hown
      have hlt2 : (u.take n).length = n := by rw [List.length_take,hlun];omega
      have hlw2 : Low (u.take n) := fun g hg => hlow g (List.mem_of_mem_take hg)
      have hR := Rd.of_owns (l := u.take n) (by rw [hlt2];exact hown)
      refine (trim_n _ _ n _ _ hR hlw2 hlt2).mono ?_
      rintro e w' ⟨rfl,rfl⟩
      have hto := owns_trim hown hlw2 hlt2
      have hqd := hd.1
      have hqlow := hI.out.lowq
      have hql : qq.length = M := by have := hI.out.lq;omega
      have htz : trimz (u.take n) = dig (val a % val b * sc) := by unfold trimz;rw [htk]
      rw [htz] at hto ⊢
      have hlen3 : (dig (val a % val b * sc)).length ≤ 2000000000 := by
        have h1 := trimz_length hlw2
        rw [htz,hlt2] at h1
        omega
      have HD := Lib.hid hd
      have HTK := Lib.hid htk
      have HX := Lib.hid (And.intro hqd (And.intro hqlow (And.intro hql (And.intro hown hlow))))
      have hRt := Rd.of_owns hto
      clear hd htk hqd hqlow hql hown hlow hlt hlun hVlt hck hlt2 hlw2 hR hto htz
      go_wp2_with fail
      refine (short_any _ _ sc _ hRt (dig_low _) HSC3.out (by omega) hlen3).mono ?_
      rintro e w' ⟨v2,rfl,hv2,hbel⟩
      rw [val_dig,Nat.mul_div_cancel _ (show 0 < sc from HSC3.out)] at hv2
      have hq5 := owns_to hq hbel
      have hB5 := hB.trans (hbel.mono hB.size)
      have hR2 := Rd.of_owns (l := qq) (by rw [HX.out.2.2.1];exact hq5)
      have htq := trim_n _ _ M _ _ hR2 HX.out.2.1 HX.out.2.2.1
      have hoq := owns_trim hq5 HX.out.2.1 HX.out.2.2.1
      have hR3 := Rd.of_owns hv2
      have hR4 := Rd.of_owns hoq
      have htz : trimz qq = dig (val a / val b) := by unfold trimz;rw [HX.out.1]
      rw [htz] at hR4
      have HR4 := Lib.hid hR4
      have HTZ := Lib.hid htz
      clear hoq hR4 htz
      go_wp2_with fail
      refine htq.mono ?_
      rintro e w' ⟨rfl,rfl⟩
      rw [HTZ.out]
      go_wp2_with fail
      go_ret2
      exact ⟨_,_,rfl,HR4.out,hR3,hB5⟩
    | succ j =>
      obtain rfl : i' = (j : Int) := by have := hk'.out;simp at this;omega
      refine long_round (val a * sc) V u qq gu' gv gq (lu + 1) n M cu' cv j w.heap.size wr w HVc.out HN.out hn2 (by omega) hM2 hcu hI.out hkM HNE.out hne2 hne3 hgu' hgqw hu hv hq hB _ _ _ _ _ _ _ _ _ _ _ _ _ _ _ _ _ _ _ _ _ _ _ _ _ _ _ _ _ _ _ _ _ _ _ _ _ _ _ _ _ _ _ _ _  _ ?_ _ _ _ _ _ _ _ _ _ _ _ _ _ _ _ _ _ _ _ _ _ _ _ _ _ _ _ _ _ _ _ _ _ _ _ _ _ _ _ _ _ _ _ _ _ _ _ _ _ _ _ _ _ _ _ _ _ _ _ _ _ _ _ _ _ _ _ _ _ _ _ _ _ _ _ _ _ _ _ _ _ _ _ _ _ _ _ _ _ _ _ _ _ _ _ _ _ _ _ _ _ _ _ _ _ _ _ _ _ _ _ _ _ _ _ _ _ _ _ _ _ _ _ _ _ _ _ _ _ _ _ _ _ _ _ _ _ _ _ _ _ _ _ _ _ _ _ _ _ _ _ _ _ _ _ _ _ _ _ _ _ _ _ _ _ _ _ _ _ _ _ _ _ _ _ _ _ _ _ _ _ _ _ _ _ _ _ _ _ _ _ _ _ _ _ _ _ _ _ _ _ _
      intro _ _ _ _ _ _ _ _ _ _ _ _ _ _ _ _ _ _ _ _ _ _ _ _ _ _ _ _ _ _ _ _ _ _ _ _ _ _ _ _ _ _ _ _ _ _ _ _ _ _ _ _ _ _ _ _ _ _ _ _ _ _ _ _ _ _ _ _ _ _ _ _ _ _ _ _ _ _ _ _ _ _ _ _ _ _ _ _ _ _ _ _ _ _ _ _ _ _ _ _ _ _ _ _ _ _ _ _ _ _ _ _ _ _ _ _ _ _ _ _ _ _ _ _ _ _ _ _ _ _ _ _ _ _ _ _ _ _ _ _ _ _ _ _ _ _ _ _ _ _ _ _ _ _ _ _ _ _ _ _ _ _ _ _ _ _ _ _ _ _ _ _ _ _ _ _ _ _ _ _ _ _ _ _ _ _ _ _ _ _ _ _ _ _ _ _ _ _ _ _ _ _  u' qq' w' hI' hu' hv' hq' hB'
      go_wp2_with fail
      go_roundw
      case rel =>
        (repeat apply Exists.intro)
        exact ⟨⟨j,_,u',qq',rfl,rfl,by omega,Lib.hid hI',hu',hv',hq',hB'⟩,rfl⟩
      case measure => simp [intOf]
end Go.Proofs.YtidfgdchcpmnfaaGreat
namespace Go.Proofs.YtidfgdchcpmnfaaGreat
open Go.RowKit
set_option maxRecDepth 100000
set_option maxHeartbeats 2000000
set_option linter.unusedSimpArgs false
set_option linter.unusedVariables false
theorem cmpI_sign {x y : Int} (h : x.sign ≠ y.sign) : cmpI x.sign y.sign = cmpI x y := by
  rcases Int.lt_trichotomy x 0 with hx | rfl | hx <;> rcases Int.lt_trichotomy y 0 with hy | rfl | hy
  · exact absurd (by rw [Int.sign_eq_neg_one_of_neg hx,Int.sign_eq_neg_one_of_neg hy]) h
  · rw [Int.sign_eq_neg_one_of_neg hx];simp [cmpI,hx]
  · rw [Int.sign_eq_neg_one_of_neg hx,Int.sign_eq_one_of_pos hy];unfold cmpI;rw [if_pos (by omega),if_pos (by omega)]
  · rw [Int.sign_eq_neg_one_of_neg hy];unfold cmpI;simp;omega
  · simp at h
  · rw [Int.sign_eq_one_of_pos hy];unfold cmpI;simp;omega
  · rw [Int.sign_eq_one_of_pos hx,Int.sign_eq_neg_one_of_neg hy];unfold cmpI;rw [if_neg (by omega),if_pos (by omega),if_neg (by omega),if_pos (by omega)]
  · rw [Int.sign_eq_one_of_pos hx];unfold cmpI;simp;omega
  · exact absurd (by rw [Int.sign_eq_one_of_pos hx,Int.sign_eq_one_of_pos hy]) h
theorem cmpI_abs {x y : Int} (h : x.sign = y.sign) (b : Bool) (hb : x ≠ 0 → b = decide (x < 0)) : (if b then -cmpI (x.natAbs : Nat) (y.natAbs : Nat) else cmpI (x.natAbs : Nat) (y.natAbs : Nat)) = cmpI x y := by
  rcases Int.lt_trichotomy x 0 with hx | rfl | hx
  · have hy : y < 0 := by
      rw [Int.sign_eq_neg_one_of_neg hx] at h
      exact Int.sign_eq_neg_one_iff_neg.1 h.symm
    rw [hb (by omega)]
    simp only [hx,decide_true,if_true]
    unfold cmpI
    split <;> split <;> (try split) <;> (try split) <;> omega
  · simp at h
    have : y = 0 := Int.sign_eq_zero_iff_zero.1 h.symm
    subst this
    cases b <;> simp [cmpI]
  · have hy : 0 < y := by
      rw [Int.sign_eq_one_of_pos hx] at h
      exact Int.sign_eq_one_iff_pos.1 h.symm
    rw [hb (by omega)]
    have : ¬ x < 0 := by omega
    simp only [this,decide_false,Bool.false_eq_true,if_false]
    unfold cmpI
    split <;> split <;> (try split) <;> (try split) <;> omega
theorem cmpI_bd (x y : Int) : -1 ≤ cmpI x y ∧ cmpI x y ≤ 1 := by unfold cmpI;split <;> (try split) <;> omega
theorem compareI_any (v u : Value) (x y : Int) (w : World) (hv : Raw w v x) (hu : Raw w u y) :
    Calls Tryz.prog 132 #[v,u] w fun e w' => e = .returned (.int .i64 (cmpI x y)) ∧ Below w.heap.size w w' := by
  obtain ⟨b,p,n,c,rfl⟩ := hv.form
  obtain ⟨d,o,m,e,rfl⟩ := hu.form
  have HS := Lib.hid (fun h : x ≠ 0 => hv.sign h)
  obtain ⟨sx,hsx⟩ : ∃ sx,x.sign = sx := ⟨_,rfl⟩
  obtain ⟨sy,hsy⟩ : ∃ sy,y.sign = sy := ⟨_,rfl⟩
  have HSX := Lib.hid hsx
  have HSY := Lib.hid hsy
  clear hsx hsy
  obtain ⟨cv,hcv⟩ : ∃ cv,cmpI (val (dig x.natAbs)) (val (dig y.natAbs)) = cv := ⟨_,rfl⟩
  have hc1 : -1 ≤ cv := by rw [← hcv];exact (cmpI_bd _ _).1
  have hc2 : cv ≤ 1 := by rw [← hcv];exact (cmpI_bd _ _).2
  have HCV := Lib.hid hcv
  clear hcv
  have hB_0 : Below w.heap.size w w := Below.refl _ _
  have hv_1 := hv.alloc (.cells #[.bool b,.slice p n c] 28)
  have hu_1 := hu.alloc (.cells #[.bool b,.slice p n c] 28)
  have hB_1 := Below.alloc hB_0 hB_0.size (.cells #[.bool b,.slice p n c] 28)
  clear hB_0
  have q_1 : Bx (w.alloc (.cells #[.bool b,.slice p n c] 28)) (w.heap.size) [.bool b,.slice p n c] := by
    have := Bx.new w [.bool b,.slice p n c] 28
    simpa using this
  have hv_2 := hv_1.alloc (.cells #[.bool d,.slice o m e] 28)
  have hu_2 := hu_1.alloc (.cells #[.bool d,.slice o m e] 28)
  have hB_2 := Below.alloc hB_1 hB_1.size (.cells #[.bool d,.slice o m e] 28)
  have q_2 := q_1.alloc (.cells #[.bool d,.slice o m e] 28)
  clear hv_1 hu_1 hB_1 q_1
  have t_2 : Bx ((w.alloc (.cells #[.bool b,.slice p n c] 28)).alloc (.cells #[.bool d,.slice o m e] 28)) (w.heap.size + 1) [.bool d,.slice o m e] := by
    have := Bx.new (w.alloc (.cells #[.bool b,.slice p n c] 28)) [.bool d,.slice o m e] 28
    simpa using this
  have hv_3 := hv_2.drew
  have hu_3 := hu_2.drew
  have hB_3 := hB_2.drew
  have q_3 := q_2.drew
  have t_3 := t_2.drew
  clear hv_2 hu_2 hB_2 q_2 t_2
  have S0 : (fun w' : World => w'.cell? ⟨w.heap.size,0,none⟩ = some (.bool b) ∧ w'.cell? ⟨w.heap.size,1,none⟩ = some (.slice p n c) ∧ w'.cell? ⟨w.heap.size + 1,0,none⟩ = some (.bool d) ∧ w'.cell? ⟨w.heap.size + 1,1,none⟩ = some (.slice o m e) ∧ w.heap.size + 1 < w'.heap.size) ((w.alloc (.cells #[.bool b,.slice p n c] 28)).alloc (.cells #[.bool d,.slice o m e] 28)).drew := ⟨q_3.c0,q_3.c1,t_3.c0,t_3.c1,t_3.1⟩
  have K : ∀ A B : World,(fun w' : World => w'.cell? ⟨w.heap.size,0,none⟩ = some (.bool b) ∧ w'.cell? ⟨w.heap.size,1,none⟩ = some (.slice p n c) ∧ w'.cell? ⟨w.heap.size + 1,0,none⟩ = some (.bool d) ∧ w'.cell? ⟨w.heap.size + 1,1,none⟩ = some (.slice o m e) ∧ w.heap.size + 1 < w'.heap.size) A → Below A.heap.size A B → (fun w' : World => w'.cell? ⟨w.heap.size,0,none⟩ = some (.bool b) ∧ w'.cell? ⟨w.heap.size,1,none⟩ = some (.slice p n c) ∧ w'.cell? ⟨w.heap.size + 1,0,none⟩ = some (.bool d) ∧ w'.cell? ⟨w.heap.size + 1,1,none⟩ = some (.slice o m e) ∧ w.heap.size + 1 < w'.heap.size) B := by
    rintro A B ⟨h0,h1,h2,h3,h4⟩ hb
    have hs := hb.size
    exact ⟨by rw [(bcell hb).1 _ _ (by omega)];exact h0,by rw [(bcell hb).1 _ _ (by omega)];exact h1,by rw [(bcell hb).1 _ _ (by omega)];exact h2,by rw [(bcell hb).1 _ _ (by omega)];exact h3,by omega⟩
  have tk1 : True := trivial
  have tk2 : True := trivial
  by_cases hs : sx = sy
  · have hne : (sx != sy) = false := by simpa using hs
    have HE := Lib.hid hs
    clear hs
    go_enter Tryz.func132,Tryz.ntmps132
    go_wp2_with fail
    go_region_held3 (fun w' : World => w'.cell? ⟨w.heap.size,0,none⟩ = some (.bool b) ∧ w'.cell? ⟨w.heap.size,1,none⟩ = some (.slice p n c) ∧ w'.cell? ⟨w.heap.size + 1,0,none⟩ = some (.bool d) ∧ w'.cell? ⟨w.heap.size + 1,1,none⟩ = some (.slice o m e) ∧ w.heap.size + 1 < w'.heap.size) (first | exact S0 | (simp;done) | exact K _ _ (by assumption) (by assumption))
      (first
        | ((have := tk1;skip);clear tk1;go_at_call 117;refine (sign_any _ x _ hv_3).mono ?_;rintro e w1 ⟨rfl,hb1⟩;have hv_4 := hv_3.below hb1;have hu_4 := hu_3.below hb1;have hB_4 := hB_3.trans (hb1.mono hB_3.size);have q_4 := q_3.to hb1;have t_4 := t_3.to hb1;clear hv_3 hu_3 hB_3 q_3 t_3;rw [HSX.out])
        | ((have := tk2;skip);clear tk2;go_at_call 117;refine (sign_any _ y _ hu_4).mono ?_;rintro e w2 ⟨rfl,hb2⟩;have hv_5 := hv_4.below hb2;have hu_5 := hu_4.below hb2;have hB_5 := hB_4.trans (hb2.mono hB_4.size);have q_5 := q_4.to hb2;have t_5 := t_4.to hb2;clear hv_4 hu_4 hB_4 q_4 t_4;rw [HSY.out]))
    have hv_6 := hv_5.drew
    have hu_6 := hu_5.drew
    have hB_6 := hB_5.drew
    have q_6 := q_5.drew
    have t_6 := t_5.drew
    clear hv_5 hu_5 hB_5 q_5 t_5
    have S0b : (fun w' : World => w'.cell? ⟨w.heap.size,0,none⟩ = some (.bool b) ∧ w'.cell? ⟨w.heap.size,1,none⟩ = some (.slice p n c) ∧ w'.cell? ⟨w.heap.size + 1,0,none⟩ = some (.bool d) ∧ w'.cell? ⟨w.heap.size + 1,1,none⟩ = some (.slice o m e) ∧ w.heap.size + 1 < w'.heap.size) w2.drew := ⟨q_6.c0,q_6.c1,t_6.c0,t_6.c1,t_6.1⟩
    have tk3 : True := trivial
    have tk4 : True := trivial
    go_wp2_with fail
    go_region_held3 (fun w' : World => w'.cell? ⟨w.heap.size,0,none⟩ = some (.bool b) ∧ w'.cell? ⟨w.heap.size,1,none⟩ = some (.slice p n c) ∧ w'.cell? ⟨w.heap.size + 1,0,none⟩ = some (.bool d) ∧ w'.cell? ⟨w.heap.size + 1,1,none⟩ = some (.slice o m e) ∧ w.heap.size + 1 < w'.heap.size) (first | exact S0b | (simp;done) | exact K _ _ (by assumption) (by assumption))
      (first
        | ((have := tk3;skip);clear tk3;go_at_call 119;refine (groups_any _ x _ hv_6).mono ?_;rintro e w3 ⟨s1,rfl,hs1,hb3⟩;have hv_7 := hv_6.below hb3;have hu_7 := hu_6.below hb3;have hB_7 := hB_6.trans (hb3.mono hB_6.size);have q_7 := q_6.to hb3;have t_7 := t_6.to hb3;clear hv_6 hu_6 hB_6 q_6 t_6)
        | ((have := tk4;skip);clear tk4;go_at_call 119;refine (groups_any _ y _ hu_7).mono ?_;rintro e w4 ⟨s2,rfl,hs2,hb4⟩;have hv_8 := hv_7.below hb4;have hu_8 := hu_7.below hb4;have hB_8 := hB_7.trans (hb4.mono hB_7.size);have q_8 := q_7.to hb4;have t_8 := t_7.to hb4;have hs_8 := hs1.below hb4;clear hv_7 hu_7 hB_7 q_7 t_7 hs1)
        | (go_at_call 162;refine (compare_any _ _ _ _ _ hs_8 hs2 (dig_canon _) (dig_canon _)).mono ?_;rintro e w5 ⟨rfl,hb5⟩;have hv_9 := hv_8.below hb5;have hu_9 := hu_8.below hb5;have hB_9 := hB_8.trans (hb5.mono hB_8.size);have q_9 := q_8.to hb5;have t_9 := t_8.to hb5;have hs_9 := hs_8.below hb5;have a0 := hs2.below hb5;clear hv_8 hu_8 hB_8 q_8 t_8 hs_8;rw [HCV.out];have b0 := q_9.c0;have d0 := q_9.c1))
    have hfin := cmpI_abs (HSX.out.trans (HE.out.trans HSY.out.symm)) b HS.out
    rw [← val_dig x.natAbs,← val_dig y.natAbs,HCV.out] at hfin
    have HF := Lib.hid hfin
    clear hfin
    cases b with
    | true =>
      go_wp2_with fail
      go_ret
      exact ⟨by rw [← HF.out];rfl,hB_9⟩
    | false =>
      go_wp2_with fail
      go_ret
      exact ⟨by rw [← HF.out];rfl,hB_9⟩
  · have hne : (sx != sy) = true := by simpa using hs
    have HE := Lib.hid hs
    clear hs
    go_enter Tryz.func132,Tryz.ntmps132
    go_wp2_with fail
    go_region_held3 (fun w' : World => w'.cell? ⟨w.heap.size,0,none⟩ = some (.bool b) ∧ w'.cell? ⟨w.heap.size,1,none⟩ = some (.slice p n c) ∧ w'.cell? ⟨w.heap.size + 1,0,none⟩ = some (.bool d) ∧ w'.cell? ⟨w.heap.size + 1,1,none⟩ = some (.slice o m e) ∧ w.heap.size + 1 < w'.heap.size) (first | exact S0 | (simp;done) | exact K _ _ (by assumption) (by assumption))
      (first
        | ((have := tk1;skip);clear tk1;go_at_call 117;refine (sign_any _ x _ hv_3).mono ?_;rintro e w1 ⟨rfl,hb1⟩;have hv_4 := hv_3.below hb1;have hu_4 := hu_3.below hb1;have hB_4 := hB_3.trans (hb1.mono hB_3.size);have q_4 := q_3.to hb1;have t_4 := t_3.to hb1;clear hv_3 hu_3 hB_3 q_3 t_3;rw [HSX.out])
        | ((have := tk2;skip);clear tk2;go_at_call 117;refine (sign_any _ y _ hu_4).mono ?_;rintro e w2 ⟨rfl,hb2⟩;have hv_5 := hv_4.below hb2;have hu_5 := hu_4.below hb2;have hB_5 := hB_4.trans (hb2.mono hB_4.size);have q_5 := q_4.to hb2;have t_5 := t_4.to hb2;clear hv_4 hu_4 hB_4 q_4 t_4;rw [HSY.out]))
    go_wp2_with fail
    refine (cmpInt_any _ _ _).mono ?_
    rintro e w' ⟨rfl,rfl⟩
    go_wp2_with fail
    go_ret
    exact ⟨by rw [← HSX.out,← HSY.out,cmpI_sign (fun h => HE.out (HSX.out.symm.trans (h.trans HSY.out)))];rfl,hB_5⟩
end Go.Proofs.YtidfgdchcpmnfaaGreat
namespace Go.Proofs.YtidfgdchcpmnfaaGreat
theorem fdiv_unique {x y q r : Int} (hy : y ≠ 0) (h : x = y * q + r) (h1 : 0 < y → 0 ≤ r ∧ r < y) (h2 : y < 0 → y < r ∧ r ≤ 0) : x.fdiv y = q ∧ x.fmod y = r := by
  have e := Int.fmod_add_mul_fdiv x y
  rcases Int.lt_trichotomy y 0 with h0 | h0 | h0
  · have a1 := Int.fmod_nonneg_of_pos (-x) (show 0 < -y by omega)
    have a2 := Int.fmod_lt_of_pos (-x) (show 0 < -y by omega)
    rw [Int.neg_fmod_neg] at a1 a2
    have ⟨b1,b2⟩ := h2 h0
    have : x.fdiv y = q := by
      generalize x.fdiv y = Q at *
      generalize x.fmod y = R at *
      have h3 : y * (Q - q) = r - R := by rw [Int.mul_sub];omega
      rcases Int.lt_trichotomy Q q with h | h | h
      · have : y * (Q - q) ≥ -y := by
          have := Int.mul_le_mul_of_nonneg_left (show Q - q ≤ -1 by omega) (show 0 ≤ -y by omega)
          rw [Int.neg_mul,Int.neg_mul_neg] at this;omega
        omega
      · exact h
      · have : y * (Q - q) ≤ y := by
          have := Int.mul_le_mul_of_nonneg_left (show 1 ≤ Q - q by omega) (show 0 ≤ -y by omega)
          rw [Int.neg_mul,Int.neg_mul] at this;omega
        omega
    refine ⟨this,?_⟩
    rw [this] at e;omega
  · exact absurd h0 hy
  · have a1 := Int.fmod_nonneg_of_pos x h0
    have a2 := Int.fmod_lt_of_pos x h0
    have ⟨b1,b2⟩ := h1 h0
    have : x.fdiv y = q := by
      generalize x.fdiv y = Q at *
      generalize x.fmod y = R at *
      have h3 : y * (Q - q) = r - R := by rw [Int.mul_sub];omega
      rcases Int.lt_trichotomy Q q with h | h | h
      · have : y * (Q - q) ≤ y * (-1) := Int.mul_le_mul_of_nonneg_left (show Q - q ≤ -1 by omega) (show 0 ≤ y by omega)
        omega
      · exact h
      · have : y * 1 ≤ y * (Q - q) := Int.mul_le_mul_of_nonneg_left (show 1 ≤ Q - q by omega) (show 0 ≤ y by omega)
        omega
    refine ⟨this,?_⟩
    rw [this] at e;omega
theorem fdiv_same (b : Bool) (m n : Nat) (hn : 0 < n) : (sg b m).fdiv (sg b n) = (m / n : Nat) ∧ (sg b m).fmod (sg b n) = sg b (m % n) := by
  have e : (m : Int) = n * (m / n : Nat) + (m % n : Nat) := by exact_mod_cast (Nat.div_add_mod m n).symm
  have hl : m % n < n := Nat.mod_lt _ hn
  refine fdiv_unique ?_ ?_ ?_ ?_ <;> cases b <;> simp only [sg,if_true,if_false,Bool.false_eq_true] <;> first | omega | (rw [Int.neg_mul];omega)
theorem fdiv_exact (b d : Bool) (m n : Nat) (hn : 0 < n) (hbd : (b != d) = true) (h : m % n = 0) : (sg b m).fdiv (sg d n) = sg true (m / n : Nat) ∧ (sg b m).fmod (sg d n) = 0 := by
  have e : (m : Int) = n * (m / n : Nat) + (m % n : Nat) := by exact_mod_cast (Nat.div_add_mod m n).symm
  rw [h] at e
  generalize m / n = q at *
  refine fdiv_unique ?_ ?_ ?_ ?_ <;> cases b <;> cases d <;> simp only [sg,if_true,if_false,Bool.false_eq_true,Int.neg_mul,Int.mul_neg] <;> first | (simp at hbd;done) | omega
theorem fdiv_rest (b d : Bool) (m n : Nat) (hn : 0 < n) (hbd : (b != d) = true) (h : m % n ≠ 0) : (sg b m).fdiv (sg d n) = sg true (m / n + 1 : Nat) ∧ (sg b m).fmod (sg d n) = sg d (n - m % n) := by
  have e : (m : Int) = n * (m / n : Nat) + (m % n : Nat) := by exact_mod_cast (Nat.div_add_mod m n).symm
  have hl : m % n < n := Nat.mod_lt _ hn
  generalize m / n = q at *
  generalize m % n = r at *
  have e2 : (n : Int) * ((q + 1 : Nat) : Int) = n * q + n := by rw [Int.natCast_add,Int.mul_add];simp
  refine fdiv_unique ?_ ?_ ?_ ?_ <;> cases b <;> cases d <;> simp only [sg,if_true,if_false,Bool.false_eq_true,Int.neg_mul,Int.mul_neg] <;> first | (simp at hbd;done) | omega
theorem divInt_num_pos {n d : Int} (hd : 0 < d) : (Rat.divInt n d).num = n / (Int.gcd n d : Nat) := by
  rw [Rat.num_divInt,Int.sign_eq_one_of_pos hd,Int.one_mul,Int.gcd_comm]
theorem divInt_den_pos {n d : Int} (hd : 0 < d) : (((Rat.divInt n d).den : Nat) : Int) = d / (Int.gcd n d : Nat) := by
  rw [Rat.den_divInt,if_neg (by omega),Int.gcd_comm]
  obtain ⟨k,rfl⟩ := Int.eq_ofNat_of_zero_le (Int.le_of_lt hd)
  simp
theorem divInt_neg_neg (n d : Int) : Rat.divInt (-n) (-d) = Rat.divInt n d := by
  rw [Rat.divInt_eq_div,Rat.divInt_eq_div]
  grind
theorem divInt_num_neg {n d : Int} (hd : d < 0) : (Rat.divInt n d).num = n / (-(Int.gcd n d : Nat)) := by
  rw [← divInt_neg_neg,divInt_num_pos (by omega),Int.ediv_neg,Int.gcd_neg,Int.neg_gcd]
  exact Int.neg_ediv_of_dvd (Int.gcd_dvd_left _ _)
theorem divInt_den_neg {n d : Int} (hd : d < 0) : (((Rat.divInt n d).den : Nat) : Int) = d / (-(Int.gcd n d : Nat)) := by
  rw [← divInt_neg_neg,divInt_den_pos (by omega),Int.ediv_neg,Int.gcd_neg,Int.neg_gcd]
  exact Int.neg_ediv_of_dvd (Int.gcd_dvd_right _ _)
theorem divInt_num_one {n d : Int} (hd : 0 < d) (hg : Int.gcd n d = 1) : (Rat.divInt n d).num = n := by rw [divInt_num_pos hd,hg];simp
theorem divInt_den_one {n d : Int} (hd : 0 < d) (hg : Int.gcd n d = 1) : ((Rat.divInt n d).den : Int) = d := by rw [divInt_den_pos hd,hg];simp
theorem rat_gcd (q : Rat) : Int.gcd q.num q.den = 1 := q.reduced
theorem rat_den_pos (q : Rat) : 0 < (q.den : Int) := by have := q.den_nz;omega
theorem rat_add (x y : Rat) : Rat.divInt (x.num * y.den + y.num * x.den) (x.den * y.den) = x + y := by
  rw [Rat.add_def,Rat.normalize_eq_mkRat,← Rat.divInt_ofNat];simp
theorem rat_mul (x y : Rat) : Rat.divInt (x.num * y.num) (x.den * y.den) = x * y := by
  rw [Rat.mul_def,Rat.normalize_eq_mkRat,← Rat.divInt_ofNat];simp
theorem rat_div (x y : Rat) : Rat.divInt (x.num * y.den) (x.den * y.num) = x / y := by
  have hx := Rat.num_divInt_den x
  have hy := Rat.num_divInt_den y
  conv => rhs;rw [← hx,← hy]
  simp only [Rat.divInt_eq_div,Rat.intCast_mul]
  have h1 : ((x.den : Int) : Rat) ≠ 0 := by have := x.den_nz;simp;exact this
  have h2 : ((y.den : Int) : Rat) ≠ 0 := by have := y.den_nz;simp;exact this
  by_cases h3 : (y.num : Rat) = 0
  · rw [h3];grind
  · grind
theorem rat_cmp_lt (x y : Rat) : x.num * y.den < y.num * x.den ↔ x < y := (Rat.lt_iff x y).symm
theorem rat_num_zero (x : Rat) : x.num = 0 ↔ x = 0 := Rat.num_eq_zero
theorem rat_sign (x : Rat) : x.num.sign = if x < 0 then -1 else if 0 < x then 1 else 0 := by
  have h1 := Rat.lt_iff x 0
  have h2 := Rat.lt_iff 0 x
  simp at h1 h2
  by_cases h : x < 0
  · rw [if_pos h];exact Int.sign_eq_neg_one_of_neg (h1.1 h)
  · rw [if_neg h]
    by_cases h' : 0 < x
    · rw [if_pos h'];exact Int.sign_eq_one_of_pos (h2.1 h')
    · rw [if_neg h']
      have : x.num = 0 := by
        have a : ¬ x.num < 0 := fun k => h (h1.2 k)
        have b : ¬ 0 < x.num := fun k => h' (h2.2 k)
        omega
      rw [this];rfl
theorem rat_floor (x : Rat) : x.num / x.den = x.floor := (Rat.floor_def x).symm
theorem divInt_one (n : Int) : Rat.divInt n 1 = n := by rw [Rat.divInt_eq_div];simp;grind
theorem int_num (n : Int) : ((n : Rat)).num = n := by simp
theorem int_den (n : Int) : ((n : Rat)).den = 1 := by simp
theorem rat_neg_num (x : Rat) : (-x).num = -x.num := Rat.neg_num x
theorem rat_neg_den (x : Rat) : (-x).den = x.den := Rat.neg_den x
theorem divInt_natAbs (n d : Int) : (Rat.divInt n d).num.natAbs ≤ n.natAbs ∧ ((Rat.divInt n d).den ≤ d.natAbs ∨ d = 0) := by
  constructor
  · rw [Rat.num_divInt,Int.natAbs_ediv_of_dvd]
    · rw [Int.natAbs_mul]
      refine Nat.le_trans (Nat.div_le_self _ _) ?_
      rcases Int.lt_trichotomy d 0 with h | h | h
      · simp [Int.sign_eq_neg_one_of_neg h]
      · subst h;simp
      · simp [Int.sign_eq_one_of_pos h]
    · exact Int.dvd_mul_of_dvd_right (Int.gcd_dvd_right _ _)
  · by_cases h : d = 0
    · exact .inr h
    · left;rw [Rat.den_divInt,if_neg h];exact Nat.div_le_self _ _
def rsz (q : Rat) : Nat := max (isz q.num) (nsz q.den)
theorem rsz_divInt (n d : Int) (hd : d ≠ 0) {k : Nat} (h1 : isz n ≤ k) (h2 : isz d ≤ k) : rsz (Rat.divInt n d) ≤ k := by
  have ⟨a,b⟩ := divInt_natAbs n d
  rcases b with b | b
  · exact Nat.max_le.2 ⟨Nat.le_trans (isz_mono a) h1,Nat.le_trans (nsz_mono b) h2⟩
  · exact absurd b hd
theorem rsz_num (q : Rat) : isz q.num ≤ rsz q := Nat.le_max_left _ _
theorem rsz_den (q : Rat) : isz q.den ≤ rsz q := by have : isz (q.den : Int) = nsz q.den := by simp [isz]
                                                    rw [this];exact Nat.le_max_right _ _
theorem rsz_mul (x y : Rat) : rsz (x * y) ≤ rsz x + rsz y := by
  rw [← rat_mul]
  refine rsz_divInt _ _ ?_ ?_ ?_
  · have := rat_den_pos x;have := rat_den_pos y
    exact Int.ne_of_gt (Int.mul_pos (by assumption) (by assumption))
  · have := isz_mul x.num y.num;have := rsz_num x;have := rsz_num y;omega
  · have := isz_mul x.den y.den;have := rsz_den x;have := rsz_den y;omega
theorem rsz_add (x y : Rat) : rsz (x + y) ≤ rsz x + rsz y + 1 := by
  rw [← rat_add]
  refine rsz_divInt _ _ ?_ ?_ ?_
  · have := rat_den_pos x;have := rat_den_pos y
    exact Int.ne_of_gt (Int.mul_pos (by assumption) (by assumption))
  · have h1 := isz_add (x.num * y.den) (y.num * x.den)
    have h2 := isz_mul x.num y.den
    have h3 := isz_mul y.num x.den
    have := rsz_num x;have := rsz_num y
    have := rsz_den x;have := rsz_den y
    omega
  · have := isz_mul x.den y.den;have := rsz_den x;have := rsz_den y;omega
theorem rsz_neg (x : Rat) : rsz (-x) = rsz x := by simp [rsz,isz_neg]
theorem rsz_sub (x y : Rat) : rsz (x - y) ≤ rsz x + rsz y + 1 := by
  rw [Rat.sub_eq_add_neg];have := rsz_add x (-y);rwa [rsz_neg] at this
theorem rsz_div (x y : Rat) (hy : y ≠ 0) : rsz (x / y) ≤ rsz x + rsz y := by
  rw [← rat_div]
  refine rsz_divInt _ _ ?_ ?_ ?_
  · have h1 := rat_den_pos x
    have h2 : y.num ≠ 0 := fun h => hy ((rat_num_zero y).1 h)
    exact fun h => by rcases Int.mul_eq_zero.1 h with h | h <;> omega
  · have := isz_mul x.num y.den;have := rsz_num x;have := rsz_den y;omega
  · have := isz_mul x.den y.num;have := rsz_den x;have := rsz_num y;omega
theorem rsz_int (n : Int) : rsz (n : Rat) ≤ isz n + 1 := by
  unfold rsz
  rw [int_num,int_den]
  have : nsz 1 ≤ 1 := dig_length_le (by rw [BB_eq];omega)
  omega
end Go.Proofs.YtidfgdchcpmnfaaGreat
