/-
  Lemmas for the statements about rotations, part 45 of 51.
-/
import Derived.Test.YtidfgdchcpmnfaaGreatZb11
import Derived.Test.YtidfgdchcpmnfaaGreatZb15
import Derived.Test.YtidfgdchcpmnfaaGreatZb27
import Derived.Test.YtidfgdchcpmnfaaGreatZb32
import Derived.Test.YtidfgdchcpmnfaaGreatZb39
import Derived.Test.YtidfgdchcpmnfaaGreatZb40
import Derived.Test.YtidfgdchcpmnfaaGreatZb43
import Derived.Test.YtidfgdchcpmnfaaGreatZb44
namespace Go.Proofs.YtidfgdchcpmnfaaGreat
open Go.RowKit
set_option maxRecDepth 100000
set_option maxHeartbeats 16000000
set_option linter.unusedSimpArgs false
set_option linter.unusedVariables false
theorem rprim_neg (b o c : Nat) (xs : Nat → Int) (w : World) (h : RowI w (.slice (some ⟨b,o,none⟩) 4 c) 4 xs) (hc1 : 4 ≤ c) (hc2 : c ≤ 9223372036854775807)
    (hl : ∀ j,j < 4 → isz (xs j) ≤ 400000000) (hne : ∃ j,j < 4 ∧ xs j ≠ 0) (hs : fseq xs 4 < 0) :
    Calls Tryz.prog 96 #[.slice (some ⟨b,o,none⟩) 4 c] w (GV (primV xs) w) := by
  have hmix : Tryz.prog.follows .mixedOrders = true := by kernel_rfl
  have HL := Lib.hid hl
  have HSG := Lib.hid hs
  have HGN : Hid (primG xs ≠ 0) := Lib.hid (by obtain ⟨j,hj,hx⟩ := hne;exact primG_ne hj hx)
  clear hl hs hne
  have hB_0 : Below w.heap.size w w := Below.refl _ _
  go_enter Tryz.func96,Tryz.ntmps96
  go_wp2_with fail
  (with_reducible refine (rof_any _ _ (by omega) (by omega)).mono ?_)
  rintro e w1 ⟨v1,rfl,hi1,hb1⟩
  obtain ⟨g1,p1,n1,c1,rfl⟩ := hi1.form
  obtain ⟨hA1,r1⟩ := bx1 w rfl [.int .i64 0,.int .i64 0,.int .i64 0,.int .i64 0] 33
  have q0_1 := (r1.to hb1)
  have d2 := (q0_1).1
  obtain ⟨hA2,s1⟩ := bx1 w1 rfl [.bool g1,.slice p1 n1 c1] 28
  have k1 := (Below.tr (Below.tr hB_0 hA1) hb1)
  have hQG : w.heap.size < w1.heap.size := by have a1 := hb1.size;simp only [World.size_alloc] at a1;omega
  go_wp2_with fail
  go_loopw [5,16,17,18,19,20,21,22,23,24,25] (fun i _ _ _ _ _ _ _ _ _ _ wr => ∃ (k : Nat) (gb : Bool) (gp : Option Addr) (gn gc : Nat),k ≤ 4 ∧ i = .int .i64 (k : Nat) ∧ Bx wr w.heap.size [.int .i64 0,.int .i64 0,.int .i64 0,.int .i64 0] ∧ Bx wr (w1.heap.size) [.bool gb,.slice gp gn gc] ∧ Raw wr (.agg #[.bool gb,.slice gp gn gc]) (gseq xs k) ∧ Below w.heap.size w wr) (fun i _ _ _ _ _ _ _ _ _ _ _ => 4 - (intOf i).toNat)
  case atStart => exact ⟨0,_,_,_,_,by omega,rfl,(q0_1.to hA2),s1,((hi1.below hA2)).raw,(Below.tr k1 hA2)⟩
  case round =>
    obtain ⟨k,gb,gp,gn,gc,hk4,rfl,hqr,hqg,hg,hB⟩ := hrel
    have hzB := hB.size
    have hlqr := hqr.1
    have hlqg := hqg.1
    by_cases hk : k < 4
    · obtain ⟨xb,xp,xn,xc,hlb,xc0,xc1,hx⟩ := (h.below hB).at_ hk
      have hW : Below wr.heap.size wr wr := Below.refl _ _
      have lg : isz (gseq xs k) ≤ 1000000000 := Nat.le_trans (gseq_isz k (fun j hj => HL.out j (by omega))) (by omega)
      have lx : isz (xs k) ≤ 1000000000 := Nat.le_trans (HL.out k hk) (by omega)
      have hkd : decide ((k : Int) < 4) = true := by simp;omega
      have hk0 : (0 : Int) ≤ (k : Int) := by omega
      have hk44 : (k : Int) < 4 := by omega
      go_wp2_with fail
      obtain ⟨x1,a2,z1,b2⟩ := hqg.drew.cf2
      have tk1 : True := trivial
      go_region_with
        (first
          | (((have := tk1);clear tk1;have l1 := hg.drew;have m1 := hx.drew;go_at_call 125;(with_reducible refine (rgcd_any _ _ (gseq xs k) (xs k) _ l1 m1 (by omega) (by omega)).mono ?_);rintro e w11 ⟨v11,rfl,hi11,hb11⟩;obtain ⟨g11,p11,n11,c11,rfl⟩ := hi11.form;have qg_1 := (hqg.drew.to hb11);obtain ⟨z0,d1,b1,e1⟩ := qg_1.cf2)))
      all_goals
        have qr_1 := (hqr.drew.to hb11)
        have hB_1 := (Below.tr hB.drew hb11)
        go_wp2_with fail
        go_roundw
        case rel => exact ⟨k + 1,_,_,_,_,by omega,by go_num,(qr_1.other2 (b := w1.heap.size) (by omega) (.bool g11) (.slice p11 n11 c11)),(qg_1.store2 (.bool g11) (.slice p11 n11 c11)),((hi11.sets2 qg_1 rfl rfl (.bool g11) (.slice p11 n11 c11))).raw,(Below.sets2 hB_1 (b := w1.heap.size) (by omega) (.bool g11) (.slice p11 n11 c11))⟩
        case measure => simp [intOf];omega
    · obtain rfl : k = 4 := by omega
      clear hk4 hk
      obtain ⟨wo,rfl⟩ : ∃ wo : World,wo = wr := ⟨_,rfl⟩
      go_wp2_with fail
      go_loopw [6,7,26,27,28,29,30,31,32,33,34,35,36] (fun sg i _ _ _ _ _ _ _ _ _ _ _ wr => ∃ k : Nat,k ≤ 4 ∧ i = .int .i64 (k : Nat) ∧ sg = .int .i64 (sgn (fseq xs k)) ∧ Below wo.heap.size wo wr) (fun _ i _ _ _ _ _ _ _ _ _ _ _ _ => 4 - (intOf i).toNat)
      case atStart => exact ⟨0,by omega,rfl,rfl,Below.refl _ _⟩
      case round =>
        obtain ⟨k,hk4,rfl,rfl,hBr⟩ := hrel
        by_cases hk : k < 4
        · have hkd : decide ((k : Int) < 4) = true := by simp;omega
          have hk0 : (0 : Int) ≤ (k : Int) := by omega
          have hk44 : (k : Int) < 4 := by omega
          by_cases hsg : sgn (fseq xs k) = 0
          · obtain ⟨xb,xp,xn,xc,hlb,xc0,xc1,hx⟩ := ((h.below hB).below hBr).at_ hk
            have HS : Hid (sgn (fseq xs (k + 1)) = sgn (xs k)) := Lib.hid (by rw [sgn_fseq,if_pos hsg])
            have lx : isz (xs k) ≤ 1000000000 := Nat.le_trans (HL.out k hk) (by omega)
            have hsd : (sgn (fseq xs k) == 0) = true := by simpa using hsg
            clear hsg
            go_wp2_with fail
            refine (rsign_any _ (xs k) _ hx (by omega)).mono ?_
            rintro e w2 ⟨rfl,hb2⟩
            go_wp2_with fail
            go_roundw
            case rel => first | exact ⟨k + 1,by omega,by go_num,by rw [HS.out],Below.tr hBr hb2⟩ | ((repeat apply Exists.intro);exact ⟨⟨k + 1,by omega,by go_num,by rw [HS.out],Below.tr hBr hb2⟩,rfl⟩)
            case measure => simp [intOf];omega
          · have HS : Hid (sgn (fseq xs (k + 1)) = sgn (fseq xs k)) := Lib.hid (by rw [sgn_fseq,if_neg hsg])
            have hsd : (sgn (fseq xs k) == 0) = false := by simpa using hsg
            clear hsg
            go_wp2_with fail
            go_roundw
            case rel => exact ⟨k + 1,by omega,by go_num,by rw [HS.out],hBr⟩
            case measure => simp [intOf];omega
        · obtain rfl : k = 4 := by omega
          clear hk4 hk
          have hqr2 := hqr.to hBr
          have hqg2 := hqg.to hBr
          have hg2 := hg.below hBr
          have hB2 := Below.tr hB hBr
          clear hqr hqg hg hlqr hlqg
          have hlqr := hqr2.1
          have hlqg := hqg2.1
          have lg : isz (gseq xs 4) ≤ 999999999 := Nat.le_trans (gseq_isz 4 (fun j hj => HL.out j hj)) (by omega)
          have hsd : decide (sgn (fseq xs 4) < 0) = true := by simp [sgn_neg_iff.2 HSG.out]
          have HG : Hid (primG xs = -gseq xs 4) := Lib.hid (if_pos HSG.out)
          have lp : isz (primG xs) ≤ 400000000 := primG_isz HL.out
          obtain ⟨u1,y1⟩ := hqg2.cs2
          go_wp2_with fail
          have o1 := hg2
          (with_reducible refine (rneg_any _ (gseq xs 4) _ o1 (by omega)).mono ?_)
          rintro e w16 ⟨v16,rfl,hi16,hb16⟩
          obtain ⟨g16,p16,n16,c16,rfl⟩ := hi16.form
          have qg_1 := (hqg2.to hb16)
          obtain ⟨z0,d1,b1,e1⟩ := qg_1.cf2
          have qr_1 := (hqr2.to hb16)
          have t1 := (Below.tr hB2 hb16)
          obtain ⟨Z,hZ⟩ : ∃ Z : World,Z = (((w16.setCell ⟨w1.heap.size,0,none⟩ (.bool g16)).setCell ⟨w1.heap.size,1,none⟩ (.slice p16 n16 c16))) := ⟨_,rfl⟩
          have zqr : Bx Z w.heap.size [.int .i64 0,.int .i64 0,.int .i64 0,.int .i64 0] := by rw [hZ];exact (qr_1.other2 (b := w1.heap.size) (by omega) (.bool g16) (.slice p16 n16 c16))
          have zqg : Bx Z (w1.heap.size) [.bool g16,.slice p16 n16 c16] := by rw [hZ];exact (qg_1.store2 (.bool g16) (.slice p16 n16 c16))
          have zg : Raw Z (.agg #[.bool g16,.slice p16 n16 c16]) (primG xs) := by rw [hZ,HG.out];exact ((hi16.sets2 qg_1 rfl rfl (.bool g16) (.slice p16 n16 c16))).raw
          have zB : Below w.heap.size w Z := by rw [hZ];exact (Below.sets2 t1 (b := w1.heap.size) (by omega) (.bool g16) (.slice p16 n16 c16))
          have HZ := Lib.hid hZ
          clear hZ
          go_wp2_with fail
          go_loopw [9,8,10,11,12,13,14,42,43,44,45,46,47,48,49,50,51,52,53,54,55,56,57,58,59,60,61,62,63,64,65,66,67,68,69,70,71,72,73,74,75] (fun i v _ _ _ _ _ _ _ _ _ _ _ _ _ _ _ _ _ _ _ _ _ _ _ _ _ _ _ _ _ _ _ _ _ _ _ _ _ _ _ wq => ∃ k : Nat,k ≤ 4 ∧ i = .int .i64 (k : Nat) ∧ Hid (∀ j,j < k → okc (primN xs j)) ∧ IntA Z.heap.size wq v k (primN xs) ∧ Below Z.heap.size Z wq) (fun i _ _ _ _ _ _ _ _ _ _ _ _ _ _ _ _ _ _ _ _ _ _ _ _ _ _ _ _ _ _ _ _ _ _ _ _ _ _ _ _ _ => 4 - (intOf i).toNat)
          case atStart => obtain rfl := HZ.out;exact ⟨0,by omega,rfl,Lib.hid (fun j hj => by omega),IntA.freshg _ _ _ _ (by simp) (Nat.le_refl _),(Below.refl _ _).alloc (Nat.le_refl _) _⟩
          case round =>
            clear HZ hqr2 hqg2 hg2 hB2 hlqr hlqg
            obtain ⟨k,hk4,rfl,HK,hI,hBq⟩ := hrel
            have hqr := zqr.to hBq
            have hqg := zqg.to hBq
            have hg := zg.below hBq
            have hB3 := Below.tr zB hBq
            have hlqr := hqr.1
            have hlqg := hqg.1
            have hzq := hBq.size
            by_cases hk : k < 4
            · obtain ⟨xb,xp,xn,xc,hlb,xc0,xc1,hx⟩ := (h.below hB3).at_ hk
              obtain ⟨op,oc,rfl,hoc1,hoc2⟩ := hI.form
              have hW : Below wr.heap.size wr wr := Below.refl _ _
              have lx : isz (xs k) ≤ 400000000 := HL.out k hk
              have ls := primN_isz hk HGN.out lx
              have hkd : decide ((k : Int) < 4) = true := by simp;omega
              have hk0 : (0 : Int) ≤ (k : Int) := by omega
              have hk44 : (k : Int) < 4 := by omega
              go_wp2_with fail
              have v0 := hqg
              have r0 := BC.of hW hlb xc0
              have s0 := BC.of hW hlb xc1
              have t0 := hx
              have u0 := hg
              refine region_list 15 rfl hmix wr [some 47,some 48,some 49,some 50,some 51,some 52,some 46,some 53,some 54,some 55,some 10,some 11,none,none,some 12] [.eq (.slice (some ⟨b,o,none⟩) 4 c),.eq (.int .i64 (k : Nat)),.eq (.pointer (some ⟨b,o + k * 2,none⟩)),.raw (xs k),.raw (primG xs),.div (((xs k)).fdiv ((primG xs))) (((xs k)).fmod ((primG xs))),.div (((xs k)).fdiv ((primG xs))) (((xs k)).fmod ((primG xs))),.rint (((xs k)).fdiv ((primG xs))),.rint (((xs k)).fmod ((primG xs))),.eq (.int .i64 0),.box2,.box2,.boxI (((xs k)).fdiv ((primG xs))),.boxI (((xs k)).fmod ((primG xs))),.eq (.int .i64 0)] [0,1,2,3,4,5,6,7,8,9,10,11,10,11,14] (fun A => A.tmps[0]?.getD undef = .slice (some ⟨b,o,none⟩) 4 c ∧ A.tmps[9]?.getD undef = .int .i64 (k : Nat) ∧ A.tmps[4]?.getD undef = .pointer (some ⟨w1.heap.size,0,none⟩)) (by kernel_rfl) rfl ⟨rfl,rfl⟩ rfl rfl (Below.refl _ _).drew (fun A hA => ⟨(hA 0 (by decide)).trans rfl,(hA 9 (by decide)).trans rfl,(hA 4 (by decide)).trans rfl⟩) ?hend ?hstep
              case hend =>
                intro t wx21 hb21 hf
                obtain ⟨i2,m2,r2,o2,k2,w0,i1,o0,n0⟩ := hf 12 rfl rfl
                obtain ⟨j2,n2,s2,p2,l2,x0,j1,g2,e2⟩ := hf 13 rfl rfl
                have y0 : t 14 = _ := hf 14 rfl rfl
                clear hf
                simp only [putAll,List.getD_cons_zero,List.getD_cons_succ,w0,x0,y0]
                clear w0 x0 y0
                have hz21 := hb21.size
                (try simp only [World.size_alloc,World.size_setCell,World.size_drew] at hz21 i1 j1)
                clear u0 t0 s0 r0 v0
                by_cases hok : okc (primN xs k)
                · have hsb : smallB ((xs k).fdiv (primG xs)) = true := (okc_small hok).1
                  have h1 : decide (smallV ((xs k).fdiv (primG xs)) < -1048576) = false := by have h9 := hok.1;have h8 := (okc_small hok).2;unfold primN at h8 h9;rw [h8];simp;omega
                  have h2 : decide (1048576 < smallV ((xs k).fdiv (primG xs))) = false := by have h9 := hok.2;have h8 := (okc_small hok).2;unfold primN at h8 h9;rw [h8];simp;omega
                  have HV := Lib.hid (okc_small hok).2
                  have HOK := Lib.hid hok
                  clear hok
                  obtain ⟨a0,b0⟩ := o0.cs2
                  go_wp2_with fail
                  have m0 := n0.raw
                  (with_reducible refine (rsmall_any _ (((xs k)).fdiv ((primG xs))) _ m0 (by omega)).mono ?_)
                  rintro e w22 ⟨rfl,hb22⟩
                  have hW_2 := (Below.tr (Below.tr hW hb21) hb22)
                  have HW9 := Lib.hid (hW_2)
                  have hz9 := HW9.out.size
                  go_wp2_with (at_builtin;refine wpList_app_int rfl _ _ rfl Z.heap.size k (primN xs) (.slice op k oc) _ _ _ rfl (hI.below HW9.out) HV.out _ rfl (by simp) (by omega) (Nat.le_trans hzq HW9.out.size) ?_)
                  intro g4 cap4 w4 hI4 hb4
                  have hB4 : Below Z.heap.size Z w4 := (hBq.trans (HW9.out.mono hzq)).trans hb4
                  go_wp2_with fail
                  go_roundw
                  case rel => first | exact ⟨k + 1,by omega,by go_num,Lib.hid (okn_step HK.out HOK.out),hI4,hB4⟩ | ((repeat apply Exists.intro);exact ⟨⟨k + 1,by omega,by go_num,Lib.hid (okn_step HK.out HOK.out),hI4,hB4⟩,rfl⟩)
                  case measure => simp [intOf];omega
                · have HP : Hid (primV xs = .tuple #[quatV 0 0 0 0,.int .i64 3]) := Lib.hid (primV_no hk hok)
                  have hthree : smallB ((xs k).fdiv (primG xs)) = false ∨ (smallB ((xs k).fdiv (primG xs)) = true ∧ (1048576 < smallV ((xs k).fdiv (primG xs)) ∨ (¬ 1048576 < smallV ((xs k).fdiv (primG xs)) ∧ smallV ((xs k).fdiv (primG xs)) < -1048576))) := by
                    cases hsb : smallB ((xs k).fdiv (primG xs))
                    · exact .inl rfl
                    · right;have := small_yes hsb;rw [this];refine ⟨rfl,?_⟩;unfold okc primN at hok;omega
                  clear hok
                  rcases hthree with hsb | ⟨hsb,h1 | ⟨h1,h2⟩⟩
                  · skip
                    obtain ⟨a0,b0⟩ := o0.cs2
                    go_wp2_with fail
                    have m0 := n0.raw
                    (with_reducible refine (rsmall_any _ (((xs k)).fdiv ((primG xs))) _ m0 (by omega)).mono ?_)
                    rintro e w22 ⟨rfl,hb22⟩
                    have qr_2 := ((hqr.to hb21).to hb22)
                    obtain ⟨d0,i0,e0,j0,g0,k0,h0,l0⟩ := qr_2.cf4
                    have p0 := (Below.tr (Below.tr hB3 hb21) hb22)
                    go_wp2_with fail
                    exact bodyPost_ret (v := .tuple #[.agg #[.int .i64 0,.int .i64 0,.int .i64 0,.int .i64 0],.int .i64 3]) (by simp [results,Tryz.results96,go_sem,d0,i0,e0,j0,g0,k0,h0,l0]) rfl ⟨by rw [HP.out];rfl,(Below.sets4 p0 (b := w.heap.size) (by omega) (.int .i64 0) (.int .i64 0) (.int .i64 0) (.int .i64 0))⟩
                  · skip
                    have h1d : decide (1048576 < smallV ((xs k).fdiv (primG xs))) = true := by simpa using h1
                    clear h1
                    obtain ⟨a0,b0⟩ := o0.cs2
                    go_wp2_with fail
                    have m0 := n0.raw
                    (with_reducible refine (rsmall_any _ (((xs k)).fdiv ((primG xs))) _ m0 (by omega)).mono ?_)
                    rintro e w22 ⟨rfl,hb22⟩
                    have qr_2 := ((hqr.to hb21).to hb22)
                    obtain ⟨d0,i0,e0,j0,g0,k0,h0,l0⟩ := qr_2.cf4
                    have p0 := (Below.tr (Below.tr hB3 hb21) hb22)
                    go_wp2_with fail
                    exact bodyPost_ret (v := .tuple #[.agg #[.int .i64 0,.int .i64 0,.int .i64 0,.int .i64 0],.int .i64 3]) (by simp [results,Tryz.results96,go_sem,d0,i0,e0,j0,g0,k0,h0,l0]) rfl ⟨by rw [HP.out];rfl,(Below.sets4 p0 (b := w.heap.size) (by omega) (.int .i64 0) (.int .i64 0) (.int .i64 0) (.int .i64 0))⟩
                  · skip
                    have h1d : decide (1048576 < smallV ((xs k).fdiv (primG xs))) = false := by simpa using h1
                    have h2d : decide (smallV ((xs k).fdiv (primG xs)) < -1048576) = true := by simpa using h2
                    clear h1 h2
                    obtain ⟨a0,b0⟩ := o0.cs2
                    go_wp2_with fail
                    have m0 := n0.raw
                    (with_reducible refine (rsmall_any _ (((xs k)).fdiv ((primG xs))) _ m0 (by omega)).mono ?_)
                    rintro e w22 ⟨rfl,hb22⟩
                    have qr_2 := ((hqr.to hb21).to hb22)
                    obtain ⟨d0,i0,e0,j0,g0,k0,h0,l0⟩ := qr_2.cf4
                    have p0 := (Below.tr (Below.tr hB3 hb21) hb22)
                    go_wp2_with fail
                    exact bodyPost_ret (v := .tuple #[.agg #[.int .i64 0,.int .i64 0,.int .i64 0,.int .i64 0],.int .i64 3]) (by simp [results,Tryz.results96,go_sem,d0,i0,e0,j0,g0,k0,h0,l0]) rfl ⟨by rw [HP.out];rfl,(Below.sets4 p0 (b := w.heap.size) (by omega) (.int .i64 0) (.int .i64 0) (.int .i64 0) (.int .i64 0))⟩
              case hstep =>
                intro t w9 L i o A hEA hin hBf hf hi ho hdep
                obtain ⟨eo0,eo9,eo4⟩ := hEA
                obtain rfl | rfl | rfl | rfl | rfl | rfl | rfl | rfl | rfl | rfl | rfl | rfl | rfl | rfl | rfl : i = 0 ∨ i = 1 ∨ i = 2 ∨ i = 3 ∨ i = 4 ∨ i = 5 ∨ i = 6 ∨ i = 7 ∨ i = 8 ∨ i = 9 ∨ i = 10 ∨ i = 11 ∨ i = 12 ∨ i = 13 ∨ i = 14 := by omega
                all_goals cases ho
                all_goals simp [Region.binds] at hdep
                · exact .val _ (by simp [execOp,eo0,go_sem]) rfl
                · exact .val _ (by simp [execOp,eo9,go_sem]) rfl
                · have q0 : t 0 = _ := hf 0 rfl rfl (by simp [hdep])
                  have q1 : t 1 = _ := hf 1 rfl rfl (by simp [hdep])
                  exact .val _ (by simp [execOp,hin 0 rfl,q0,hin 1 rfl,q1,hk0,hk44,hkd,go_sem]) rfl
                · have hc0 := r0.at hBf
                  have hc1 := s0.at hBf
                  have q2 : t 2 = _ := hf 2 rfl rfl (by simp [hdep])
                  exact .val _ (by simp [execOp,hin 2 rfl,q2,hc0,hc1,go_sem]) (t0.below hBf)
                · obtain ⟨hc0,hc1⟩ := (v0.to hBf).cs2
                  exact .val _ (by simp [execOp,eo4,hc0,hc1,go_sem]) (u0.below hBf)
                · have kf3 := hf 3 rfl rfl (by simp [hdep])
                  have kf4 := hf 4 rfl rfl (by simp [hdep])
                  exact .call _ _ (by simp [execOp,hin 3 rfl,hin 4 rfl,go_sem]) (callsDiv (rdivide_any _ _ _ _ _ kf3 kf4 (by omega) (by omega) HGN.out))
                · exact .val _ (by simp [execOp,hin 5 rfl,go_sem]) (hf 5 rfl rfl (by simp [hdep]))
                · obtain ⟨uf,uuf,huf,h1f,h2f⟩ := hf 6 rfl rfl (by simp [hdep])
                  exact .val _ (by simp [execOp,hin 6 rfl,huf,go_sem]) h1f
                · obtain ⟨uf,uuf,huf,h1f,h2f⟩ := hf 6 rfl rfl (by simp [hdep])
                  exact .val _ (by simp [execOp,hin 6 rfl,huf,go_sem]) h2f
                · obtain ⟨uf,uuf,huf,h1f,h2f⟩ := hf 6 rfl rfl (by simp [hdep])
                  exact .val _ (by simp [execOp,hin 6 rfl,huf,go_sem]) rfl
                · exact .alloc2 (.bool false) (.slice none 0 0) 28 (by simp [execOp,go_sem])
                · exact .alloc2 (.bool false) (.slice none 0 0) 28 (by simp [execOp,go_sem])
                · exact stI 10 (hin 10 rfl) (hin 7 rfl) (hf 7 rfl rfl (by simp [hdep])) (by simp [hdep])
                · exact stI 11 (hin 11 rfl) (hin 8 rfl) (hf 8 rfl rfl (by simp [hdep])) (by simp [hdep])
                · have q9 : t 9 = _ := hf 9 rfl rfl (by simp [hdep])
                  exact .val _ (by simp [execOp,hin 9 rfl,q9,go_sem]) rfl
            · obtain rfl : k = 4 := by omega
              have HP : Hid (primV xs = .tuple #[quatV (primN xs 0) (primN xs 1) (primN xs 2) (primN xs 3),.int .i64 0]) := Lib.hid (primV_ok (fun j hj => HK.out j hj))
              obtain ⟨og,oc,rfl,ho1,ho2,ho3,ho4,hcs⟩ := hI.cells (by omega)
              have oc0 := hcs 0 (by omega)
              have oc1 := hcs 1 (by omega)
              have oc2 := hcs 2 (by omega)
              have oc3 := hcs 3 (by omega)
              clear hcs
              have rc0 := hqr.c0
              have rf0 := hqr.f0
              have rc1 := hqr.c1
              have rf1 := hqr.f1
              have rc2 := hqr.c2
              have rf2 := hqr.f2
              have rc3 := hqr.c3
              have rf3 := hqr.f3
              go_wp2_with fail
              go_region
              all_goals
                go_wp2_with fail
                exact bodyPost_ret (v := .tuple #[.agg #[.int .i64 (primN xs 0),.int .i64 (primN xs 1),.int .i64 (primN xs 2),.int .i64 (primN xs 3)],.int .i64 0]) (by simp [results,Tryz.results96,go_sem,rc0,rc1,rc2,rc3,rf0,rf1,rf2,rf3]) rfl ⟨by rw [HP.out];rfl,(Below.sets4 hB3 (b := w.heap.size) (by omega) _ _ _ _).drew⟩
theorem rprim_pos (b o c : Nat) (xs : Nat → Int) (w : World) (h : RowI w (.slice (some ⟨b,o,none⟩) 4 c) 4 xs) (hc1 : 4 ≤ c) (hc2 : c ≤ 9223372036854775807)
    (hl : ∀ j,j < 4 → isz (xs j) ≤ 400000000) (hne : ∃ j,j < 4 ∧ xs j ≠ 0) (hs : ¬ fseq xs 4 < 0) :
    Calls Tryz.prog 96 #[.slice (some ⟨b,o,none⟩) 4 c] w (GV (primV xs) w) := by
  have hmix : Tryz.prog.follows .mixedOrders = true := by kernel_rfl
  have HL := Lib.hid hl
  have HSG := Lib.hid hs
  have HGN : Hid (primG xs ≠ 0) := Lib.hid (by obtain ⟨j,hj,hx⟩ := hne;exact primG_ne hj hx)
  clear hl hs hne
  have hB_0 : Below w.heap.size w w := Below.refl _ _
  go_enter Tryz.func96,Tryz.ntmps96
  go_wp2_with fail
  (with_reducible refine (rof_any _ _ (by omega) (by omega)).mono ?_)
  rintro e w1 ⟨v1,rfl,hi1,hb1⟩
  obtain ⟨g1,p1,n1,c1,rfl⟩ := hi1.form
  obtain ⟨hA1,j1⟩ := bx1 w rfl [.int .i64 0,.int .i64 0,.int .i64 0,.int .i64 0] 33
  have q0_1 := (j1.to hb1)
  have y1 := (q0_1).1
  obtain ⟨hA2,k1⟩ := bx1 w1 rfl [.bool g1,.slice p1 n1 c1] 28
  have d1 := (Below.tr (Below.tr hB_0 hA1) hb1)
  have hQG : w.heap.size < w1.heap.size := by have a1 := hb1.size;simp only [World.size_alloc] at a1;omega
  go_wp2_with fail
  go_loopw [5,16,17,18,19,20,21,22,23,24,25] (fun i _ _ _ _ _ _ _ _ _ _ wr => ∃ (k : Nat) (gb : Bool) (gp : Option Addr) (gn gc : Nat),k ≤ 4 ∧ i = .int .i64 (k : Nat) ∧ Bx wr w.heap.size [.int .i64 0,.int .i64 0,.int .i64 0,.int .i64 0] ∧ Bx wr (w1.heap.size) [.bool gb,.slice gp gn gc] ∧ Raw wr (.agg #[.bool gb,.slice gp gn gc]) (gseq xs k) ∧ Below w.heap.size w wr) (fun i _ _ _ _ _ _ _ _ _ _ _ => 4 - (intOf i).toNat)
  case atStart => exact ⟨0,_,_,_,_,by omega,rfl,(q0_1.to hA2),k1,((hi1.below hA2)).raw,(Below.tr d1 hA2)⟩
  case round =>
    obtain ⟨k,gb,gp,gn,gc,hk4,rfl,hqr,hqg,hg,hB⟩ := hrel
    have hzB := hB.size
    have hlqr := hqr.1
    have hlqg := hqg.1
    by_cases hk : k < 4
    · obtain ⟨xb,xp,xn,xc,hlb,xc0,xc1,hx⟩ := (h.below hB).at_ hk
      have hW : Below wr.heap.size wr wr := Below.refl _ _
      have lg : isz (gseq xs k) ≤ 1000000000 := Nat.le_trans (gseq_isz k (fun j hj => HL.out j (by omega))) (by omega)
      have lx : isz (xs k) ≤ 1000000000 := Nat.le_trans (HL.out k hk) (by omega)
      have hkd : decide ((k : Int) < 4) = true := by simp;omega
      have hk0 : (0 : Int) ≤ (k : Int) := by omega
      have hk44 : (k : Int) < 4 := by omega
      go_wp2_with fail
      obtain ⟨l1,s1,o1,u1⟩ := hqg.drew.cf2
      have tk1 : True := trivial
      go_region_with
        (first
          | (((have := tk1);clear tk1;have e1 := hg.drew;have i1 := hx.drew;go_at_call 125;(with_reducible refine (rgcd_any _ _ (gseq xs k) (xs k) _ e1 i1 (by omega) (by omega)).mono ?_);rintro e w11 ⟨v11,rfl,hi11,hb11⟩;obtain ⟨g11,p11,n11,c11,rfl⟩ := hi11.form;have qg_1 := (hqg.drew.to hb11);obtain ⟨m1,t1,r1,x1⟩ := qg_1.cf2)))
      all_goals
        have qr_1 := (hqr.drew.to hb11)
        have hB_1 := (Below.tr hB.drew hb11)
        go_wp2_with fail
        go_roundw
        case rel => exact ⟨k + 1,_,_,_,_,by omega,by go_num,(qr_1.other2 (b := w1.heap.size) (by omega) (.bool g11) (.slice p11 n11 c11)),(qg_1.store2 (.bool g11) (.slice p11 n11 c11)),((hi11.sets2 qg_1 rfl rfl (.bool g11) (.slice p11 n11 c11))).raw,(Below.sets2 hB_1 (b := w1.heap.size) (by omega) (.bool g11) (.slice p11 n11 c11))⟩
        case measure => simp [intOf];omega
    · obtain rfl : k = 4 := by omega
      clear hk4 hk
      obtain ⟨wo,rfl⟩ : ∃ wo : World,wo = wr := ⟨_,rfl⟩
      go_wp2_with fail
      go_loopw [6,7,26,27,28,29,30,31,32,33,34,35,36] (fun sg i _ _ _ _ _ _ _ _ _ _ _ wr => ∃ k : Nat,k ≤ 4 ∧ i = .int .i64 (k : Nat) ∧ sg = .int .i64 (sgn (fseq xs k)) ∧ Below wo.heap.size wo wr) (fun _ i _ _ _ _ _ _ _ _ _ _ _ _ => 4 - (intOf i).toNat)
      case atStart => exact ⟨0,by omega,rfl,rfl,Below.refl _ _⟩
      case round =>
        obtain ⟨k,hk4,rfl,rfl,hBr⟩ := hrel
        by_cases hk : k < 4
        · have hkd : decide ((k : Int) < 4) = true := by simp;omega
          have hk0 : (0 : Int) ≤ (k : Int) := by omega
          have hk44 : (k : Int) < 4 := by omega
          by_cases hsg : sgn (fseq xs k) = 0
          · obtain ⟨xb,xp,xn,xc,hlb,xc0,xc1,hx⟩ := ((h.below hB).below hBr).at_ hk
            have HS : Hid (sgn (fseq xs (k + 1)) = sgn (xs k)) := Lib.hid (by rw [sgn_fseq,if_pos hsg])
            have lx : isz (xs k) ≤ 1000000000 := Nat.le_trans (HL.out k hk) (by omega)
            have hsd : (sgn (fseq xs k) == 0) = true := by simpa using hsg
            clear hsg
            go_wp2_with fail
            refine (rsign_any _ (xs k) _ hx (by omega)).mono ?_
            rintro e w2 ⟨rfl,hb2⟩
            go_wp2_with fail
            go_roundw
            case rel => first | exact ⟨k + 1,by omega,by go_num,by rw [HS.out],Below.tr hBr hb2⟩ | ((repeat apply Exists.intro);exact ⟨⟨k + 1,by omega,by go_num,by rw [HS.out],Below.tr hBr hb2⟩,rfl⟩)
            case measure => simp [intOf];omega
          · have HS : Hid (sgn (fseq xs (k + 1)) = sgn (fseq xs k)) := Lib.hid (by rw [sgn_fseq,if_neg hsg])
            have hsd : (sgn (fseq xs k) == 0) = false := by simpa using hsg
            clear hsg
            go_wp2_with fail
            go_roundw
            case rel => exact ⟨k + 1,by omega,by go_num,by rw [HS.out],hBr⟩
            case measure => simp [intOf];omega
        · obtain rfl : k = 4 := by omega
          clear hk4 hk
          have hqr2 := hqr.to hBr
          have hqg2 := hqg.to hBr
          have hg2 := hg.below hBr
          have hB2 := Below.tr hB hBr
          clear hqr hqg hg hlqr hlqg
          have hlqr := hqr2.1
          have hlqg := hqg2.1
          have lg : isz (gseq xs 4) ≤ 999999999 := Nat.le_trans (gseq_isz 4 (fun j hj => HL.out j hj)) (by omega)
          have hsd : decide (sgn (fseq xs 4) < 0) = false := decide_eq_false (fun h => absurd (sgn_neg_iff.1 h) (by have := HSG.out;omega))
          have HG : Hid (primG xs = gseq xs 4) := Lib.hid (if_neg (by have := HSG.out;omega))
          have lp : isz (primG xs) ≤ 400000000 := primG_isz HL.out
          obtain ⟨Z,hZ⟩ : ∃ Z : World,Z = (wr) := ⟨_,rfl⟩
          have zqr : Bx Z w.heap.size [.int .i64 0,.int .i64 0,.int .i64 0,.int .i64 0] := by rw [hZ];exact hqr2
          have zqg : Bx Z (w1.heap.size) [.bool gb,.slice gp gn gc] := by rw [hZ];exact hqg2
          have zg : Raw Z (.agg #[.bool gb,.slice gp gn gc]) (primG xs) := by rw [hZ,HG.out];exact hg2
          have zB : Below w.heap.size w Z := by rw [hZ];exact hB2
          have HZ := Lib.hid hZ
          clear hZ
          go_wp2_with fail
          go_loopw [9,8,10,11,12,13,14,42,43,44,45,46,47,48,49,50,51,52,53,54,55,56,57,58,59,60,61,62,63,64,65,66,67,68,69,70,71,72,73,74,75] (fun i v _ _ _ _ _ _ _ _ _ _ _ _ _ _ _ _ _ _ _ _ _ _ _ _ _ _ _ _ _ _ _ _ _ _ _ _ _ _ _ wq => ∃ k : Nat,k ≤ 4 ∧ i = .int .i64 (k : Nat) ∧ Hid (∀ j,j < k → okc (primN xs j)) ∧ IntA Z.heap.size wq v k (primN xs) ∧ Below Z.heap.size Z wq) (fun i _ _ _ _ _ _ _ _ _ _ _ _ _ _ _ _ _ _ _ _ _ _ _ _ _ _ _ _ _ _ _ _ _ _ _ _ _ _ _ _ _ => 4 - (intOf i).toNat)
          case atStart => obtain rfl := HZ.out;exact ⟨0,by omega,rfl,Lib.hid (fun j hj => by omega),IntA.freshg _ _ _ _ (by simp) (Nat.le_refl _),(Below.refl _ _).alloc (Nat.le_refl _) _⟩
          case round =>
            clear HZ hqr2 hqg2 hg2 hB2 hlqr hlqg
            obtain ⟨k,hk4,rfl,HK,hI,hBq⟩ := hrel
            have hqr := zqr.to hBq
            have hqg := zqg.to hBq
            have hg := zg.below hBq
            have hB3 := Below.tr zB hBq
            have hlqr := hqr.1
            have hlqg := hqg.1
            have hzq := hBq.size
            by_cases hk : k < 4
            · obtain ⟨xb,xp,xn,xc,hlb,xc0,xc1,hx⟩ := (h.below hB3).at_ hk
              obtain ⟨op,oc,rfl,hoc1,hoc2⟩ := hI.form
              have hW : Below wr.heap.size wr wr := Below.refl _ _
              have lx : isz (xs k) ≤ 400000000 := HL.out k hk
              have ls := primN_isz hk HGN.out lx
              have hkd : decide ((k : Int) < 4) = true := by simp;omega
              have hk0 : (0 : Int) ≤ (k : Int) := by omega
              have hk44 : (k : Int) < 4 := by omega
              go_wp2_with fail
              have v0 := hqg
              have r0 := BC.of hW hlb xc0
              have s0 := BC.of hW hlb xc1
              have t0 := hx
              have u0 := hg
              refine region_list 15 rfl hmix wr [some 47,some 48,some 49,some 50,some 51,some 52,some 46,some 53,some 54,some 55,some 10,some 11,none,none,some 12] [.eq (.slice (some ⟨b,o,none⟩) 4 c),.eq (.int .i64 (k : Nat)),.eq (.pointer (some ⟨b,o + k * 2,none⟩)),.raw (xs k),.raw (primG xs),.div (((xs k)).fdiv ((primG xs))) (((xs k)).fmod ((primG xs))),.div (((xs k)).fdiv ((primG xs))) (((xs k)).fmod ((primG xs))),.rint (((xs k)).fdiv ((primG xs))),.rint (((xs k)).fmod ((primG xs))),.eq (.int .i64 0),.box2,.box2,.boxI (((xs k)).fdiv ((primG xs))),.boxI (((xs k)).fmod ((primG xs))),.eq (.int .i64 0)] [0,1,2,3,4,5,6,7,8,9,10,11,10,11,14] (fun A => A.tmps[0]?.getD undef = .slice (some ⟨b,o,none⟩) 4 c ∧ A.tmps[9]?.getD undef = .int .i64 (k : Nat) ∧ A.tmps[4]?.getD undef = .pointer (some ⟨w1.heap.size,0,none⟩)) (by kernel_rfl) rfl ⟨rfl,rfl⟩ rfl rfl (Below.refl _ _).drew (fun A hA => ⟨(hA 0 (by decide)).trans rfl,(hA 9 (by decide)).trans rfl,(hA 4 (by decide)).trans rfl⟩) ?hend ?hstep
              case hend =>
                intro t wx21 hb21 hf
                obtain ⟨b2,i2,m2,k2,e2,w0,z0,o0,n0⟩ := hf 12 rfl rfl
                obtain ⟨d2,j2,n2,l2,g2,x0,b1,a2,z1⟩ := hf 13 rfl rfl
                have y0 : t 14 = _ := hf 14 rfl rfl
                clear hf
                simp only [putAll,List.getD_cons_zero,List.getD_cons_succ,w0,x0,y0]
                clear w0 x0 y0
                have hz21 := hb21.size
                (try simp only [World.size_alloc,World.size_setCell,World.size_drew] at hz21 z0 b1)
                clear u0 t0 s0 r0 v0
                by_cases hok : okc (primN xs k)
                · have hsb : smallB ((xs k).fdiv (primG xs)) = true := (okc_small hok).1
                  have h1 : decide (smallV ((xs k).fdiv (primG xs)) < -1048576) = false := by have h9 := hok.1;have h8 := (okc_small hok).2;unfold primN at h8 h9;rw [h8];simp;omega
                  have h2 : decide (1048576 < smallV ((xs k).fdiv (primG xs))) = false := by have h9 := hok.2;have h8 := (okc_small hok).2;unfold primN at h8 h9;rw [h8];simp;omega
                  have HV := Lib.hid (okc_small hok).2
                  have HOK := Lib.hid hok
                  clear hok
                  obtain ⟨a0,b0⟩ := o0.cs2
                  go_wp2_with fail
                  have m0 := n0.raw
                  (with_reducible refine (rsmall_any _ (((xs k)).fdiv ((primG xs))) _ m0 (by omega)).mono ?_)
                  rintro e w22 ⟨rfl,hb22⟩
                  have hW_2 := (Below.tr (Below.tr hW hb21) hb22)
                  have HW9 := Lib.hid (hW_2)
                  have hz9 := HW9.out.size
                  go_wp2_with (at_builtin;refine wpList_app_int rfl _ _ rfl Z.heap.size k (primN xs) (.slice op k oc) _ _ _ rfl (hI.below HW9.out) HV.out _ rfl (by simp) (by omega) (Nat.le_trans hzq HW9.out.size) ?_)
                  intro g4 cap4 w4 hI4 hb4
                  have hB4 : Below Z.heap.size Z w4 := (hBq.trans (HW9.out.mono hzq)).trans hb4
                  go_wp2_with fail
                  go_roundw
                  case rel => first | exact ⟨k + 1,by omega,by go_num,Lib.hid (okn_step HK.out HOK.out),hI4,hB4⟩ | ((repeat apply Exists.intro);exact ⟨⟨k + 1,by omega,by go_num,Lib.hid (okn_step HK.out HOK.out),hI4,hB4⟩,rfl⟩)
                  case measure => simp [intOf];omega
                · have HP : Hid (primV xs = .tuple #[quatV 0 0 0 0,.int .i64 3]) := Lib.hid (primV_no hk hok)
                  have hthree : smallB ((xs k).fdiv (primG xs)) = false ∨ (smallB ((xs k).fdiv (primG xs)) = true ∧ (1048576 < smallV ((xs k).fdiv (primG xs)) ∨ (¬ 1048576 < smallV ((xs k).fdiv (primG xs)) ∧ smallV ((xs k).fdiv (primG xs)) < -1048576))) := by
                    cases hsb : smallB ((xs k).fdiv (primG xs))
                    · exact .inl rfl
                    · right;have := small_yes hsb;rw [this];refine ⟨rfl,?_⟩;unfold okc primN at hok;omega
                  clear hok
                  rcases hthree with hsb | ⟨hsb,h1 | ⟨h1,h2⟩⟩
                  · skip
                    obtain ⟨a0,b0⟩ := o0.cs2
                    go_wp2_with fail
                    have m0 := n0.raw
                    (with_reducible refine (rsmall_any _ (((xs k)).fdiv ((primG xs))) _ m0 (by omega)).mono ?_)
                    rintro e w22 ⟨rfl,hb22⟩
                    have qr_2 := ((hqr.to hb21).to hb22)
                    obtain ⟨d0,i0,e0,j0,g0,k0,h0,l0⟩ := qr_2.cf4
                    have p0 := (Below.tr (Below.tr hB3 hb21) hb22)
                    go_wp2_with fail
                    exact bodyPost_ret (v := .tuple #[.agg #[.int .i64 0,.int .i64 0,.int .i64 0,.int .i64 0],.int .i64 3]) (by simp [results,Tryz.results96,go_sem,d0,i0,e0,j0,g0,k0,h0,l0]) rfl ⟨by rw [HP.out];rfl,(Below.sets4 p0 (b := w.heap.size) (by omega) (.int .i64 0) (.int .i64 0) (.int .i64 0) (.int .i64 0))⟩
                  · skip
                    have h1d : decide (1048576 < smallV ((xs k).fdiv (primG xs))) = true := by simpa using h1
                    clear h1
                    obtain ⟨a0,b0⟩ := o0.cs2
                    go_wp2_with fail
                    have m0 := n0.raw
                    (with_reducible refine (rsmall_any _ (((xs k)).fdiv ((primG xs))) _ m0 (by omega)).mono ?_)
                    rintro e w22 ⟨rfl,hb22⟩
                    have qr_2 := ((hqr.to hb21).to hb22)
                    obtain ⟨d0,i0,e0,j0,g0,k0,h0,l0⟩ := qr_2.cf4
                    have p0 := (Below.tr (Below.tr hB3 hb21) hb22)
                    go_wp2_with fail
                    exact bodyPost_ret (v := .tuple #[.agg #[.int .i64 0,.int .i64 0,.int .i64 0,.int .i64 0],.int .i64 3]) (by simp [results,Tryz.results96,go_sem,d0,i0,e0,j0,g0,k0,h0,l0]) rfl ⟨by rw [HP.out];rfl,(Below.sets4 p0 (b := w.heap.size) (by omega) (.int .i64 0) (.int .i64 0) (.int .i64 0) (.int .i64 0))⟩
                  · skip
                    have h1d : decide (1048576 < smallV ((xs k).fdiv (primG xs))) = false := by simpa using h1
                    have h2d : decide (smallV ((xs k).fdiv (primG xs)) < -1048576) = true := by simpa using h2
                    clear h1 h2
                    obtain ⟨a0,b0⟩ := o0.cs2
                    go_wp2_with fail
                    have m0 := n0.raw
                    (with_reducible refine (rsmall_any _ (((xs k)).fdiv ((primG xs))) _ m0 (by omega)).mono ?_)
                    rintro e w22 ⟨rfl,hb22⟩
                    have qr_2 := ((hqr.to hb21).to hb22)
                    obtain ⟨d0,i0,e0,j0,g0,k0,h0,l0⟩ := qr_2.cf4
                    have p0 := (Below.tr (Below.tr hB3 hb21) hb22)
                    go_wp2_with fail
                    exact bodyPost_ret (v := .tuple #[.agg #[.int .i64 0,.int .i64 0,.int .i64 0,.int .i64 0],.int .i64 3]) (by simp [results,Tryz.results96,go_sem,d0,i0,e0,j0,g0,k0,h0,l0]) rfl ⟨by rw [HP.out];rfl,(Below.sets4 p0 (b := w.heap.size) (by omega) (.int .i64 0) (.int .i64 0) (.int .i64 0) (.int .i64 0))⟩
              case hstep =>
                intro t w9 L i o A hEA hin hBf hf hi ho hdep
                obtain ⟨eo0,eo9,eo4⟩ := hEA
                obtain rfl | rfl | rfl | rfl | rfl | rfl | rfl | rfl | rfl | rfl | rfl | rfl | rfl | rfl | rfl : i = 0 ∨ i = 1 ∨ i = 2 ∨ i = 3 ∨ i = 4 ∨ i = 5 ∨ i = 6 ∨ i = 7 ∨ i = 8 ∨ i = 9 ∨ i = 10 ∨ i = 11 ∨ i = 12 ∨ i = 13 ∨ i = 14 := by omega
                all_goals cases ho
                all_goals simp [Region.binds] at hdep
                · exact .val _ (by simp [execOp,eo0,go_sem]) rfl
                · exact .val _ (by simp [execOp,eo9,go_sem]) rfl
                · have q0 : t 0 = _ := hf 0 rfl rfl (by simp [hdep])
                  have q1 : t 1 = _ := hf 1 rfl rfl (by simp [hdep])
                  exact .val _ (by simp [execOp,hin 0 rfl,q0,hin 1 rfl,q1,hk0,hk44,hkd,go_sem]) rfl
                · have hc0 := r0.at hBf
                  have hc1 := s0.at hBf
                  have q2 : t 2 = _ := hf 2 rfl rfl (by simp [hdep])
                  exact .val _ (by simp [execOp,hin 2 rfl,q2,hc0,hc1,go_sem]) (t0.below hBf)
                · obtain ⟨hc0,hc1⟩ := (v0.to hBf).cs2
                  exact .val _ (by simp [execOp,eo4,hc0,hc1,go_sem]) (u0.below hBf)
                · have kf3 := hf 3 rfl rfl (by simp [hdep])
                  have kf4 := hf 4 rfl rfl (by simp [hdep])
                  exact .call _ _ (by simp [execOp,hin 3 rfl,hin 4 rfl,go_sem]) (callsDiv (rdivide_any _ _ _ _ _ kf3 kf4 (by omega) (by omega) HGN.out))
                · exact .val _ (by simp [execOp,hin 5 rfl,go_sem]) (hf 5 rfl rfl (by simp [hdep]))
                · obtain ⟨uf,uuf,huf,h1f,h2f⟩ := hf 6 rfl rfl (by simp [hdep])
                  exact .val _ (by simp [execOp,hin 6 rfl,huf,go_sem]) h1f
                · obtain ⟨uf,uuf,huf,h1f,h2f⟩ := hf 6 rfl rfl (by simp [hdep])
                  exact .val _ (by simp [execOp,hin 6 rfl,huf,go_sem]) h2f
                · obtain ⟨uf,uuf,huf,h1f,h2f⟩ := hf 6 rfl rfl (by simp [hdep])
                  exact .val _ (by simp [execOp,hin 6 rfl,huf,go_sem]) rfl
                · exact .alloc2 (.bool false) (.slice none 0 0) 28 (by simp [execOp,go_sem])
                · exact .alloc2 (.bool false) (.slice none 0 0) 28 (by simp [execOp,go_sem])
                · exact stI 10 (hin 10 rfl) (hin 7 rfl) (hf 7 rfl rfl (by simp [hdep])) (by simp [hdep])
                · exact stI 11 (hin 11 rfl) (hin 8 rfl) (hf 8 rfl rfl (by simp [hdep])) (by simp [hdep])
                · have q9 : t 9 = _ := hf 9 rfl rfl (by simp [hdep])
                  exact .val _ (by simp [execOp,hin 9 rfl,q9,go_sem]) rfl
            · obtain rfl : k = 4 := by omega
              have HP : Hid (primV xs = .tuple #[quatV (primN xs 0) (primN xs 1) (primN xs 2) (primN xs 3),.int .i64 0]) := Lib.hid (primV_ok (fun j hj => HK.out j hj))
              obtain ⟨og,oc,rfl,ho1,ho2,ho3,ho4,hcs⟩ := hI.cells (by omega)
              have oc0 := hcs 0 (by omega)
              have oc1 := hcs 1 (by omega)
              have oc2 := hcs 2 (by omega)
              have oc3 := hcs 3 (by omega)
              clear hcs
              have rc0 := hqr.c0
              have rf0 := hqr.f0
              have rc1 := hqr.c1
              have rf1 := hqr.f1
              have rc2 := hqr.c2
              have rf2 := hqr.f2
              have rc3 := hqr.c3
              have rf3 := hqr.f3
              go_wp2_with fail
              go_region
              all_goals
                go_wp2_with fail
                exact bodyPost_ret (v := .tuple #[.agg #[.int .i64 (primN xs 0),.int .i64 (primN xs 1),.int .i64 (primN xs 2),.int .i64 (primN xs 3)],.int .i64 0]) (by simp [results,Tryz.results96,go_sem,rc0,rc1,rc2,rc3,rf0,rf1,rf2,rf3]) rfl ⟨by rw [HP.out];rfl,(Below.sets4 hB3 (b := w.heap.size) (by omega) _ _ _ _).drew⟩
theorem rprim_any (s : Value) (xs : Nat → Int) (w : World) (h : RowI w s 4 xs) (hl : ∀ j,j < 4 → isz (xs j) ≤ 400000000) (hne : ∃ j,j < 4 ∧ xs j ≠ 0) :
    Calls Tryz.prog 96 #[s] w (GV (primV xs) w) := by
  obtain ⟨b,o,c,rfl,h1,h2,_⟩ := h.addr (by omega)
  by_cases hs : fseq xs 4 < 0
  · exact rprim_neg b o c xs w h h1 h2 hl hne hs
  · exact rprim_pos b o c xs w h h1 h2 hl hne hs
end Go.Proofs.YtidfgdchcpmnfaaGreat
