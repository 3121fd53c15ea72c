/-
  Lemmas for the statements about rotations, part 26 of 51.
-/
import Derived.Test.YtidfgdchcpmnfaaGreatZb11
import Derived.Test.YtidfgdchcpmnfaaGreatZb14
import Derived.Test.YtidfgdchcpmnfaaGreatZb25
namespace Go.Proofs.YtidfgdchcpmnfaaGreat
open Go.RowKit
set_option maxRecDepth 100000
set_option maxHeartbeats 4000000
set_option linter.unusedSimpArgs false
set_option linter.unusedVariables false
theorem indexI_0 : ∀ (ya yb yc yd ye yf yg yh : Value) (w : World),Sem.run Tryz.prog (Instr.index 96 (.agg #[ya,yb,yc,yd,ye,yf,yg,yh]) (.int .i64 0)) w = .ok (.agg #[ya,yb]) w := fun ya yb yc yd ye yf yg yh w => by kernel_rfl
theorem indexI_1 : ∀ (ya yb yc yd ye yf yg yh : Value) (w : World),Sem.run Tryz.prog (Instr.index 96 (.agg #[ya,yb,yc,yd,ye,yf,yg,yh]) (.int .i64 1)) w = .ok (.agg #[yc,yd]) w := fun ya yb yc yd ye yf yg yh w => by kernel_rfl
theorem indexI_2 : ∀ (ya yb yc yd ye yf yg yh : Value) (w : World),Sem.run Tryz.prog (Instr.index 96 (.agg #[ya,yb,yc,yd,ye,yf,yg,yh]) (.int .i64 2)) w = .ok (.agg #[ye,yf]) w := fun ya yb yc yd ye yf yg yh w => by kernel_rfl
theorem indexI_3 : ∀ (ya yb yc yd ye yf yg yh : Value) (w : World),Sem.run Tryz.prog (Instr.index 96 (.agg #[ya,yb,yc,yd,ye,yf,yg,yh]) (.int .i64 3)) w = .ok (.agg #[yg,yh]) w := fun ya yb yc yd ye yf yg yh w => by kernel_rfl
theorem zero_raw (w : World) : Raw w (.agg #[.bool false,.slice none 0 0]) 0 := ⟨false,_,[],rfl,.inl ⟨rfl,by simp⟩,by simp,by simp [cnt]⟩
theorem fseq_pos {xs : Nat → Int} {k : Nat} (h : sgn (fseq xs k) = 0) : fseq xs (k + 1) = xs k := if_pos (sgn_zero_iff.1 h)
theorem fseq_neg {xs : Nat → Int} {k : Nat} (h : ¬ sgn (fseq xs k) = 0) : fseq xs (k + 1) = fseq xs k := if_neg (fun e => h (sgn_zero_iff.2 e))
theorem indexI_any (ya yb yc yd ye yf yg yh : Value) {W : World} {xs : Nat → Int} (h0 : Raw W (.agg #[ya,yb]) (xs 0)) (h1 : Raw W (.agg #[yc,yd]) (xs 1)) (h2 : Raw W (.agg #[ye,yf]) (xs 2)) (h3 : Raw W (.agg #[yg,yh]) (xs 3)) (k : Nat) (hk : k < 4) :
    ∃ (b : Bool) (p : Option Addr) (n c : Nat),(∀ w,Sem.run Tryz.prog (Instr.index 96 (.agg #[ya,yb,yc,yd,ye,yf,yg,yh]) (.int .i64 (k : Nat))) w = .ok (.agg #[.bool b,.slice p n c]) w) ∧ Raw W (.agg #[.bool b,.slice p n c]) (xs k) := by
  match k,hk with
  | 0,_ => obtain ⟨b,p,n,c,e⟩ := h0.form;rw [e] at h0;injection e with e;injection e with e;simp at e;obtain ⟨rfl,rfl⟩ := e;exact ⟨b,p,n,c,indexI_0 _ _ _ _ _ _ _ _,h0⟩
  | 1,_ => obtain ⟨b,p,n,c,e⟩ := h1.form;rw [e] at h1;injection e with e;injection e with e;simp at e;obtain ⟨rfl,rfl⟩ := e;exact ⟨b,p,n,c,indexI_1 _ _ _ _ _ _ _ _,h1⟩
  | 2,_ => obtain ⟨b,p,n,c,e⟩ := h2.form;rw [e] at h2;injection e with e;injection e with e;simp at e;obtain ⟨rfl,rfl⟩ := e;exact ⟨b,p,n,c,indexI_2 _ _ _ _ _ _ _ _,h2⟩
  | 3,_ => obtain ⟨b,p,n,c,e⟩ := h3.form;rw [e] at h3;injection e with e;injection e with e;simp at e;obtain ⟨rfl,rfl⟩ := e;exact ⟨b,p,n,c,indexI_3 _ _ _ _ _ _ _ _,h3⟩
def outL (f : Nat → Int) (k : Nat) : List Value := [.int .i64 (if 0 < k then f 0 else 0),.int .i64 (if 1 < k then f 1 else 0),.int .i64 (if 2 < k then f 2 else 0),.int .i64 (if 3 < k then f 3 else 0)]
theorem outL_get (f : Nat → Int) {k : Nat} (hk : k < 4) : (outL f k)[k]? = some (.int .i64 0) := by
  have : k = 0 ∨ k = 1 ∨ k = 2 ∨ k = 3 := by omega
  rcases this with rfl | rfl | rfl | rfl <;> rfl
theorem outL_set (f : Nat → Int) {k : Nat} (hk : k < 4) : (outL f k).set k (.int .i64 (f k)) = outL f (k + 1) := by
  have : k = 0 ∨ k = 1 ∨ k = 2 ∨ k = 3 := by omega
  rcases this with rfl | rfl | rfl | rfl <;> simp [outL]
theorem outL_0 (f : Nat → Int) : outL f 0 = [.int .i64 0,.int .i64 0,.int .i64 0,.int .i64 0] := rfl
theorem outL_4 (f : Nat → Int) : outL f 4 = [.int .i64 (f 0),.int .i64 (f 1),.int .i64 (f 2),.int .i64 (f 3)] := rfl
theorem okn_step {f : Nat → Int} {k : Nat} (h : ∀ j,j < k → okc (f j)) (hx : okc (f k)) : ∀ j,j < k + 1 → okc (f j) := fun j hj => by
  by_cases e : j < k
  · exact h j e
  · obtain rfl : j = k := by omega
    exact hx
theorem okc_small {x : Int} (h : okc x) : smallB x = true ∧ smallV x = x := by
  have : smallB x = true := by unfold okc at h;unfold smallB;simp;omega
  exact ⟨this,small_yes this⟩
theorem xs_fdiv_isz {xs : Nat → Int} {k : Nat} : True := trivial
theorem prim_neg (ya yb yc yd ye yf yg yh : Value) (xs : Nat → Int) (w : World) (h0 : Raw w (.agg #[ya,yb]) (xs 0)) (h1 : Raw w (.agg #[yc,yd]) (xs 1)) (h2 : Raw w (.agg #[ye,yf]) (xs 2)) (h3 : Raw w (.agg #[yg,yh]) (xs 3))
    (hl : ∀ j,j < 4 → isz (xs j) ≤ 400000000) (hne : ∃ j,j < 4 ∧ xs j ≠ 0) (hs : fseq xs 4 < 0) :
    Calls Tryz.prog 93 #[.agg #[ya,yb,yc,yd,ye,yf,yg,yh]] w fun e w' => e = .returned (primV xs) ∧ Below w.heap.size w w' := by
  have hB_0 : Below w.heap.size w w := Below.refl _ _
  have HS := Lib.hid hs
  clear hs
  go_enter Tryz.func93,Tryz.ntmps93
  obtain ⟨hA1,a0,l2,m2,o2⟩ := bx4 w rfl [ya,yb,yc,yd,ye,yf,yg,yh] 96 [.int .i64 0,.int .i64 0,.int .i64 0,.int .i64 0] 33 [.bool false,.slice none 0 0] 28 [.bool false,.slice none 0 0] 28
  have hz0 := zero_raw (((((w.alloc (.cells #[ya,yb,yc,yd,ye,yf,yg,yh] 96)).alloc (.cells #[.int .i64 0,.int .i64 0,.int .i64 0,.int .i64 0] 33)).alloc (.cells #[.bool false,.slice none 0 0] 28)).alloc (.cells #[.bool false,.slice none 0 0] 28)))
  go_wp2_with fail
  go_loopw [17,7,18,19,20,21,22,23,24,25,26,27] (fun i _ _ _ _ _ _ _ _ _ _ _ wr => ∃ (k : Nat) (gb fb : Bool) (gp fp : Option Addr) (gn gc fn fc : Nat),k ≤ 4 ∧ i = .int .i64 (k : Nat) ∧ Bx wr w.heap.size [ya,yb,yc,yd,ye,yf,yg,yh] ∧ Bx wr (w.heap.size + 1) [.int .i64 0,.int .i64 0,.int .i64 0,.int .i64 0] ∧ Bx wr (w.heap.size + 1 + 1) [.bool gb,.slice gp gn gc] ∧ Raw wr (.agg #[.bool gb,.slice gp gn gc]) (gseq xs k) ∧ Bx wr (w.heap.size + 1 + 1 + 1) [.bool fb,.slice fp fn fc] ∧ Raw wr (.agg #[.bool fb,.slice fp fn fc]) (fseq xs k) ∧ Below w.heap.size w wr) (fun i _ _ _ _ _ _ _ _ _ _ _ _ => 4 - (intOf i).toNat)
  case atStart => exact ⟨0,_,_,_,_,_,_,_,_,by omega,rfl,a0,l2,m2,hz0,o2,hz0,(Below.tr hB_0 hA1)⟩
  case round =>
    obtain ⟨k,gb,fb,gp,fp,gn,gc,fn,fc,hk4,rfl,hq0,hq1,hqg,hg,hqf,hf,hB⟩ := hrel
    have hzB := hB.size
    have hlq1 := hq1.1
    have hlqg := hqg.1
    have hlqf := hqf.1
    by_cases hk : k < 4
    · obtain ⟨xb,xp,xn,xc,hix,hx⟩ := indexI_any ya yb yc yd ye yf yg yh (h0.below hB) (h1.below hB) (h2.below hB) (h3.below hB) k hk
      have lg : isz (gseq xs k) ≤ 1000000000 := Nat.le_trans (gseq_isz k (fun j hj => hl j (by omega))) (by omega)
      have lx : isz (xs k) ≤ 1000000000 := Nat.le_trans (hl k hk) (by omega)
      have hkd : decide ((k : Int) < 4) = true := by simp;omega
      by_cases hsg : sgn (fseq xs k) = 0
      · have hsd : (sgn (fseq xs k) == 0) = true := by simpa using hsg
        obtain ⟨e0,f0⟩ := hqg.cs2
        obtain ⟨hA1,a0⟩ := bx1 wr rfl [.bool xb,.slice xp xn xc] 28
        obtain ⟨r1,s1⟩ := (hqg.to hA1).cs2
        go_wp2_with fail
        have y0 := (hg.below hA1)
        have j1 := (hx.below hA1)
        (with_reducible refine (gcd_any _ _ (gseq xs k) (xs k) _ y0 j1 (by omega) (by omega)).mono ?_)
        rintro e w1 ⟨v1,rfl,hi1,hb1⟩
        obtain ⟨g1,p1,n1,c1,rfl⟩ := hi1.form
        have qg_1 := ((hqg.to hA1).to hb1)
        obtain ⟨b1,t1,d1,u1⟩ := qg_1.cf2
        have qf_1 := ((hqf.to hA1).to hb1)
        obtain ⟨l1,o1⟩ := qf_1.cs2
        obtain ⟨m1,q1⟩ := (qf_1.other2 (b := w.heap.size + 1 + 1) (by omega) (.bool g1) (.slice p1 n1 c1)).cs2
        go_wp2_with fail
        have hf_1 := ((hf.below hA1).below hb1)
        have z0 := (hf_1.sets2 qg_1 rfl rfl (.bool g1) (.slice p1 n1 c1))
        (with_reducible refine (signI_any _ (fseq xs k) _ z0).mono ?_)
        rintro e w2 ⟨rfl,hb2⟩
        have q2 := (((a0.to hb1).other2 (b := w.heap.size + 1 + 1) (by omega) (.bool g1) (.slice p1 n1 c1)).to hb2)
        obtain ⟨j2,k2⟩ := q2.cs2
        have qf_2 := ((qf_1.other2 (b := w.heap.size + 1 + 1) (by omega) (.bool g1) (.slice p1 n1 c1)).to hb2)
        obtain ⟨l3,o3,n3,p3⟩ := qf_2.cf2
        have qr_2 := ((((hq1.to hA1).to hb1).other2 (b := w.heap.size + 1 + 1) (by omega) (.bool g1) (.slice p1 n1 c1)).to hb2)
        have qg_2 := ((qg_1.store2 (.bool g1) (.slice p1 n1 c1)).to hb2)
        have k1 := ((hi1.sets2 qg_1 rfl rfl (.bool g1) (.slice p1 n1 c1)).below hb2)
        have hx_2 := ((((hx.below hA1).below hb1).sets2 qg_1 rfl rfl (.bool g1) (.slice p1 n1 c1)).below hb2)
        have hB_2 := (Below.tr (Below.sets2 (Below.tr (Below.tr hB hA1) hb1) (b := w.heap.size + 1 + 1) (by omega) (.bool g1) (.slice p1 n1 c1)) hb2)
        have qa_2 := ((((hq0.to hA1).to hb1).other2 (b := w.heap.size + 1 + 1) (by omega) (.bool g1) (.slice p1 n1 c1)).to hb2)
        go_wp2_with fail
        go_roundw
        case rel => exact ⟨k + 1,_,_,_,_,_,_,_,_,by omega,by go_num,(qa_2.other2 (b := w.heap.size + 1 + 1 + 1) (by omega) (.bool xb) (.slice xp xn xc)),(qr_2.other2 (b := w.heap.size + 1 + 1 + 1) (by omega) (.bool xb) (.slice xp xn xc)),(qg_2.other2 (b := w.heap.size + 1 + 1 + 1) (by omega) (.bool xb) (.slice xp xn xc)),((k1.sets2 qf_2 rfl rfl (.bool xb) (.slice xp xn xc))).raw,(qf_2.store2 (.bool xb) (.slice xp xn xc)),by rw [fseq_pos hsg];exact (hx_2.sets2 qf_2 rfl rfl (.bool xb) (.slice xp xn xc)),(Below.sets2 hB_2 (b := w.heap.size + 1 + 1 + 1) (by omega) (.bool xb) (.slice xp xn xc))⟩
        case measure => simp [intOf];omega
      · skip
        have hsd : (sgn (fseq xs k) == 0) = false := by simpa using hsg
        obtain ⟨e0,f0⟩ := hqg.cs2
        obtain ⟨hA1,a0⟩ := bx1 wr rfl [.bool xb,.slice xp xn xc] 28
        obtain ⟨r1,s1⟩ := (hqg.to hA1).cs2
        go_wp2_with fail
        have y0 := (hg.below hA1)
        have j1 := (hx.below hA1)
        (with_reducible refine (gcd_any _ _ (gseq xs k) (xs k) _ y0 j1 (by omega) (by omega)).mono ?_)
        rintro e w1 ⟨v1,rfl,hi1,hb1⟩
        obtain ⟨g1,p1,n1,c1,rfl⟩ := hi1.form
        have qg_1 := ((hqg.to hA1).to hb1)
        obtain ⟨b1,t1,d1,u1⟩ := qg_1.cf2
        have qf_1 := ((hqf.to hA1).to hb1)
        obtain ⟨l1,o1⟩ := qf_1.cs2
        obtain ⟨m1,q1⟩ := (qf_1.other2 (b := w.heap.size + 1 + 1) (by omega) (.bool g1) (.slice p1 n1 c1)).cs2
        go_wp2_with fail
        have hf_1 := ((hf.below hA1).below hb1)
        have z0 := (hf_1.sets2 qg_1 rfl rfl (.bool g1) (.slice p1 n1 c1))
        (with_reducible refine (signI_any _ (fseq xs k) _ z0).mono ?_)
        rintro e w2 ⟨rfl,hb2⟩
        have qr_2 := ((((hq1.to hA1).to hb1).other2 (b := w.heap.size + 1 + 1) (by omega) (.bool g1) (.slice p1 n1 c1)).to hb2)
        have qg_2 := ((qg_1.store2 (.bool g1) (.slice p1 n1 c1)).to hb2)
        have k1 := ((hi1.sets2 qg_1 rfl rfl (.bool g1) (.slice p1 n1 c1)).below hb2)
        have qf_2 := ((qf_1.other2 (b := w.heap.size + 1 + 1) (by omega) (.bool g1) (.slice p1 n1 c1)).to hb2)
        have hf_2 := ((hf_1.sets2 qg_1 rfl rfl (.bool g1) (.slice p1 n1 c1)).below hb2)
        have hB_2 := (Below.tr (Below.sets2 (Below.tr (Below.tr hB hA1) hb1) (b := w.heap.size + 1 + 1) (by omega) (.bool g1) (.slice p1 n1 c1)) hb2)
        have qa_2 := ((((hq0.to hA1).to hb1).other2 (b := w.heap.size + 1 + 1) (by omega) (.bool g1) (.slice p1 n1 c1)).to hb2)
        go_wp2_with fail
        go_roundw
        case rel => exact ⟨k + 1,_,_,_,_,_,_,_,_,by omega,by go_num,qa_2,qr_2,qg_2,(k1).raw,qf_2,by rw [fseq_neg hsg];exact hf_2,hB_2⟩
        case measure => simp [intOf];omega
    · obtain rfl : k = 4 := by omega
      have lg : isz (gseq xs 4) ≤ 999999999 := Nat.le_trans (gseq_isz 4 (fun j hj => hl j hj)) (by omega)
      have hsd : decide (sgn (fseq xs 4) < 0) = true := by simp [sgn_neg_iff.2 HS.out]
      have HG : Hid (primG xs = -gseq xs 4) := Lib.hid (if_pos HS.out)
      have HGN : Hid (primG xs ≠ 0) := Lib.hid (by obtain ⟨j,hj,hx⟩ := hne;exact primG_ne hj hx)
      have lp : isz (primG xs) ≤ 400000000 := primG_isz hl
      obtain ⟨k3,m3⟩ := hqf.cs2
      go_wp2_with fail
      have y0 := hf
      (with_reducible refine (signI_any _ (fseq xs 4) _ y0).mono ?_)
      rintro e w1 ⟨rfl,hb1⟩
      have qg_1 := (hqg.to hb1)
      obtain ⟨b1,d1⟩ := qg_1.cs2
      go_wp2_with fail
      have hg_1 := (hg.below hb1)
      have z0 := hg_1
      (with_reducible refine (neg_any _ (gseq xs 4) _ z0 (by omega)).mono ?_)
      rintro e w2 ⟨v2,rfl,hi2,hb2⟩
      obtain ⟨g2,p2,n2,c2,rfl⟩ := hi2.form
      have qg_2 := (qg_1.to hb2)
      obtain ⟨q3,s3,r3,t3⟩ := qg_2.cf2
      have qa_2 := ((hq0.to hb1).to hb2)
      obtain ⟨r2,t2,x2,z2,b3,d3,f3,i3⟩ := qa_2.cs8
      have y3 := ((qa_2.other2 (b := w.heap.size + 1 + 1) (by omega) (.bool g2) (.slice p2 n2 c2))).1
      have qr_2 := ((hq1.to hb1).to hb2)
      have b4 := ((qr_2.other2 (b := w.heap.size + 1 + 1) (by omega) (.bool g2) (.slice p2 n2 c2))).1
      have a4 := ((qg_2.store2 (.bool g2) (.slice p2 n2 c2))).1
      have qf_2 := ((hqf.to hb1).to hb2)
      have z3 := ((qf_2.other2 (b := w.heap.size + 1 + 1) (by omega) (.bool g2) (.slice p2 n2 c2))).1
      obtain ⟨hA1,a0⟩ := bx1 ((w2.setCell ⟨w.heap.size + 1 + 1,0,none⟩ (.bool g2)).setCell ⟨w.heap.size + 1 + 1,1,none⟩ (.slice p2 n2 c2)) (by simp : _ = w2.heap.size) [.int .i64 0,.int .i64 0,.int .i64 0,.int .i64 0] 89
      obtain ⟨s2,u2,y2,a3,c3,e3,g3,j3⟩ := ((qa_2.other2 (b := w.heap.size + 1 + 1) (by omega) (.bool g2) (.slice p2 n2 c2)).to hA1).cs8
      have hB_2 := (Below.tr (Below.tr hB hb1) hb2)
      go_wp2_with fail
      have hOB1 : w.heap.size + 1 + 1 < w2.heap.size := by have a1 := hb1.size;(try simp only [World.size_alloc,World.size_setCell,World.size_drew] at a1);have a2 := hb2.size;(try simp only [World.size_alloc,World.size_setCell,World.size_drew] at a2);omega
      skip
      go_loopw [34,9,10,11,12,13,14,15,35,36,37,38,39,40,41,42,43,44,45,46,47,48,49,50,51,52,53,54,55,56,57,58,59,60,61,62,63,64] (fun i _ _ _ _ _ _ _ _ _ _ _ _ _ _ _ _ _ _ _ _ _ _ _ _ _ _ _ _ _ _ _ _ _ _ _ _ _ wq => ∃ (k : Nat),k ≤ 4 ∧ i = .int .i64 (k : Nat) ∧ Hid (∀ j,j < k → okc (primN xs j)) ∧ Bx wq (w.heap.size + 1) [.int .i64 0,.int .i64 0,.int .i64 0,.int .i64 0] ∧ Bx wq (w.heap.size + 1 + 1) [.bool g2,.slice p2 n2 c2] ∧ Raw wq (.agg #[.bool g2,.slice p2 n2 c2]) (primG xs) ∧ Bx wq (w2.heap.size) (outL (primN xs) k) ∧ Below w.heap.size w wq) (fun i _ _ _ _ _ _ _ _ _ _ _ _ _ _ _ _ _ _ _ _ _ _ _ _ _ _ _ _ _ _ _ _ _ _ _ _ _ _ => 4 - (intOf i).toNat)
      case atStart => exact ⟨0,by omega,rfl,Lib.hid (fun j hj => by omega),((qr_2.other2 (b := w.heap.size + 1 + 1) (by omega) (.bool g2) (.slice p2 n2 c2)).to hA1),((qg_2.store2 (.bool g2) (.slice p2 n2 c2)).to hA1),by rw [HG.out];exact (((hi2.sets2 qg_2 rfl rfl (.bool g2) (.slice p2 n2 c2)).below hA1)).raw,a0,(Below.tr (Below.sets2 hB_2 (b := w.heap.size + 1 + 1) (by omega) (.bool g2) (.slice p2 n2 c2)) hA1)⟩
      case round =>
        obtain ⟨k,hk4,rfl,HK,hq1,hqg,hg,hqo,hB⟩ := hrel
        have hzB := hB.size
        have hlq1 := hq1.1
        have hlqg := hqg.1
        have hlqo := hqo.1
        by_cases hk : k < 4
        · obtain ⟨xb,xp,xn,xc,hix,hx⟩ := indexI_any ya yb yc yd ye yf yg yh (h0.below hB) (h1.below hB) (h2.below hB) (h3.below hB) k hk
          have lx : isz (xs k) ≤ 400000000 := hl k hk
          have hkd : decide ((k : Int) < 4) = true := by simp;omega
          by_cases hok : okc (primN xs k)
          · have hsb : smallB ((xs k).fdiv (primG xs)) = true := (okc_small hok).1
            have h1 : decide (smallV ((xs k).fdiv (primG xs)) < -1048576) = false := by have h9 := hok.1;have h8 := (okc_small hok).2;unfold primN at h8 h9;rw [h8];simp;omega
            have h2 : decide (1048576 < smallV ((xs k).fdiv (primG xs))) = false := by have h9 := hok.2;have h8 := (okc_small hok).2;unfold primN at h8 h9;rw [h8];simp;omega
            have HV := Lib.hid (okc_small hok).2
            have HOK := Lib.hid hok
            clear hok
            obtain ⟨e0,f0⟩ := hqg.cs2
            go_wp2_with fail
            obtain ⟨hA1,a0⟩ := bx1 wr rfl [.bool xb,.slice xp xn xc] 28
            have v0 := (hx.below hA1)
            have w0 := (hg.below hA1)
            (with_reducible refine (divide_any _ _ (xs k) (primG xs) _ v0 w0 (by omega) (by omega) HGN.out).mono ?_)
            rintro e w21 ⟨v21,u21,rfl,hi21,hj21,hb21⟩
            obtain ⟨g21,p21,n21,c21,rfl⟩ := hi21.form
            obtain ⟨h21,o21,m21,e21,rfl⟩ := hj21.form
            have qr_1 := ((hq1.to hA1).to hb21)
            have t0 := (qr_1).1
            have qg_1 := ((hqg.to hA1).to hb21)
            have p0 := (qg_1).1
            have qo_1 := ((hqo.to hA1).to hb21)
            have r0 := (qo_1).1
            have d0 := (a0.to hb21)
            have b0 := (d0).1
            obtain ⟨hA2,e1⟩ := bx1 w21 rfl [.bool false,.slice none 0 0] 28
            have u0 := ((qr_1.to hA2)).1
            have q0 := ((qg_1.to hA2)).1
            have s0 := ((qo_1.to hA2)).1
            have c0 := ((d0.to hA2)).1
            go_wp2_with fail
            obtain ⟨hA3,f1,i1⟩ := bx2 w21 rfl [.bool g21,.slice p21 n21 c21] 28 [.bool h21,.slice o21 m21 e21] 28
            have x0 := (hi21.below hA3).raw
            (with_reducible refine (small_any _ (((xs k)).fdiv ((primG xs))) _ x0).mono ?_)
            rintro e w22 ⟨rfl,hb22⟩
            have qo_2 := ((qo_1.to hA3).to hb22)
            have hcell := ((qo_2).2 k _ (outL_get _ hk)).1
            have hfroz := ((qo_2).2 k _ (outL_get _ hk)).2
            have qr_2 := ((qr_1.to hA3).to hb22)
            have qg_2 := ((qg_1.to hA3).to hb22)
            have hg_2 := ((((hg.below hA1).below hb21).below hA3).below hb22)
            have hB_2 := (Below.tr (Below.tr (Below.tr (Below.tr hB hA1) hb21) hA3) hb22)
            go_wp2_with fail
            go_roundw
            case rel => exact ⟨k + 1,by omega,by go_num,Lib.hid (okn_step HK.out HOK.out),(qr_2.otherAt (b := w2.heap.size) (by omega) k (.int .i64 (smallV ((xs k).fdiv (primG xs))))),(qg_2.otherAt (b := w2.heap.size) (by omega) k (.int .i64 (smallV ((xs k).fdiv (primG xs))))),(hg_2.setBox hcell rfl (.int .i64 (smallV ((xs k).fdiv (primG xs))))),by rw [← outL_set _ hk,← HV.out];exact (qo_2.setAt k (.int .i64 (smallV ((xs k).fdiv (primG xs))))),(Below.setCell hB_2 (p := ⟨w2.heap.size,k,none⟩) (by dsimp only;omega) (.int .i64 (smallV ((xs k).fdiv (primG xs)))))⟩
            case measure => simp [intOf];omega
          · have HP : Hid (primV xs = .tuple #[quatV 0 0 0 0,.int .i64 3]) := Lib.hid (primV_no hk hok)
            have hthree : smallB ((xs k).fdiv (primG xs)) = false ∨ (smallB ((xs k).fdiv (primG xs)) = true ∧ (smallV ((xs k).fdiv (primG xs)) < -1048576 ∨ (¬ smallV ((xs k).fdiv (primG xs)) < -1048576 ∧ 1048576 < smallV ((xs k).fdiv (primG xs))))) := by
              cases hsb : smallB ((xs k).fdiv (primG xs))
              · exact .inl rfl
              · right;have := small_yes hsb;rw [this];refine ⟨rfl,?_⟩;unfold okc primN at hok;omega
            clear hok
            rcases hthree with hsb | ⟨hsb,h1 | ⟨h1,h2⟩⟩
            · skip
              obtain ⟨e0,f0⟩ := hqg.cs2
              go_wp2_with fail
              obtain ⟨hA1,a0⟩ := bx1 wr rfl [.bool xb,.slice xp xn xc] 28
              have v0 := (hx.below hA1)
              have w0 := (hg.below hA1)
              (with_reducible refine (divide_any _ _ (xs k) (primG xs) _ v0 w0 (by omega) (by omega) HGN.out).mono ?_)
              rintro e w21 ⟨v21,u21,rfl,hi21,hj21,hb21⟩
              obtain ⟨g21,p21,n21,c21,rfl⟩ := hi21.form
              obtain ⟨h21,o21,m21,e21,rfl⟩ := hj21.form
              have qr_1 := ((hq1.to hA1).to hb21)
              have t0 := (qr_1).1
              have qg_1 := ((hqg.to hA1).to hb21)
              have p0 := (qg_1).1
              have qo_1 := ((hqo.to hA1).to hb21)
              have r0 := (qo_1).1
              have d0 := (a0.to hb21)
              have b0 := (d0).1
              obtain ⟨hA2,e1⟩ := bx1 w21 rfl [.bool false,.slice none 0 0] 28
              have u0 := ((qr_1.to hA2)).1
              have q0 := ((qg_1.to hA2)).1
              have s0 := ((qo_1.to hA2)).1
              have c0 := ((d0.to hA2)).1
              go_wp2_with fail
              obtain ⟨hA3,f1,i1⟩ := bx2 w21 rfl [.bool g21,.slice p21 n21 c21] 28 [.bool h21,.slice o21 m21 e21] 28
              have x0 := (hi21.below hA3).raw
              (with_reducible refine (small_any _ (((xs k)).fdiv ((primG xs))) _ x0).mono ?_)
              rintro e w22 ⟨rfl,hb22⟩
              have qr_2 := ((qr_1.to hA3).to hb22)
              obtain ⟨g0,l0,i0,m0,j0,n0,k0,o0⟩ := qr_2.cf4
              have hB_2 := (Below.tr (Below.tr (Below.tr (Below.tr hB hA1) hb21) hA3) hb22)
              go_wp2_with fail
              exact bodyPost_ret (v := .tuple #[.agg #[.int .i64 0,.int .i64 0,.int .i64 0,.int .i64 0],.int .i64 3]) (by simp [results,Tryz.results93,go_sem,t0,p0,r0,b0,u0,q0,s0,c0,g0,l0,i0,m0,j0,n0,k0,o0]) rfl ⟨by rw [HP.out];rfl,(Below.sets4 hB_2 (b := w.heap.size + 1) (by omega) (.int .i64 0) (.int .i64 0) (.int .i64 0) (.int .i64 0))⟩
            · skip
              have h1d : decide (smallV ((xs k).fdiv (primG xs)) < -1048576) = true := by simpa using h1
              clear h1
              obtain ⟨e0,f0⟩ := hqg.cs2
              go_wp2_with fail
              obtain ⟨hA1,a0⟩ := bx1 wr rfl [.bool xb,.slice xp xn xc] 28
              have v0 := (hx.below hA1)
              have w0 := (hg.below hA1)
              (with_reducible refine (divide_any _ _ (xs k) (primG xs) _ v0 w0 (by omega) (by omega) HGN.out).mono ?_)
              rintro e w21 ⟨v21,u21,rfl,hi21,hj21,hb21⟩
              obtain ⟨g21,p21,n21,c21,rfl⟩ := hi21.form
              obtain ⟨h21,o21,m21,e21,rfl⟩ := hj21.form
              have qr_1 := ((hq1.to hA1).to hb21)
              have t0 := (qr_1).1
              have qg_1 := ((hqg.to hA1).to hb21)
              have p0 := (qg_1).1
              have qo_1 := ((hqo.to hA1).to hb21)
              have r0 := (qo_1).1
              have d0 := (a0.to hb21)
              have b0 := (d0).1
              obtain ⟨hA2,e1⟩ := bx1 w21 rfl [.bool false,.slice none 0 0] 28
              have u0 := ((qr_1.to hA2)).1
              have q0 := ((qg_1.to hA2)).1
              have s0 := ((qo_1.to hA2)).1
              have c0 := ((d0.to hA2)).1
              go_wp2_with fail
              obtain ⟨hA3,f1,i1⟩ := bx2 w21 rfl [.bool g21,.slice p21 n21 c21] 28 [.bool h21,.slice o21 m21 e21] 28
              have x0 := (hi21.below hA3).raw
              (with_reducible refine (small_any _ (((xs k)).fdiv ((primG xs))) _ x0).mono ?_)
              rintro e w22 ⟨rfl,hb22⟩
              have qr_2 := ((qr_1.to hA3).to hb22)
              obtain ⟨g0,l0,i0,m0,j0,n0,k0,o0⟩ := qr_2.cf4
              have hB_2 := (Below.tr (Below.tr (Below.tr (Below.tr hB hA1) hb21) hA3) hb22)
              go_wp2_with fail
              exact bodyPost_ret (v := .tuple #[.agg #[.int .i64 0,.int .i64 0,.int .i64 0,.int .i64 0],.int .i64 3]) (by simp [results,Tryz.results93,go_sem,t0,p0,r0,b0,u0,q0,s0,c0,g0,l0,i0,m0,j0,n0,k0,o0]) rfl ⟨by rw [HP.out];rfl,(Below.sets4 hB_2 (b := w.heap.size + 1) (by omega) (.int .i64 0) (.int .i64 0) (.int .i64 0) (.int .i64 0))⟩
            · skip
              have h1d : decide (smallV ((xs k).fdiv (primG xs)) < -1048576) = false := by simpa using h1
              have h2d : decide (1048576 < smallV ((xs k).fdiv (primG xs))) = true := by simpa using h2
              clear h1 h2
              obtain ⟨e0,f0⟩ := hqg.cs2
              go_wp2_with fail
              obtain ⟨hA1,a0⟩ := bx1 wr rfl [.bool xb,.slice xp xn xc] 28
              have v0 := (hx.below hA1)
              have w0 := (hg.below hA1)
              (with_reducible refine (divide_any _ _ (xs k) (primG xs) _ v0 w0 (by omega) (by omega) HGN.out).mono ?_)
              rintro e w21 ⟨v21,u21,rfl,hi21,hj21,hb21⟩
              obtain ⟨g21,p21,n21,c21,rfl⟩ := hi21.form
              obtain ⟨h21,o21,m21,e21,rfl⟩ := hj21.form
              have qr_1 := ((hq1.to hA1).to hb21)
              have t0 := (qr_1).1
              have qg_1 := ((hqg.to hA1).to hb21)
              have p0 := (qg_1).1
              have qo_1 := ((hqo.to hA1).to hb21)
              have r0 := (qo_1).1
              have d0 := (a0.to hb21)
              have b0 := (d0).1
              obtain ⟨hA2,e1⟩ := bx1 w21 rfl [.bool false,.slice none 0 0] 28
              have u0 := ((qr_1.to hA2)).1
              have q0 := ((qg_1.to hA2)).1
              have s0 := ((qo_1.to hA2)).1
              have c0 := ((d0.to hA2)).1
              go_wp2_with fail
              obtain ⟨hA3,f1,i1⟩ := bx2 w21 rfl [.bool g21,.slice p21 n21 c21] 28 [.bool h21,.slice o21 m21 e21] 28
              have x0 := (hi21.below hA3).raw
              (with_reducible refine (small_any _ (((xs k)).fdiv ((primG xs))) _ x0).mono ?_)
              rintro e w22 ⟨rfl,hb22⟩
              have qr_2 := ((qr_1.to hA3).to hb22)
              obtain ⟨g0,l0,i0,m0,j0,n0,k0,o0⟩ := qr_2.cf4
              have hB_2 := (Below.tr (Below.tr (Below.tr (Below.tr hB hA1) hb21) hA3) hb22)
              go_wp2_with fail
              exact bodyPost_ret (v := .tuple #[.agg #[.int .i64 0,.int .i64 0,.int .i64 0,.int .i64 0],.int .i64 3]) (by simp [results,Tryz.results93,go_sem,t0,p0,r0,b0,u0,q0,s0,c0,g0,l0,i0,m0,j0,n0,k0,o0]) rfl ⟨by rw [HP.out];rfl,(Below.sets4 hB_2 (b := w.heap.size + 1) (by omega) (.int .i64 0) (.int .i64 0) (.int .i64 0) (.int .i64 0))⟩
        · obtain rfl : k = 4 := by omega
          have HP : Hid (primV xs = .tuple #[quatV (primN xs 0) (primN xs 1) (primN xs 2) (primN xs 3),.int .i64 0]) := Lib.hid (primV_ok (fun j hj => HK.out j hj))
          rw [outL_4] at hqo
          obtain ⟨u3,v3,w3,x3⟩ := hqo.cs4
          obtain ⟨x1,d2,y1,e2,z1,f2,b2,i2⟩ := hq1.cf4
          go_wp2_with fail
          exact bodyPost_ret (v := .tuple #[.agg #[.int .i64 (primN xs 0),.int .i64 (primN xs 1),.int .i64 (primN xs 2),.int .i64 (primN xs 3)],.int .i64 0]) (by simp [results,Tryz.results93,go_sem,x1,d2,y1,e2,z1,f2,b2,i2]) rfl ⟨by rw [HP.out];rfl,(Below.sets4 hB (b := w.heap.size + 1) (by omega) (.int .i64 (primN xs 0)) (.int .i64 (primN xs 1)) (.int .i64 (primN xs 2)) (.int .i64 (primN xs 3)))⟩
theorem prim_pos (ya yb yc yd ye yf yg yh : Value) (xs : Nat → Int) (w : World) (h0 : Raw w (.agg #[ya,yb]) (xs 0)) (h1 : Raw w (.agg #[yc,yd]) (xs 1)) (h2 : Raw w (.agg #[ye,yf]) (xs 2)) (h3 : Raw w (.agg #[yg,yh]) (xs 3))
    (hl : ∀ j,j < 4 → isz (xs j) ≤ 400000000) (hne : ∃ j,j < 4 ∧ xs j ≠ 0) (hs : ¬ fseq xs 4 < 0) :
    Calls Tryz.prog 93 #[.agg #[ya,yb,yc,yd,ye,yf,yg,yh]] w fun e w' => e = .returned (primV xs) ∧ Below w.heap.size w w' := by
  have hB_0 : Below w.heap.size w w := Below.refl _ _
  have HS := Lib.hid hs
  clear hs
  go_enter Tryz.func93,Tryz.ntmps93
  obtain ⟨hA1,a0,i2,j2,k2⟩ := bx4 w rfl [ya,yb,yc,yd,ye,yf,yg,yh] 96 [.int .i64 0,.int .i64 0,.int .i64 0,.int .i64 0] 33 [.bool false,.slice none 0 0] 28 [.bool false,.slice none 0 0] 28
  have hz0 := zero_raw (((((w.alloc (.cells #[ya,yb,yc,yd,ye,yf,yg,yh] 96)).alloc (.cells #[.int .i64 0,.int .i64 0,.int .i64 0,.int .i64 0] 33)).alloc (.cells #[.bool false,.slice none 0 0] 28)).alloc (.cells #[.bool false,.slice none 0 0] 28)))
  go_wp2_with fail
  go_loopw [17,7,18,19,20,21,22,23,24,25,26,27] (fun i _ _ _ _ _ _ _ _ _ _ _ wr => ∃ (k : Nat) (gb fb : Bool) (gp fp : Option Addr) (gn gc fn fc : Nat),k ≤ 4 ∧ i = .int .i64 (k : Nat) ∧ Bx wr w.heap.size [ya,yb,yc,yd,ye,yf,yg,yh] ∧ Bx wr (w.heap.size + 1) [.int .i64 0,.int .i64 0,.int .i64 0,.int .i64 0] ∧ Bx wr (w.heap.size + 1 + 1) [.bool gb,.slice gp gn gc] ∧ Raw wr (.agg #[.bool gb,.slice gp gn gc]) (gseq xs k) ∧ Bx wr (w.heap.size + 1 + 1 + 1) [.bool fb,.slice fp fn fc] ∧ Raw wr (.agg #[.bool fb,.slice fp fn fc]) (fseq xs k) ∧ Below w.heap.size w wr) (fun i _ _ _ _ _ _ _ _ _ _ _ _ => 4 - (intOf i).toNat)
  case atStart => exact ⟨0,_,_,_,_,_,_,_,_,by omega,rfl,a0,i2,j2,hz0,k2,hz0,(Below.tr hB_0 hA1)⟩
  case round =>
    obtain ⟨k,gb,fb,gp,fp,gn,gc,fn,fc,hk4,rfl,hq0,hq1,hqg,hg,hqf,hf,hB⟩ := hrel
    have hzB := hB.size
    have hlq1 := hq1.1
    have hlqg := hqg.1
    have hlqf := hqf.1
    by_cases hk : k < 4
    · obtain ⟨xb,xp,xn,xc,hix,hx⟩ := indexI_any ya yb yc yd ye yf yg yh (h0.below hB) (h1.below hB) (h2.below hB) (h3.below hB) k hk
      have lg : isz (gseq xs k) ≤ 1000000000 := Nat.le_trans (gseq_isz k (fun j hj => hl j (by omega))) (by omega)
      have lx : isz (xs k) ≤ 1000000000 := Nat.le_trans (hl k hk) (by omega)
      have hkd : decide ((k : Int) < 4) = true := by simp;omega
      by_cases hsg : sgn (fseq xs k) = 0
      · have hsd : (sgn (fseq xs k) == 0) = true := by simpa using hsg
        obtain ⟨g0,i0⟩ := hqg.cs2
        obtain ⟨hA1,a0⟩ := bx1 wr rfl [.bool xb,.slice xp xn xc] 28
        obtain ⟨o1,r1⟩ := (hqg.to hA1).cs2
        go_wp2_with fail
        have y0 := (hg.below hA1)
        have e1 := (hx.below hA1)
        (with_reducible refine (gcd_any _ _ (gseq xs k) (xs k) _ y0 e1 (by omega) (by omega)).mono ?_)
        rintro e w1 ⟨v1,rfl,hi1,hb1⟩
        obtain ⟨g1,p1,n1,c1,rfl⟩ := hi1.form
        have qg_1 := ((hqg.to hA1).to hb1)
        obtain ⟨q1,t1,s1,u1⟩ := qg_1.cf2
        have qf_1 := ((hqf.to hA1).to hb1)
        obtain ⟨j1,l1⟩ := qf_1.cs2
        obtain ⟨k1,m1⟩ := (qf_1.other2 (b := w.heap.size + 1 + 1) (by omega) (.bool g1) (.slice p1 n1 c1)).cs2
        go_wp2_with fail
        have hf_1 := ((hf.below hA1).below hb1)
        have f1 := (hf_1.sets2 qg_1 rfl rfl (.bool g1) (.slice p1 n1 c1))
        (with_reducible refine (signI_any _ (fseq xs k) _ f1).mono ?_)
        rintro e w2 ⟨rfl,hb2⟩
        have l2 := (((a0.to hb1).other2 (b := w.heap.size + 1 + 1) (by omega) (.bool g1) (.slice p1 n1 c1)).to hb2)
        obtain ⟨f2,g2⟩ := l2.cs2
        have qf_2 := ((qf_1.other2 (b := w.heap.size + 1 + 1) (by omega) (.bool g1) (.slice p1 n1 c1)).to hb2)
        obtain ⟨e3,i3,g3,j3⟩ := qf_2.cf2
        have qr_2 := ((((hq1.to hA1).to hb1).other2 (b := w.heap.size + 1 + 1) (by omega) (.bool g1) (.slice p1 n1 c1)).to hb2)
        have qg_2 := ((qg_1.store2 (.bool g1) (.slice p1 n1 c1)).to hb2)
        have i1 := ((hi1.sets2 qg_1 rfl rfl (.bool g1) (.slice p1 n1 c1)).below hb2)
        have hx_2 := ((((hx.below hA1).below hb1).sets2 qg_1 rfl rfl (.bool g1) (.slice p1 n1 c1)).below hb2)
        have hB_2 := (Below.tr (Below.sets2 (Below.tr (Below.tr hB hA1) hb1) (b := w.heap.size + 1 + 1) (by omega) (.bool g1) (.slice p1 n1 c1)) hb2)
        have qa_2 := ((((hq0.to hA1).to hb1).other2 (b := w.heap.size + 1 + 1) (by omega) (.bool g1) (.slice p1 n1 c1)).to hb2)
        go_wp2_with fail
        go_roundw
        case rel => exact ⟨k + 1,_,_,_,_,_,_,_,_,by omega,by go_num,(qa_2.other2 (b := w.heap.size + 1 + 1 + 1) (by omega) (.bool xb) (.slice xp xn xc)),(qr_2.other2 (b := w.heap.size + 1 + 1 + 1) (by omega) (.bool xb) (.slice xp xn xc)),(qg_2.other2 (b := w.heap.size + 1 + 1 + 1) (by omega) (.bool xb) (.slice xp xn xc)),((i1.sets2 qf_2 rfl rfl (.bool xb) (.slice xp xn xc))).raw,(qf_2.store2 (.bool xb) (.slice xp xn xc)),by rw [fseq_pos hsg];exact (hx_2.sets2 qf_2 rfl rfl (.bool xb) (.slice xp xn xc)),(Below.sets2 hB_2 (b := w.heap.size + 1 + 1 + 1) (by omega) (.bool xb) (.slice xp xn xc))⟩
        case measure => simp [intOf];omega
      · skip
        have hsd : (sgn (fseq xs k) == 0) = false := by simpa using hsg
        obtain ⟨g0,i0⟩ := hqg.cs2
        obtain ⟨hA1,a0⟩ := bx1 wr rfl [.bool xb,.slice xp xn xc] 28
        obtain ⟨o1,r1⟩ := (hqg.to hA1).cs2
        go_wp2_with fail
        have y0 := (hg.below hA1)
        have e1 := (hx.below hA1)
        (with_reducible refine (gcd_any _ _ (gseq xs k) (xs k) _ y0 e1 (by omega) (by omega)).mono ?_)
        rintro e w1 ⟨v1,rfl,hi1,hb1⟩
        obtain ⟨g1,p1,n1,c1,rfl⟩ := hi1.form
        have qg_1 := ((hqg.to hA1).to hb1)
        obtain ⟨q1,t1,s1,u1⟩ := qg_1.cf2
        have qf_1 := ((hqf.to hA1).to hb1)
        obtain ⟨j1,l1⟩ := qf_1.cs2
        obtain ⟨k1,m1⟩ := (qf_1.other2 (b := w.heap.size + 1 + 1) (by omega) (.bool g1) (.slice p1 n1 c1)).cs2
        go_wp2_with fail
        have hf_1 := ((hf.below hA1).below hb1)
        have f1 := (hf_1.sets2 qg_1 rfl rfl (.bool g1) (.slice p1 n1 c1))
        (with_reducible refine (signI_any _ (fseq xs k) _ f1).mono ?_)
        rintro e w2 ⟨rfl,hb2⟩
        have qr_2 := ((((hq1.to hA1).to hb1).other2 (b := w.heap.size + 1 + 1) (by omega) (.bool g1) (.slice p1 n1 c1)).to hb2)
        have qg_2 := ((qg_1.store2 (.bool g1) (.slice p1 n1 c1)).to hb2)
        have i1 := ((hi1.sets2 qg_1 rfl rfl (.bool g1) (.slice p1 n1 c1)).below hb2)
        have qf_2 := ((qf_1.other2 (b := w.heap.size + 1 + 1) (by omega) (.bool g1) (.slice p1 n1 c1)).to hb2)
        have hf_2 := ((hf_1.sets2 qg_1 rfl rfl (.bool g1) (.slice p1 n1 c1)).below hb2)
        have hB_2 := (Below.tr (Below.sets2 (Below.tr (Below.tr hB hA1) hb1) (b := w.heap.size + 1 + 1) (by omega) (.bool g1) (.slice p1 n1 c1)) hb2)
        have qa_2 := ((((hq0.to hA1).to hb1).other2 (b := w.heap.size + 1 + 1) (by omega) (.bool g1) (.slice p1 n1 c1)).to hb2)
        go_wp2_with fail
        go_roundw
        case rel => exact ⟨k + 1,_,_,_,_,_,_,_,_,by omega,by go_num,qa_2,qr_2,qg_2,(i1).raw,qf_2,by rw [fseq_neg hsg];exact hf_2,hB_2⟩
        case measure => simp [intOf];omega
    · obtain rfl : k = 4 := by omega
      have lg : isz (gseq xs 4) ≤ 999999999 := Nat.le_trans (gseq_isz 4 (fun j hj => hl j hj)) (by omega)
      have hsd : decide (sgn (fseq xs 4) < 0) = false := decide_eq_false (fun h => absurd (sgn_neg_iff.1 h) (by have := HS.out;omega))
      have HG : Hid (primG xs = gseq xs 4) := Lib.hid (if_neg (by have := HS.out;omega))
      have HGN : Hid (primG xs ≠ 0) := Lib.hid (by obtain ⟨j,hj,hx⟩ := hne;exact primG_ne hj hx)
      have lp : isz (primG xs) ≤ 400000000 := primG_isz hl
      obtain ⟨d3,f3⟩ := hqf.cs2
      go_wp2_with fail
      have y0 := hf
      (with_reducible refine (signI_any _ (fseq xs 4) _ y0).mono ?_)
      rintro e w1 ⟨rfl,hb1⟩
      have qa_1 := (hq0.to hb1)
      obtain ⟨m2,o2,q2,s2,u2,x2,z2,b3⟩ := qa_1.cs8
      have o3 := (qa_1).1
      have qr_1 := (hq1.to hb1)
      have c0 := (qr_1).1
      have qg_1 := (hqg.to hb1)
      have b0 := (qg_1).1
      have qf_1 := (hqf.to hb1)
      have p3 := (qf_1).1
      obtain ⟨hA1,a0⟩ := bx1 w1 rfl [.int .i64 0,.int .i64 0,.int .i64 0,.int .i64 0] 89
      obtain ⟨n2,p2,r2,t2,v2,y2,a3,c3⟩ := (qa_1.to hA1).cs8
      have hg_1 := (hg.below hb1)
      have hB_1 := (Below.tr hB hb1)
      go_wp2_with fail
      have hOB1 : w.heap.size + 1 + 1 < w1.heap.size := by have a1 := hb1.size;(try simp only [World.size_alloc,World.size_setCell,World.size_drew] at a1);omega
      skip
      go_loopw [34,9,10,11,12,13,14,15,35,36,37,38,39,40,41,42,43,44,45,46,47,48,49,50,51,52,53,54,55,56,57,58,59,60,61,62,63,64] (fun i _ _ _ _ _ _ _ _ _ _ _ _ _ _ _ _ _ _ _ _ _ _ _ _ _ _ _ _ _ _ _ _ _ _ _ _ _ wq => ∃ (k : Nat),k ≤ 4 ∧ i = .int .i64 (k : Nat) ∧ Hid (∀ j,j < k → okc (primN xs j)) ∧ Bx wq (w.heap.size + 1) [.int .i64 0,.int .i64 0,.int .i64 0,.int .i64 0] ∧ Bx wq (w.heap.size + 1 + 1) [.bool gb,.slice gp gn gc] ∧ Raw wq (.agg #[.bool gb,.slice gp gn gc]) (primG xs) ∧ Bx wq (w1.heap.size) (outL (primN xs) k) ∧ Below w.heap.size w wq) (fun i _ _ _ _ _ _ _ _ _ _ _ _ _ _ _ _ _ _ _ _ _ _ _ _ _ _ _ _ _ _ _ _ _ _ _ _ _ _ => 4 - (intOf i).toNat)
      case atStart => exact ⟨0,by omega,rfl,Lib.hid (fun j hj => by omega),(qr_1.to hA1),(qg_1.to hA1),by rw [HG.out];exact (hg_1.below hA1),a0,(Below.tr hB_1 hA1)⟩
      case round =>
        obtain ⟨k,hk4,rfl,HK,hq1,hqg,hg,hqo,hB⟩ := hrel
        have hzB := hB.size
        have hlq1 := hq1.1
        have hlqg := hqg.1
        have hlqo := hqo.1
        by_cases hk : k < 4
        · obtain ⟨xb,xp,xn,xc,hix,hx⟩ := indexI_any ya yb yc yd ye yf yg yh (h0.below hB) (h1.below hB) (h2.below hB) (h3.below hB) k hk
          have lx : isz (xs k) ≤ 400000000 := hl k hk
          have hkd : decide ((k : Int) < 4) = true := by simp;omega
          by_cases hok : okc (primN xs k)
          · have hsb : smallB ((xs k).fdiv (primG xs)) = true := (okc_small hok).1
            have h1 : decide (smallV ((xs k).fdiv (primG xs)) < -1048576) = false := by have h9 := hok.1;have h8 := (okc_small hok).2;unfold primN at h8 h9;rw [h8];simp;omega
            have h2 : decide (1048576 < smallV ((xs k).fdiv (primG xs))) = false := by have h9 := hok.2;have h8 := (okc_small hok).2;unfold primN at h8 h9;rw [h8];simp;omega
            have HV := Lib.hid (okc_small hok).2
            have HOK := Lib.hid hok
            clear hok
            obtain ⟨g0,i0⟩ := hqg.cs2
            go_wp2_with fail
            obtain ⟨hA1,a0⟩ := bx1 wr rfl [.bool xb,.slice xp xn xc] 28
            have v0 := (hx.below hA1)
            have w0 := (hg.below hA1)
            (with_reducible refine (divide_any _ _ (xs k) (primG xs) _ v0 w0 (by omega) (by omega) HGN.out).mono ?_)
            rintro e w21 ⟨v21,u21,rfl,hi21,hj21,hb21⟩
            obtain ⟨g21,p21,n21,c21,rfl⟩ := hi21.form
            obtain ⟨h21,o21,m21,e21,rfl⟩ := hj21.form
            have qr_1 := ((hq1.to hA1).to hb21)
            have c0 := (qr_1).1
            have qg_1 := ((hqg.to hA1).to hb21)
            have b0 := (qg_1).1
            have qo_1 := ((hqo.to hA1).to hb21)
            have s0 := (qo_1).1
            have f0 := (a0.to hb21)
            have d0 := (f0).1
            obtain ⟨hA2,z0⟩ := bx1 w21 rfl [.bool false,.slice none 0 0] 28
            have u0 := ((qr_1.to hA2)).1
            have r0 := ((qg_1.to hA2)).1
            have t0 := ((qo_1.to hA2)).1
            have e0 := ((f0.to hA2)).1
            go_wp2_with fail
            obtain ⟨hA3,b1,d1⟩ := bx2 w21 rfl [.bool g21,.slice p21 n21 c21] 28 [.bool h21,.slice o21 m21 e21] 28
            have x0 := (hi21.below hA3).raw
            (with_reducible refine (small_any _ (((xs k)).fdiv ((primG xs))) _ x0).mono ?_)
            rintro e w22 ⟨rfl,hb22⟩
            have qo_2 := ((qo_1.to hA3).to hb22)
            have hcell := ((qo_2).2 k _ (outL_get _ hk)).1
            have hfroz := ((qo_2).2 k _ (outL_get _ hk)).2
            have qr_2 := ((qr_1.to hA3).to hb22)
            have qg_2 := ((qg_1.to hA3).to hb22)
            have hg_2 := ((((hg.below hA1).below hb21).below hA3).below hb22)
            have hB_2 := (Below.tr (Below.tr (Below.tr (Below.tr hB hA1) hb21) hA3) hb22)
            go_wp2_with fail
            go_roundw
            case rel => exact ⟨k + 1,by omega,by go_num,Lib.hid (okn_step HK.out HOK.out),(qr_2.otherAt (b := w1.heap.size) (by omega) k (.int .i64 (smallV ((xs k).fdiv (primG xs))))),(qg_2.otherAt (b := w1.heap.size) (by omega) k (.int .i64 (smallV ((xs k).fdiv (primG xs))))),(hg_2.setBox hcell rfl (.int .i64 (smallV ((xs k).fdiv (primG xs))))),by rw [← outL_set _ hk,← HV.out];exact (qo_2.setAt k (.int .i64 (smallV ((xs k).fdiv (primG xs))))),(Below.setCell hB_2 (p := ⟨w1.heap.size,k,none⟩) (by dsimp only;omega) (.int .i64 (smallV ((xs k).fdiv (primG xs)))))⟩
            case measure => simp [intOf];omega
          · have HP : Hid (primV xs = .tuple #[quatV 0 0 0 0,.int .i64 3]) := Lib.hid (primV_no hk hok)
            have hthree : smallB ((xs k).fdiv (primG xs)) = false ∨ (smallB ((xs k).fdiv (primG xs)) = true ∧ (smallV ((xs k).fdiv (primG xs)) < -1048576 ∨ (¬ smallV ((xs k).fdiv (primG xs)) < -1048576 ∧ 1048576 < smallV ((xs k).fdiv (primG xs))))) := by
              cases hsb : smallB ((xs k).fdiv (primG xs))
              · exact .inl rfl
              · right;have := small_yes hsb;rw [this];refine ⟨rfl,?_⟩;unfold okc primN at hok;omega
            clear hok
            rcases hthree with hsb | ⟨hsb,h1 | ⟨h1,h2⟩⟩
            · skip
              obtain ⟨g0,i0⟩ := hqg.cs2
              go_wp2_with fail
              obtain ⟨hA1,a0⟩ := bx1 wr rfl [.bool xb,.slice xp xn xc] 28
              have v0 := (hx.below hA1)
              have w0 := (hg.below hA1)
              (with_reducible refine (divide_any _ _ (xs k) (primG xs) _ v0 w0 (by omega) (by omega) HGN.out).mono ?_)
              rintro e w21 ⟨v21,u21,rfl,hi21,hj21,hb21⟩
              obtain ⟨g21,p21,n21,c21,rfl⟩ := hi21.form
              obtain ⟨h21,o21,m21,e21,rfl⟩ := hj21.form
              have qr_1 := ((hq1.to hA1).to hb21)
              have c0 := (qr_1).1
              have qg_1 := ((hqg.to hA1).to hb21)
              have b0 := (qg_1).1
              have qo_1 := ((hqo.to hA1).to hb21)
              have s0 := (qo_1).1
              have f0 := (a0.to hb21)
              have d0 := (f0).1
              obtain ⟨hA2,z0⟩ := bx1 w21 rfl [.bool false,.slice none 0 0] 28
              have u0 := ((qr_1.to hA2)).1
              have r0 := ((qg_1.to hA2)).1
              have t0 := ((qo_1.to hA2)).1
              have e0 := ((f0.to hA2)).1
              go_wp2_with fail
              obtain ⟨hA3,b1,d1⟩ := bx2 w21 rfl [.bool g21,.slice p21 n21 c21] 28 [.bool h21,.slice o21 m21 e21] 28
              have x0 := (hi21.below hA3).raw
              (with_reducible refine (small_any _ (((xs k)).fdiv ((primG xs))) _ x0).mono ?_)
              rintro e w22 ⟨rfl,hb22⟩
              have qr_2 := ((qr_1.to hA3).to hb22)
              obtain ⟨j0,n0,k0,o0,l0,p0,m0,q0⟩ := qr_2.cf4
              have hB_2 := (Below.tr (Below.tr (Below.tr (Below.tr hB hA1) hb21) hA3) hb22)
              go_wp2_with fail
              exact bodyPost_ret (v := .tuple #[.agg #[.int .i64 0,.int .i64 0,.int .i64 0,.int .i64 0],.int .i64 3]) (by simp [results,Tryz.results93,go_sem,c0,b0,s0,d0,u0,r0,t0,e0,j0,n0,k0,o0,l0,p0,m0,q0]) rfl ⟨by rw [HP.out];rfl,(Below.sets4 hB_2 (b := w.heap.size + 1) (by omega) (.int .i64 0) (.int .i64 0) (.int .i64 0) (.int .i64 0))⟩
            · skip
              have h1d : decide (smallV ((xs k).fdiv (primG xs)) < -1048576) = true := by simpa using h1
              clear h1
              obtain ⟨g0,i0⟩ := hqg.cs2
              go_wp2_with fail
              obtain ⟨hA1,a0⟩ := bx1 wr rfl [.bool xb,.slice xp xn xc] 28
              have v0 := (hx.below hA1)
              have w0 := (hg.below hA1)
              (with_reducible refine (divide_any _ _ (xs k) (primG xs) _ v0 w0 (by omega) (by omega) HGN.out).mono ?_)
              rintro e w21 ⟨v21,u21,rfl,hi21,hj21,hb21⟩
              obtain ⟨g21,p21,n21,c21,rfl⟩ := hi21.form
              obtain ⟨h21,o21,m21,e21,rfl⟩ := hj21.form
              have qr_1 := ((hq1.to hA1).to hb21)
              have c0 := (qr_1).1
              have qg_1 := ((hqg.to hA1).to hb21)
              have b0 := (qg_1).1
              have qo_1 := ((hqo.to hA1).to hb21)
              have s0 := (qo_1).1
              have f0 := (a0.to hb21)
              have d0 := (f0).1
              obtain ⟨hA2,z0⟩ := bx1 w21 rfl [.bool false,.slice none 0 0] 28
              have u0 := ((qr_1.to hA2)).1
              have r0 := ((qg_1.to hA2)).1
              have t0 := ((qo_1.to hA2)).1
              have e0 := ((f0.to hA2)).1
              go_wp2_with fail
              obtain ⟨hA3,b1,d1⟩ := bx2 w21 rfl [.bool g21,.slice p21 n21 c21] 28 [.bool h21,.slice o21 m21 e21] 28
              have x0 := (hi21.below hA3).raw
              (with_reducible refine (small_any _ (((xs k)).fdiv ((primG xs))) _ x0).mono ?_)
              rintro e w22 ⟨rfl,hb22⟩
              have qr_2 := ((qr_1.to hA3).to hb22)
              obtain ⟨j0,n0,k0,o0,l0,p0,m0,q0⟩ := qr_2.cf4
              have hB_2 := (Below.tr (Below.tr (Below.tr (Below.tr hB hA1) hb21) hA3) hb22)
              go_wp2_with fail
              exact bodyPost_ret (v := .tuple #[.agg #[.int .i64 0,.int .i64 0,.int .i64 0,.int .i64 0],.int .i64 3]) (by simp [results,Tryz.results93,go_sem,c0,b0,s0,d0,u0,r0,t0,e0,j0,n0,k0,o0,l0,p0,m0,q0]) rfl ⟨by rw [HP.out];rfl,(Below.sets4 hB_2 (b := w.heap.size + 1) (by omega) (.int .i64 0) (.int .i64 0) (.int .i64 0) (.int .i64 0))⟩
            · skip
              have h1d : decide (smallV ((xs k).fdiv (primG xs)) < -1048576) = false := by simpa using h1
              have h2d : decide (1048576 < smallV ((xs k).fdiv (primG xs))) = true := by simpa using h2
              clear h1 h2
              obtain ⟨g0,i0⟩ := hqg.cs2
              go_wp2_with fail
              obtain ⟨hA1,a0⟩ := bx1 wr rfl [.bool xb,.slice xp xn xc] 28
              have v0 := (hx.below hA1)
              have w0 := (hg.below hA1)
              (with_reducible refine (divide_any _ _ (xs k) (primG xs) _ v0 w0 (by omega) (by omega) HGN.out).mono ?_)
              rintro e w21 ⟨v21,u21,rfl,hi21,hj21,hb21⟩
              obtain ⟨g21,p21,n21,c21,rfl⟩ := hi21.form
              obtain ⟨h21,o21,m21,e21,rfl⟩ := hj21.form
              have qr_1 := ((hq1.to hA1).to hb21)
              have c0 := (qr_1).1
              have qg_1 := ((hqg.to hA1).to hb21)
              have b0 := (qg_1).1
              have qo_1 := ((hqo.to hA1).to hb21)
              have s0 := (qo_1).1
              have f0 := (a0.to hb21)
              have d0 := (f0).1
              obtain ⟨hA2,z0⟩ := bx1 w21 rfl [.bool false,.slice none 0 0] 28
              have u0 := ((qr_1.to hA2)).1
              have r0 := ((qg_1.to hA2)).1
              have t0 := ((qo_1.to hA2)).1
              have e0 := ((f0.to hA2)).1
              go_wp2_with fail
              obtain ⟨hA3,b1,d1⟩ := bx2 w21 rfl [.bool g21,.slice p21 n21 c21] 28 [.bool h21,.slice o21 m21 e21] 28
              have x0 := (hi21.below hA3).raw
              (with_reducible refine (small_any _ (((xs k)).fdiv ((primG xs))) _ x0).mono ?_)
              rintro e w22 ⟨rfl,hb22⟩
              have qr_2 := ((qr_1.to hA3).to hb22)
              obtain ⟨j0,n0,k0,o0,l0,p0,m0,q0⟩ := qr_2.cf4
              have hB_2 := (Below.tr (Below.tr (Below.tr (Below.tr hB hA1) hb21) hA3) hb22)
              go_wp2_with fail
              exact bodyPost_ret (v := .tuple #[.agg #[.int .i64 0,.int .i64 0,.int .i64 0,.int .i64 0],.int .i64 3]) (by simp [results,Tryz.results93,go_sem,c0,b0,s0,d0,u0,r0,t0,e0,j0,n0,k0,o0,l0,p0,m0,q0]) rfl ⟨by rw [HP.out];rfl,(Below.sets4 hB_2 (b := w.heap.size + 1) (by omega) (.int .i64 0) (.int .i64 0) (.int .i64 0) (.int .i64 0))⟩
        · obtain rfl : k = 4 := by omega
          have HP : Hid (primV xs = .tuple #[quatV (primN xs 0) (primN xs 1) (primN xs 2) (primN xs 3),.int .i64 0]) := Lib.hid (primV_ok (fun j hj => HK.out j hj))
          rw [outL_4] at hqo
          obtain ⟨k3,l3,m3,n3⟩ := hqo.cs4
          obtain ⟨x1,b2,y1,c2,z1,d2,a2,e2⟩ := hq1.cf4
          go_wp2_with fail
          exact bodyPost_ret (v := .tuple #[.agg #[.int .i64 (primN xs 0),.int .i64 (primN xs 1),.int .i64 (primN xs 2),.int .i64 (primN xs 3)],.int .i64 0]) (by simp [results,Tryz.results93,go_sem,x1,b2,y1,c2,z1,d2,a2,e2]) rfl ⟨by rw [HP.out];rfl,(Below.sets4 hB (b := w.heap.size + 1) (by omega) (.int .i64 (primN xs 0)) (.int .i64 (primN xs 1)) (.int .i64 (primN xs 2)) (.int .i64 (primN xs 3)))⟩
theorem prim_any (ya yb yc yd ye yf yg yh : Value) (xs : Nat → Int) (w : World) (h0 : Raw w (.agg #[ya,yb]) (xs 0)) (h1 : Raw w (.agg #[yc,yd]) (xs 1)) (h2 : Raw w (.agg #[ye,yf]) (xs 2)) (h3 : Raw w (.agg #[yg,yh]) (xs 3))
    (hl : ∀ j,j < 4 → isz (xs j) ≤ 400000000) (hne : ∃ j,j < 4 ∧ xs j ≠ 0) :
    Calls Tryz.prog 93 #[.agg #[ya,yb,yc,yd,ye,yf,yg,yh]] w fun e w' => e = .returned (primV xs) ∧ Below w.heap.size w w' := by
  by_cases hs : fseq xs 4 < 0
  · exact prim_neg ya yb yc yd ye yf yg yh xs w h0 h1 h2 h3 hl hne hs
  · exact prim_pos ya yb yc yd ye yf yg yh xs w h0 h1 h2 h3 hl hne hs
end Go.Proofs.YtidfgdchcpmnfaaGreat
