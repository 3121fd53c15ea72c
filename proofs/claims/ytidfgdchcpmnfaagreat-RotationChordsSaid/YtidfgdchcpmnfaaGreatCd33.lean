/-
  RotationChords holds: Chord is as defined, symmetric, from 0 to 1, 0 exactly for the same rotation, and unchanged by a common factor on either side. Conditions: none beyond those of the given row.
-/
import Derived.Test.YtidfgdchcpmnfaaGreatCd32
namespace Go.Proofs.YtidfgdchcpmnfaaGreat
open Go Go.RowKit
set_option maxRecDepth 100000
set_option maxHeartbeats 1000000
set_option linter.unusedVariables false
set_option linter.unusedSimpArgs false
abbrev s19 (x y : Rat) : Prop := rsz x ≤ 190000000 ∧ rsz y ≤ 190000000
def cDivN : Ctr := ⟨[tQ,tQ],[tR,tI],fun x => s19 x.1 x.2.1 ∧ (show Rat from x.2.1) ≠ 0,fun x => (rawQ ((show Rat from x.1) / (show Rat from x.2.1)),(0 : Int),())⟩
theorem cDivN_ok {f : FuncId} (h : ∀ (v u : Value) (x y : Rat) (w : World),RQ w v x → RQ w u y → rsz x ≤ 190000000 → rsz y ≤ 190000000 → y ≠ 0 → Calls Tryz.prog f #[v,u] w (GQC (x / y) 0 w)) : CtrOk Tryz.prog f cDivN := by
  intro F w vs x hF hvs hp
  obtain ⟨v,vs',rfl,h1,u,vs'',rfl,h2,h3⟩ := hvs
  have h3 : vs'' = [] := h3
  subst h3
  refine (h v u x.1 x.2.1 w (rat_v h1) (rat_v h2) hp.1.1 hp.1.2 hp.2).mono ?_
  rintro e w' ⟨r,rfl,hr,hb⟩
  exact ⟨_,rfl,⟨[_,_],rfl,_,_,rfl,v_rawQ hr,_,_,rfl,v_int _,rfl⟩,hb⟩
def cBoth : Ctr := ⟨[tQuat,tQuat],[tI],fun x => True,fun x => (qcode2 x.1.1 x.1.2.1 x.1.2.2.1 x.1.2.2.2.1 x.2.1.1 x.2.1.2.1 x.2.1.2.2.1 x.2.1.2.2.2.1,())⟩
theorem rboth_ctr : CtrOk Tryz.prog 72 cBoth := by
  refine ctr_fn LK [] Tryz.func72 rfl (by decide) (fun x => []) (fun x hp => ?_)
  obtain ⟨⟨a,b,c,d,v⟩,⟨e,f,g,h,z⟩,u⟩ := x
  change Int at a;change Int at b;change Int at c;change Int at d;change Int at e;change Int at f;change Int at g;change Int at h
  refine vc_of ((True ∧ True) ∧ ifB (qcode a b c d != 0) (True ∧ qcode a b c d = qcode2 a b c d e f g h ∧ True) ((True ∧ True) ∧ True ∧ qcode e f g h = qcode2 a b c d e f g h ∧ True)) (by kernel_rfl) ?_
  simp only [qcode2,ifB_iff,true_and,and_true,bne_iff_ne,ne_eq,bne_eq_false_iff_eq]
  exact ⟨fun h => (if_neg h).symm,fun h => (if_pos h).symm⟩
theorem rnorm_ctr : CtrOk Tryz.prog 73 (cHI (fun a b c d => okc a ∧ okc b ∧ okc c ∧ okc d) normI) := by
  refine ctr_fn LK [] Tryz.func73 rfl (by decide) (fun x => []) (fun x hp => ?_)
  obtain ⟨⟨a,b,c,d,v⟩,u⟩ := x
  change Int at a;change Int at b;change Int at c;change Int at d
  refine vc_of (True ∧ IntKind.wrap IntKind.i64 (IntKind.wrap IntKind.i64 (IntKind.wrap IntKind.i64 (IntKind.wrap IntKind.i64 (a * a) + IntKind.wrap IntKind.i64 (b * b)) + IntKind.wrap IntKind.i64 (c * c)) + IntKind.wrap IntKind.i64 (d * d)) = normI a b c d ∧ True) (by kernel_rfl) ?_
  obtain ⟨ha,hb,hc,hd⟩ := hp
  obtain ⟨p0,p1⟩ := okc_mul ha ha
  obtain ⟨p2,p3⟩ := okc_mul hb hb
  obtain ⟨p4,p5⟩ := okc_mul hc hc
  obtain ⟨p6,p7⟩ := okc_mul hd hd
  refine ⟨trivial,?_,trivial⟩
  dsimp only at p0 p1 p2 p3 p4 p5 p6 p7
  rw [wrap_id (n := a * a) (by omega) (by omega),wrap_id (n := b * b) (by omega) (by omega),wrap_id (n := c * c) (by omega) (by omega),wrap_id (n := d * d) (by omega) (by omega),wrap_id (n := a * a + b * b) (by omega) (by omega),wrap_id (n := a * a + b * b + c * c) (by omega) (by omega),wrap_id (by omega) (by omega)]
  rfl
noncomputable def LH0 : Lib := ((((LK
  ).add 72 cBoth rboth_ctr
  ).add 73 (cHI (fun a b c d => okc a ∧ okc b ∧ okc c ∧ okc d) normI) rnorm_ctr
  ).add 74 cDivN (cDivN_ok fun v u x y w a b l1 l2 hy => rdivQ_ok v u x y w a b l1 l2 hy)
  ).add 23 (cQ2I s19 cmpQ) (cQ2I_ok fun v u x y w a b h => rcompareQ_any v u x y w a b h.1 h.2)
noncomputable def LH1 : Lib := LH0.add 22 (cQI (fun x => rsz x ≤ 190000000) (fun x => sgn x.num)) (cQI_ok fun v x w h hl => rsignQ_any v x w h (Nat.le_trans hl (by omega)))
theorem rminus_ctr : CtrOk Tryz.prog 61 (cQ2 s19 (· - ·)) := by
  refine ctr_fn LH1 [4] Tryz.func61 rfl (by decide) (fun x => []) (fun x hp => ?_)
  obtain ⟨x,y,u⟩ := x
  change Rat at x;change Rat at y
  refine vc_of ((rsz y ≤ 190000000 ∧ (rsz x ≤ 190000000 ∧ rsz (-y) ≤ 190000000) ∧ True) ∧ True ∧ x + -y = x - y ∧ True) (by kernel_rfl) ?_
  obtain ⟨h1,h2⟩ := hp
  exact ⟨⟨h2,⟨h1,by rw [rsz_neg];exact h2⟩,trivial⟩,trivial,(Rat.sub_eq_add_neg x y).symm,trivial⟩
noncomputable def LH2 : Lib := LH1.add 61 (cQ2 s19 (· - ·)) rminus_ctr
theorem rchord_ctr : CtrOk Tryz.prog 20 cChord := by
  refine ctr_fn LH2 [4,7,8,9] Tryz.func20 rfl (by decide) (fun x => []) (fun x hp => ?_)
  obtain ⟨⟨a,b,c,d,v⟩,⟨e,f,g,h,z⟩,u⟩ := x
  change Int at a;change Int at b;change Int at c;change Int at d;change Int at e;change Int at f;change Int at g;change Int at h
  refine vc_of (let x0z := (IntKind.wrap IntKind.i64 (IntKind.wrap IntKind.i64 (IntKind.wrap IntKind.i64 (IntKind.wrap IntKind.i64 (a * e) + IntKind.wrap IntKind.i64 (b * f)) + IntKind.wrap IntKind.i64 (c * g)) + IntKind.wrap IntKind.i64 (d * h)));(True ∧ True) ∧ ifB (qcode2 a b c d e f g h != 0) (True ∧ { ok := false,x := 0,n := 0,m := 0 } = Prod.fst (chordT a b c d e f g h) ∧ True ∧ qcode2 a b c d e f g h = Prod.fst (Prod.snd (chordT a b c d e f g h)) ∧ True) ((wordP x0z ∧ True) ∧ ((okc a ∧ okc b ∧ okc c ∧ okc d) ∧ wordP (normI a b c d) ∧ (okc e ∧ okc f ∧ okc g ∧ okc h) ∧ wordP (normI e f g h) ∧ (rsz (intQ (normI a b c d)) ≤ 190000000 ∧ rsz (intQ (normI e f g h)) ≤ 190000000) ∧ True) ∧ ((rsz (intQ x0z) ≤ 190000000 ∧ rsz (intQ x0z) ≤ 190000000) ∧ (s19 (intQ x0z * intQ x0z) (intQ (normI a b c d) * intQ (normI e f g h)) ∧ intQ (normI a b c d) * intQ (normI e f g h) ≠ 0) ∧ True) ∧ (wordP 1 ∧ asT Bool true = true ∧ s19 (intQ 1) (intQ x0z * intQ x0z / (intQ (normI a b c d) * intQ (normI e f g h))) ∧ True) ∧ True ∧ rawQ (intQ 1 - intQ x0z * intQ x0z / (intQ (normI a b c d) * intQ (normI e f g h))) = Prod.fst (chordT a b c d e f g h) ∧ True ∧ 0 = Prod.fst (Prod.snd (chordT a b c d e f g h)) ∧ True)) (by kernel_rfl) ?_
  dsimp only [intQ] at *
  by_cases k : qcode2 a b c d e f g h = 0
  · obtain ⟨k1,k2⟩ := qcode2_zero.1 k
    obtain ⟨hn,oa,ob,oc,od⟩ := qcode_ok k1
    obtain ⟨hm,oe,of,og,oh⟩ := qcode_ok k2
    have ee : chordT a b c d e f g h = (rawQ (chordQ a b c d e f g h),0,()) := if_pos k
    obtain ⟨pae0,pae1⟩ := okc_mul oa oe
    obtain ⟨pbf0,pbf1⟩ := okc_mul ob of
    obtain ⟨pcg0,pcg1⟩ := okc_mul oc og
    obtain ⟨pdh0,pdh1⟩ := okc_mul od oh
    obtain ⟨q0,q1⟩ := qdot_bound oa ob oc od oe of og oh
    have eS : IntKind.wrap IntKind.i64 (IntKind.wrap IntKind.i64 (IntKind.wrap IntKind.i64 (IntKind.wrap IntKind.i64 (a * e) + IntKind.wrap IntKind.i64 (b * f)) + IntKind.wrap IntKind.i64 (c * g)) + IntKind.wrap IntKind.i64 (d * h)) = qdot a b c d e f g h := by
      unfold qdot at *
      simp (disch := omega) only [wrap_id]
    rw [eS,ee,k]
    have hm1 : ((normI a b c d : Int) : Rat) ≠ 0 := normI_rat (by have := normI_pos hn;omega)
    have hm2 : ((normI e f g h : Int) : Rat) ≠ 0 := normI_rat (by have := normI_pos hm;omega)
    have hNN : ((normI a b c d : Int) : Rat) * ((normI e f g h : Int) : Rat) ≠ 0 := fun h9 => (Rat.mul_eq_zero.1 h9).elim hm1 hm2
    obtain ⟨hk10,hk11⟩ := normI_bound oa ob oc od
    obtain ⟨hk20,hk21⟩ := normI_bound oe of og oh
    have hu1 := isz_13 hk10 hk11
    have hu2 := isz_13 hk20 hk21
    have hu3 := isz_13 q0 q1
    have hs1 := rsz_int (normI a b c d)
    have hs2 := rsz_int (normI e f g h)
    have hs3 := rsz_int (qdot a b c d e f g h)
    have hs4 := rsz_mul ((normI a b c d : Int) : Rat) ((normI e f g h : Int) : Rat)
    have hs5 := rsz_mul ((qdot a b c d e f g h : Int) : Rat) ((qdot a b c d e f g h : Int) : Rat)
    have hs6 := rsz_div (((qdot a b c d e f g h : Int) : Rat) * ((qdot a b c d e f g h : Int) : Rat)) (((normI a b c d : Int) : Rat) * ((normI e f g h : Int) : Rat)) hNN
    have hu7 : rsz ((1 : Int) : Rat) ≤ 1 := by decide +kernel
    have w1 : wordP 1 := by unfold wordP;omega
    have wS : wordP (qdot a b c d e f g h) := by unfold wordP;omega
    have wn : wordP (normI a b c d) := by unfold wordP;omega
    have wm : wordP (normI e f g h) := by unfold wordP;omega
    have eC : chordQ a b c d e f g h = ((1 : Int) : Rat) - (((qdot a b c d e f g h : Int) : Rat) * ((qdot a b c d e f g h : Int) : Rat)) / (((normI a b c d : Int) : Rat) * ((normI e f g h : Int) : Rat)) := by
      unfold chordQ
      rw [Rat.divInt_eq_div,Rat.intCast_mul,Rat.intCast_mul]
    rw [eC]
    exact ⟨⟨trivial,trivial⟩,⟨wS,trivial⟩,⟨⟨oa,ob,oc,od⟩,wn,⟨oe,of,og,oh⟩,wm,⟨by omega,by omega⟩,trivial⟩,⟨⟨by omega,by omega⟩,⟨⟨by omega,by omega⟩,hNN⟩,trivial⟩,⟨w1,rfl,⟨by omega,by omega⟩,trivial⟩,trivial,rfl,trivial,rfl,trivial⟩
  · have ee : chordT a b c d e f g h = (rawZ,qcode2 a b c d e f g h,()) := if_neg k
    have kb : (qcode2 a b c d e f g h != 0) = true := by simpa using k
    rw [ee,kb]
    exact ⟨⟨trivial,trivial⟩,trivial,rfl,trivial,rfl,trivial⟩
def sameT (a b c d e f g h : Int) : Bool := bif (bif (canonT a b c d).2.1 == 0 then (canonT e f g h).2.1 == 0 else false) then (eqI (canonT a b c d).1.1 (canonT e f g h).1.1 && (eqI (canonT a b c d).1.2.1 (canonT e f g h).1.2.1 && (eqI (canonT a b c d).1.2.2.1 (canonT e f g h).1.2.2.1 && (eqI (canonT a b c d).1.2.2.2.1 (canonT e f g h).1.2.2.2.1 && true)))) else false
def cSame : Ctr := ⟨[tQuat,tQuat],[tB],fun x => True,fun x => (sameT x.1.1 x.1.2.1 x.1.2.2.1 x.1.2.2.2.1 x.2.1.1 x.2.1.2.1 x.2.1.2.2.1 x.2.1.2.2.2.1,())⟩
noncomputable def LH3 : Lib := LH2.add 18 (cHQ (fun _ _ _ _ => True) canonT) canon_ctr
theorem same_ctr : CtrOk Tryz.prog 25 cSame := by
  refine ctr_fn LH3 [5,7] Tryz.func25 rfl (by decide) (fun x => []) (fun x hp => ?_)
  obtain ⟨⟨a,b,c,d,v⟩,⟨e,f,g,h,z⟩,u⟩ := x
  change Int at a;change Int at b;change Int at c;change Int at d;change Int at e;change Int at f;change Int at g;change Int at h
  refine vc_of ((True ∧ True) ∧ (True ∧ True) ∧ ((((Prod.fst (Prod.snd (canonT a b c d)) == 0) == true) = true → ((Prod.fst (Prod.snd (canonT a b c d)) == 0) == true) = true ∧ True) ∧ ((Prod.fst (Prod.snd (canonT a b c d)) == 0) = true → ((Prod.fst (Prod.snd (canonT a b c d)) == 0) == true) = true) ∧ (((bif Prod.fst (Prod.snd (canonT a b c d)) == 0 then Prod.fst (Prod.snd (canonT e f g h)) == 0 else false) == true) = true → ((bif Prod.fst (Prod.snd (canonT a b c d)) == 0 then Prod.fst (Prod.snd (canonT e f g h)) == 0 else false) == true) = true ∧ ((bif Prod.fst (Prod.snd (canonT a b c d)) == 0 then Prod.fst (Prod.snd (canonT e f g h)) == 0 else false) == true) = true ∧ True) ∧ ((bif Prod.fst (Prod.snd (canonT a b c d)) == 0 then Prod.fst (Prod.snd (canonT e f g h)) == 0 else false) = true → ((bif Prod.fst (Prod.snd (canonT a b c d)) == 0 then Prod.fst (Prod.snd (canonT e f g h)) == 0 else false) == true) = true) ∧ True) ∧ True ∧ (bif bif Prod.fst (Prod.snd (canonT a b c d)) == 0 then Prod.fst (Prod.snd (canonT e f g h)) == 0 else false then eqI (Prod.fst (Prod.fst (canonT a b c d))) (Prod.fst (Prod.fst (canonT e f g h))) && (eqI (Prod.fst (Prod.snd (Prod.fst (canonT a b c d)))) (Prod.fst (Prod.snd (Prod.fst (canonT e f g h)))) && (eqI (Prod.fst (Prod.snd (Prod.snd (Prod.fst (canonT a b c d))))) (Prod.fst (Prod.snd (Prod.snd (Prod.fst (canonT e f g h))))) && (eqI (Prod.fst (Prod.snd (Prod.snd (Prod.snd (Prod.fst (canonT a b c d)))))) (Prod.fst (Prod.snd (Prod.snd (Prod.snd (Prod.fst (canonT e f g h)))))) && true))) else false) = sameT a b c d e f g h ∧ True) (by kernel_rfl) ?_
  exact ⟨⟨trivial,trivial⟩,⟨trivial,trivial⟩,⟨fun h => ⟨h,trivial⟩,fun h => by rw [h];rfl,fun h => ⟨h,h,trivial⟩,fun h => by rw [h];rfl,trivial⟩,trivial,rfl,trivial⟩
theorem canonT_form (a b c d : Int) : ∃ e f g h z : Int,canonT a b c d = ((e,f,g,h,()),z,()) := ⟨_,_,_,_,_,rfl⟩
theorem sameT_is (a b c d e f g h : Int) : SameIs a b c d e f g h (sameT a b c d e f g h) := by
  obtain ⟨za,zb,zc,zd,ze,hz⟩ := canonT_form a b c d
  obtain ⟨ya,yb,yc,yd,ye,hy⟩ := canonT_form e f g h
  refine ⟨za,zb,zc,zd,ze,ya,yb,yc,yd,ye,by rw [← qc_canon,hz];rfl,by rw [← qc_canon,hy];rfl,?_⟩
  unfold sameT
  rw [hz,hy]
  simp only [eqI]
  by_cases h0 : ze = 0 <;> by_cases h1 : ye = 0 <;> by_cases h2 : za = ya <;> by_cases h3 : zb = yb <;> by_cases h4 : zc = yc <;> by_cases h5 : zd = yd <;> simp [h0,h1,h2,h3,h4,h5]
theorem mulT_cases {a b c d e f g h : Int} (hq : qcode a b c d = 0) :
    ∃ x y z u v : Int,mulT a b c d e f g h = ((x,y,z,u,()),v,()) ∧
      (v ≠ 0 ∨ v = 0 ∧ qcode e f g h = 0 ∧ qcode x y z u = 0 ∧ ∃ G : Int,G ≠ 0 ∧ a * e - b * f - c * g - d * h = G * x ∧ a * f + b * e + c * h - d * g = G * y ∧ a * g - b * h + c * e + d * f = G * z ∧ a * h + b * g - c * f + d * e = G * u) := by
  obtain ⟨x,y,z,u,v,h1,h2⟩ := mul_cases (e := e) (f := f) (g := g) (h := h) hq
  exact ⟨x,y,z,u,v,qcV_inj ((qc_mul a b c d e f g h).trans h1),h2⟩
noncomputable def LH4 : Lib := ((LH3.add 25 cSame same_ctr).add 20 cChord rchord_ctr).add 26 (cHHQ mulT) qmul_ctr
theorem chords_ctr : CtrOk Tryz.prog 5 ⟨[tQuat,tQuat,tQuat],[tB],fun x => True,fun x => (true,())⟩ := by
  refine ctr_fn LH4 [7,9,11,15,17,19] Tryz.func5 rfl (by decide) (fun x => [.turns 3 [82] [7,9,11] []]) (fun x hp => ?_)
  obtain ⟨⟨a,b,c,d,v⟩,⟨e,f,g,h,z⟩,⟨i,j,m,l,t⟩,u⟩ := x
  change Int at a;change Int at b;change Int at c;change Int at d;change Int at e;change Int at f;change Int at g;change Int at h;change Int at i;change Int at j;change Int at m;change Int at l
  refine vc_of (let x0z := (chordT (Prod.fst (Prod.fst (mulT a b c d i j m l))) (Prod.fst (Prod.snd (Prod.fst (mulT a b c d i j m l)))) (Prod.fst (Prod.snd (Prod.snd (Prod.fst (mulT a b c d i j m l))))) (Prod.fst (Prod.snd (Prod.snd (Prod.snd (Prod.fst (mulT a b c d i j m l)))))) (Prod.fst (Prod.fst (mulT e f g h i j m l))) (Prod.fst (Prod.snd (Prod.fst (mulT e f g h i j m l)))) (Prod.fst (Prod.snd (Prod.snd (Prod.fst (mulT e f g h i j m l))))) (Prod.fst (Prod.snd (Prod.snd (Prod.snd (Prod.fst (mulT e f g h i j m l)))))));let x1z := (bif bif bif bif !decide (RawQ.x (Prod.fst (chordT a b c d e f g h)) = RawQ.x (Prod.fst (chordT a b c d e f g h))) then true else Prod.fst (Prod.snd (chordT e f g h a b c d)) != 0 then true else !decide (RawQ.x (Prod.fst (chordT a b c d e f g h)) = RawQ.x (Prod.fst (chordT e f g h a b c d))) then true else decide (sgn (Rat.num (RawQ.x (Prod.fst (chordT a b c d e f g h)))) < 0) then true else decide (cmpQ (RawQ.x (Prod.fst (chordT a b c d e f g h))) (intQ 1) > 0));let x2z := (chordT (Prod.fst (Prod.fst (mulT i j m l a b c d))) (Prod.fst (Prod.snd (Prod.fst (mulT i j m l a b c d)))) (Prod.fst (Prod.snd (Prod.snd (Prod.fst (mulT i j m l a b c d))))) (Prod.fst (Prod.snd (Prod.snd (Prod.snd (Prod.fst (mulT i j m l a b c d)))))) (Prod.fst (Prod.fst (mulT i j m l e f g h))) (Prod.fst (Prod.snd (Prod.fst (mulT i j m l e f g h)))) (Prod.fst (Prod.snd (Prod.snd (Prod.fst (mulT i j m l e f g h))))) (Prod.fst (Prod.snd (Prod.snd (Prod.snd (Prod.fst (mulT i j m l e f g h)))))));let x3z := (Prod.fst (chordT a b c d e f g h));let x4z := (bif bif bif !decide (RawQ.x x3z = RawQ.x x3z) then true else Prod.fst (Prod.snd (chordT e f g h a b c d)) != 0 then true else !decide (RawQ.x x3z = RawQ.x (Prod.fst (chordT e f g h a b c d))) then true else decide (sgn (Rat.num (RawQ.x x3z)) < 0));let x5z := (Prod.fst (chordT a b c d e f g h) = Prod.fst (chordT a b c d e f g h) ∧ Prod.fst (chordT a b c d e f g h) = Prod.fst (chordT a b c d e f g h) ∧ Prod.fst (chordT e f g h a b c d) = Prod.fst (chordT e f g h a b c d) ∧ True);let x6z := (bif bif !decide (RawQ.x x3z = RawQ.x x3z) then true else Prod.fst (Prod.snd (chordT e f g h a b c d)) != 0 then true else !decide (RawQ.x x3z = RawQ.x (Prod.fst (chordT e f g h a b c d))));let x7z := (bif !decide (RawQ.x x3z = RawQ.x x3z) then true else Prod.fst (Prod.snd (chordT e f g h a b c d)) != 0);let x8z := ((Prod.fst (Prod.snd x0z) != 0) == false);(True ∧ True) ∧ (True ∧ True) ∧ (True ∧ True) ∧ (True ∧ True) ∧ ifB (Prod.fst (Prod.snd (chordT a b c d e f g h)) != Prod.fst (Prod.snd (chordT a b c d e f g h))) (True ∧ asT Bool false = true ∧ True) (ifB (Prod.fst (Prod.snd (chordT a b c d e f g h)) != 0) (True ∧ asT Bool true = true ∧ True) ((RawQ.ok x3z = true ∧ RawQ.ok x3z = true ∧ (rsz (RawQ.x x3z) ≤ 190000000 ∧ rsz (RawQ.x x3z) ≤ 190000000) ∧ (((!decide (RawQ.x x3z = RawQ.x x3z)) == false) = true → ((!decide (RawQ.x x3z = RawQ.x x3z)) == false) = true ∧ True) ∧ ((!decide (RawQ.x x3z = RawQ.x x3z)) = false → ((!decide (RawQ.x x3z = RawQ.x x3z)) == false) = true) ∧ ((x7z == false) = true → (x7z == false) = true ∧ (x7z == false) = true ∧ RawQ.ok x3z = true ∧ RawQ.ok (Prod.fst (chordT e f g h a b c d)) = true ∧ (rsz (RawQ.x x3z) ≤ 190000000 ∧ rsz (RawQ.x (Prod.fst (chordT e f g h a b c d))) ≤ 190000000) ∧ True) ∧ ((x7z == false) = true → (x7z == false) = true ∧ True) ∧ (x7z = false → (x7z == false) = true) ∧ ((x6z == false) = true → (x6z == false) = true ∧ RawQ.ok x3z = true ∧ rsz (RawQ.x x3z) ≤ 190000000 ∧ True) ∧ ((x6z == false) = true → (x6z == false) = true ∧ True) ∧ (x6z = false → (x6z == false) = true) ∧ ((x4z == false) = true → wordP 1 ∧ True) ∧ ((x4z == false) = true → (x4z == false) = true ∧ (x4z == false) = true ∧ RawQ.ok x3z = true ∧ s19 (RawQ.x x3z) (intQ 1) ∧ True) ∧ ((x4z == false) = true → (x4z == false) = true ∧ True) ∧ (x4z = false → (x4z == false) = true) ∧ ((x1z == false) = true → (x1z == false) = true ∧ RawQ.ok x3z = true ∧ rsz (RawQ.x x3z) ≤ 190000000 ∧ True) ∧ ((x1z == false) = true → (x1z == false) = true ∧ True) ∧ ((x1z == false) = true → (x1z == false) = true ∧ (x1z == false) = true ∧ True ∧ True) ∧ ((x1z == false) = true → (x1z == false) = true ∧ (x1z == false) = true ∧ True) ∧ (x1z = false → (x1z == false) = true) ∧ True) ∧ ifB (bif bif bif bif bif !decide (RawQ.x x3z = RawQ.x x3z) then true else Prod.fst (Prod.snd (chordT e f g h a b c d)) != 0 then true else !decide (RawQ.x x3z = RawQ.x (Prod.fst (chordT e f g h a b c d))) then true else decide (sgn (Rat.num (RawQ.x x3z)) < 0) then true else decide (cmpQ (RawQ.x x3z) (intQ 1) > 0) then true else (sgn (Rat.num (RawQ.x x3z)) == 0) != sameT a b c d e f g h) (True ∧ asT Bool false = true ∧ True) ((asT Int 0 ≤ 0 ∧ asT Int 0 < natI (List.length (true :: false :: nilT Bool)) ∧ True) ∧ (True ∧ True) ∧ (True ∧ True) ∧ (True ∧ True) ∧ (True ∧ True) ∧ ((((Prod.fst (Prod.snd (mulT i j m l a b c d)) != 0) == false) = true → ((Prod.fst (Prod.snd (mulT i j m l a b c d)) != 0) == false) = true ∧ True) ∧ ((Prod.fst (Prod.snd (mulT i j m l a b c d)) != 0) = false → ((Prod.fst (Prod.snd (mulT i j m l a b c d)) != 0) == false) = true) ∧ True) ∧ ifB (bif Prod.fst (Prod.snd (mulT i j m l a b c d)) != 0 then true else Prod.fst (Prod.snd (mulT i j m l e f g h)) != 0) (x5z ∧ asT Bool true = true ∧ (asT Int 0 ≤ 1 ∧ asT Int 1 < natI (List.length (true :: false :: nilT Bool)) ∧ True) ∧ (True ∧ True) ∧ (True ∧ True) ∧ ((((Prod.fst (Prod.snd (mulT a b c d i j m l)) != 0) == false) = true → ((Prod.fst (Prod.snd (mulT a b c d i j m l)) != 0) == false) = true ∧ True) ∧ ((Prod.fst (Prod.snd (mulT a b c d i j m l)) != 0) = false → ((Prod.fst (Prod.snd (mulT a b c d i j m l)) != 0) == false) = true) ∧ True) ∧ ifB (bif Prod.fst (Prod.snd (mulT a b c d i j m l)) != 0 then true else Prod.fst (Prod.snd (mulT e f g h i j m l)) != 0) (x5z ∧ asT Bool true = true ∧ True ∧ asT Bool true = true ∧ True) ((True ∧ True) ∧ ((x8z = true → x8z = true ∧ x8z = true ∧ RawQ.ok x3z = true ∧ RawQ.ok (Prod.fst x0z) = true ∧ (rsz (RawQ.x x3z) ≤ 190000000 ∧ rsz (RawQ.x (Prod.fst x0z)) ≤ 190000000) ∧ True) ∧ (x8z = true → x8z = true ∧ True) ∧ ((Prod.fst (Prod.snd x0z) != 0) = false → x8z = true) ∧ True) ∧ ifB (bif Prod.fst (Prod.snd x0z) != 0 then true else !decide (RawQ.x x3z = RawQ.x (Prod.fst x0z))) (True ∧ asT Bool false = true ∧ True) (x5z ∧ asT Bool true = true ∧ True ∧ asT Bool true = true ∧ True))) ((True ∧ True) ∧ ((((Prod.fst (Prod.snd x2z) != 0) == false) = true → ((Prod.fst (Prod.snd x2z) != 0) == false) = true ∧ ((Prod.fst (Prod.snd x2z) != 0) == false) = true ∧ RawQ.ok x3z = true ∧ RawQ.ok (Prod.fst x2z) = true ∧ (rsz (RawQ.x x3z) ≤ 190000000 ∧ rsz (RawQ.x (Prod.fst x2z)) ≤ 190000000) ∧ True) ∧ (((Prod.fst (Prod.snd x2z) != 0) == false) = true → ((Prod.fst (Prod.snd x2z) != 0) == false) = true ∧ True) ∧ ((Prod.fst (Prod.snd x2z) != 0) = false → ((Prod.fst (Prod.snd x2z) != 0) == false) = true) ∧ True) ∧ ifB (bif Prod.fst (Prod.snd x2z) != 0 then true else !decide (RawQ.x x3z = RawQ.x (Prod.fst x2z))) (True ∧ asT Bool false = true ∧ True) (x5z ∧ asT Bool true = true ∧ (asT Int 0 ≤ 1 ∧ asT Int 1 < natI (List.length (true :: false :: nilT Bool)) ∧ True) ∧ (True ∧ True) ∧ (True ∧ True) ∧ ((((Prod.fst (Prod.snd (mulT a b c d i j m l)) != 0) == false) = true → ((Prod.fst (Prod.snd (mulT a b c d i j m l)) != 0) == false) = true ∧ True) ∧ ((Prod.fst (Prod.snd (mulT a b c d i j m l)) != 0) = false → ((Prod.fst (Prod.snd (mulT a b c d i j m l)) != 0) == false) = true) ∧ True) ∧ ifB (bif Prod.fst (Prod.snd (mulT a b c d i j m l)) != 0 then true else Prod.fst (Prod.snd (mulT e f g h i j m l)) != 0) (x5z ∧ asT Bool true = true ∧ True ∧ asT Bool true = true ∧ True) ((True ∧ True) ∧ ((x8z = true → x8z = true ∧ x8z = true ∧ RawQ.ok x3z = true ∧ RawQ.ok (Prod.fst x0z) = true ∧ (rsz (RawQ.x x3z) ≤ 190000000 ∧ rsz (RawQ.x (Prod.fst x0z)) ≤ 190000000) ∧ True) ∧ (x8z = true → x8z = true ∧ True) ∧ ((Prod.fst (Prod.snd x0z) != 0) = false → x8z = true) ∧ True) ∧ ifB (bif Prod.fst (Prod.snd x0z) != 0 then true else !decide (RawQ.x x3z = RawQ.x (Prod.fst x0z))) (True ∧ asT Bool false = true ∧ True) (x5z ∧ asT Bool true = true ∧ True ∧ asT Bool true = true ∧ True)))))))) (by kernel_rfl) ?_
  dsimp only [intQ,natI,asT,nilT] at *
  by_cases k : qcode2 a b c d e f g h = 0
  · obtain ⟨hp,hq⟩ := qcode2_zero.1 k
    have h2 : qcode2 e f g h a b c d = 0 := qcode2_zero.2 ⟨hq,hp⟩
    have n1 := (qcode_ok hp).1
    have n2 := (qcode_ok hq).1
    have hX : chordT a b c d e f g h = (rawQ (chordQ a b c d e f g h),0,()) := if_pos k
    have hY : chordT e f g h a b c d = (rawQ (chordQ a b c d e f g h),0,()) := by rw [chordQ_comm];exact if_pos h2
    obtain ⟨xa,xb,xc,xd,xv,ex,dx⟩ := mulT_cases (e := i) (f := j) (g := m) (h := l) hp
    obtain ⟨ya,yb,yc,yd,yv,ey,dy⟩ := mulT_cases (e := i) (f := j) (g := m) (h := l) hq
    have hXY : xv = 0 → yv = 0 → chordT xa xb xc xd ya yb yc yd = (rawQ (chordQ a b c d e f g h),0,()) := fun h1 h2 => by
      obtain ⟨_,hr,k1,G,hG,g0,g1,g2,g3⟩ := dx.resolve_left (fun h => h h1)
      obtain ⟨_,_,k2,H,hH,i0,i1,i2,i3⟩ := dy.resolve_left (fun h => h h2)
      rw [← chord_right (qcode_ok hr).1 hG hH g0 g1 g2 g3 i0 i1 i2 i3]
      exact if_pos (qcode2_zero.2 ⟨k1,k2⟩)
    obtain ⟨za,zb,zc,zd,zv,ua,ub,uc,ud,uv,ez,eu,hZU⟩ : ∃ za zb zc zd zv ua ub uc ud uv : Int,mulT i j m l a b c d = ((za,zb,zc,zd,()),zv,()) ∧ mulT i j m l e f g h = ((ua,ub,uc,ud,()),uv,()) ∧
        (zv = 0 → uv = 0 → chordT za zb zc zd ua ub uc ud = (rawQ (chordQ a b c d e f g h),0,())) := by
      by_cases hr : qcode i j m l = 0
      · obtain ⟨za,zb,zc,zd,zv,ez,dz⟩ := mulT_cases (e := a) (f := b) (g := c) (h := d) hr
        obtain ⟨ua,ub,uc,ud,uv,eu,du⟩ := mulT_cases (e := e) (f := f) (g := g) (h := h) hr
        refine ⟨_,_,_,_,_,_,_,_,_,_,ez,eu,fun hz hu => ?_⟩
        obtain ⟨_,_,k1,G,hG,g0,g1,g2,g3⟩ := dz.resolve_left (fun h => h hz)
        obtain ⟨_,_,k2,H,hH,i0,i1,i2,i3⟩ := du.resolve_left (fun h => h hu)
        rw [← chord_left (qcode_ok hr).1 hG hH g0 g1 g2 g3 i0 i1 i2 i3]
        exact if_pos (qcode2_zero.2 ⟨k1,k2⟩)
      · have hm : ∀ x y z u,mulT i j m l x y z u = ((0,0,0,0,()),qcode2 i j m l x y z u,()) := fun x y z u => if_neg (fun h => hr (qcode2_zero.1 h).1)
        exact ⟨_,_,_,_,_,_,_,_,_,_,hm a b c d,hm e f g h,fun hz => absurd (qcode2_zero.1 hz).1 hr⟩
    have hs := chord_sign n1 n2
    have hrz : rsz (chordQ a b c d e f g h) ≤ 190000000 := by
      obtain ⟨_,oa,ob,oc,od⟩ := qcode_ok hp
      obtain ⟨_,oe,of,og,oh⟩ := qcode_ok hq
      obtain ⟨hk10,hk11⟩ := normI_bound oa ob oc od
      obtain ⟨hk20,hk21⟩ := normI_bound oe of og oh
      have hu1 := isz_13 hk10 hk11
      have hu2 := isz_13 hk20 hk21
      have hu3 := isz_13 (qdot_bound oa ob oc od oe of og oh).1 (qdot_bound oa ob oc od oe of og oh).2
      have hu4 := isz_mul (normI a b c d) (normI e f g h)
      have hu5 := isz_mul (qdot a b c d e f g h) (qdot a b c d e f g h)
      have hu6 := rsz_divInt (qdot a b c d e f g h * qdot a b c d e f g h) (normI a b c d * normI e f g h) (by have := Int.mul_pos (normI_pos n1) (normI_pos n2);omega) (k := 4) (by omega) (by omega)
      have hu7 : rsz ((1 : Int) : Rat) ≤ 1 := by decide +kernel
      have hu8 := rsz_sub ((1 : Int) : Rat) (Rat.divInt (qdot a b c d e f g h * qdot a b c d e f g h) (normI a b c d * normI e f g h))
      unfold chordQ
      omega
    have hone : rsz ((1 : Int) : Rat) ≤ 190000000 := by decide +kernel
    have hw : wordP 1 := by unfold wordP;omega
    obtain ⟨sg,hsg,hsg0,hsg1⟩ : ∃ sg : Int,sgn (chordQ a b c d e f g h).num = sg ∧ decide (sg < 0) = false ∧ (sg == 0) = sameT a b c d e f g h := by
      rcases same_qdot hp hq (sameT_is a b c d e f g h) with ⟨e1,hE⟩ | ⟨e1,hE⟩
      · exact ⟨0,hs.1 hE,by decide,by rw [e1];rfl⟩
      · exact ⟨1,hs.2.1 hE,by decide,by rw [e1];rfl⟩
    have hkp : decide (cmpQ (chordQ a b c d e f g h) ((1 : Int) : Rat) > 0) = false := by
      have h9 := hs.2.2
      unfold cmpQ at *
      split
      · decide
      · split
        · rename_i k1 k2
          rw [if_neg k1,if_pos k2] at h9
          exact absurd rfl h9
        · decide
    rw [hX,hY,ex,ey,ez,eu]
    clear hs
    generalize chordQ a b c d e f g h = X at *
    generalize sameT a b c d e f g h = sm at *
    dsimp only [rawQ] at *
    have hkn : ¬ cmpQ X ((1 : Int) : Rat) > 0 := of_decide_eq_false hkp
    have hl2 : (0 : Int) ≤ 0 ∧ (0 : Int) < (([true,false].length : Nat) : Int) := by decide
    have hl3 : (0 : Int) ≤ 1 ∧ (1 : Int) < (([true,false].length : Nat) : Int) := by decide
    simp only [decide_true,hsg,hsg0,hsg1,hkn,decide_false,bne_self_eq_false,cond_false,Bool.not_true,beq_self_eq_true,ifB,true_and,and_true,implies_true,and_self,hrz,hone,hw,imp_self,s19,hl2,hl3]
    have eq1 : ∀ v : Int,v ≠ 0 → (v != 0) = true := fun v h => by simpa using h
    by_cases z0 : zv = 0
    · by_cases u0 : uv = 0
      · have hZ := hZU z0 u0
        by_cases x0 : xv = 0
        · by_cases y0 : yv = 0
          · have hX' := hXY x0 y0
            simp [z0,u0,x0,y0,hZ,hX',hrz]
          · simp [z0,u0,x0,eq1 _ y0,hZ,hrz]
        · simp [z0,u0,eq1 _ x0,hZ,hrz]
      · by_cases x0 : xv = 0
        · by_cases y0 : yv = 0
          · have hX' := hXY x0 y0
            simp [z0,eq1 _ u0,x0,y0,hX',hrz]
          · simp [z0,eq1 _ u0,x0,eq1 _ y0]
        · simp [z0,eq1 _ u0,eq1 _ x0]
    · by_cases x0 : xv = 0
      · by_cases y0 : yv = 0
        · have hX' := hXY x0 y0
          simp [eq1 _ z0,x0,y0,hX',hrz]
        · simp [eq1 _ z0,x0,eq1 _ y0]
      · simp [eq1 _ z0,eq1 _ x0]
  · have ee : chordT a b c d e f g h = (rawZ,qcode2 a b c d e f g h,()) := if_neg k
    have kb : (qcode2 a b c d e f g h != 0) = true := by simpa using k
    have kk : (qcode2 a b c d e f g h != qcode2 a b c d e f g h) = false := by simp
    rw [ee]
    dsimp only
    rw [kb,kk]
    exact ⟨⟨trivial,trivial⟩,⟨trivial,trivial⟩,⟨trivial,trivial⟩,⟨trivial,trivial⟩,trivial,rfl,trivial⟩
theorem vchords_holds : Rows.RotationChordsSaid := rotationChords_frame (fun a b c d e f g h i j k l _ _ _ _ _ _ _ _ _ _ _ _ w => by
  refine (chords_ctr (fun _ => False) w [.agg #[.int .i64 a,.int .i64 b,.int .i64 c,.int .i64 d],.agg #[.int .i64 e,.int .i64 f,.int .i64 g,.int .i64 h],.agg #[.int .i64 i,.int .i64 j,.int .i64 k,.int .i64 l]] ((a,b,c,d,()),(e,f,g,h,()),(i,j,k,l,()),()) (fun q h => h.elim) ⟨_,_,rfl,v_quat a b c d,_,_,rfl,v_quat e f g h,_,_,rfl,v_quat i j k l,rfl⟩ trivial).mono ?_
  rintro o w' ⟨v,rfl,hr,hb⟩
  have hr : vrep _ w' .bool v true := hr
  rw [bool_v hr]
  exact ⟨rfl,hb⟩)
end Go.Proofs.YtidfgdchcpmnfaaGreat
