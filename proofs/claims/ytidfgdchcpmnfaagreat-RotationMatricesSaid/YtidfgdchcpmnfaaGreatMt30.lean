/-
  Lemmas for the theorem vmats_holds, part 30 of 32.
-/
import Derived.Test.YtidfgdchcpmnfaaGreatMt11
import Derived.Test.YtidfgdchcpmnfaaGreatMt29
namespace Go.Proofs.YtidfgdchcpmnfaaGreat
open Go Go.RowKit
set_option maxRecDepth 100000
set_option maxHeartbeats 1000000
set_option linter.unusedVariables false
set_option linter.unusedSimpArgs false
def cParts : Ctr := ⟨[tQuat],[.arr 4 tI],fun x => True,fun x => ([x.1.1,x.1.2.1,x.1.2.2.1,x.1.2.2.2.1],())⟩
theorem parts_ctr : CtrOk Tryz.prog 81 cParts := by
  refine ctr_fn LP [2] Tryz.func81 rfl (by decide) (fun x => []) (fun x hp => ?_)
  obtain ⟨⟨a,b,c,d,v⟩,u⟩ := x
  change Int at a;change Int at b;change Int at c;change Int at d
  refine vc_of (True ∧ List.getD (a :: b :: c :: d :: nilT Int) 0 0 :: List.getD (a :: b :: c :: d :: nilT Int) (0 + 1) 0 :: List.getD (a :: b :: c :: d :: nilT Int) (0 + 1 + 1) 0 :: List.getD (a :: b :: c :: d :: nilT Int) (0 + 1 + 1 + 1) 0 :: nilT Int = a :: b :: c :: d :: nilT Int ∧ True) (by kernel_rfl) ?_
  exact ⟨trivial,rfl,trivial⟩
noncomputable def LB1 : Lib := LP.add 81 cParts parts_ctr
theorem check_ctr : CtrOk Tryz.prog 28 (cHI (fun _ _ _ _ => True) qcode) := by
  refine ctr_fn LB1 [] Tryz.func28 rfl (by decide) (fun x => [.rounds 5 [10] []]) (fun x hp => ?_)
  obtain ⟨⟨a,b,c,d,v⟩,u⟩ := x
  change Int at a;change Int at b;change Int at c;change Int at d
  refine vc_of (ifB (eqI a 0 && (eqI b 0 && (eqI c 0 && (eqI d 0 && true)))) (True ∧ 1 = qcode a b c d ∧ True) ((True ∧ True) ∧ (asT Int 0 ≤ 0 ∧ asT Int 0 < natI 4 ∧ True) ∧ (((decide (List.getD (a :: b :: c :: d :: nilT Int) 0 0 < -1048576) == false) = true → (decide (List.getD (a :: b :: c :: d :: nilT Int) 0 0 < -1048576) == false) = true ∧ True) ∧ (decide (List.getD (a :: b :: c :: d :: nilT Int) 0 0 < -1048576) = false → (decide (List.getD (a :: b :: c :: d :: nilT Int) 0 0 < -1048576) == false) = true) ∧ True) ∧ ifB (bif decide (List.getD (a :: b :: c :: d :: nilT Int) 0 0 < -1048576) then true else decide (List.getD (a :: b :: c :: d :: nilT Int) 0 0 > 1048576)) (True ∧ 3 = qcode a b c d ∧ True) ((asT Int 0 ≤ 1 ∧ asT Int 1 < natI 4 ∧ True) ∧ (((decide (List.getD (a :: b :: c :: d :: nilT Int) 1 0 < -1048576) == false) = true → (decide (List.getD (a :: b :: c :: d :: nilT Int) 1 0 < -1048576) == false) = true ∧ True) ∧ (decide (List.getD (a :: b :: c :: d :: nilT Int) 1 0 < -1048576) = false → (decide (List.getD (a :: b :: c :: d :: nilT Int) 1 0 < -1048576) == false) = true) ∧ True) ∧ ifB (bif decide (List.getD (a :: b :: c :: d :: nilT Int) 1 0 < -1048576) then true else decide (List.getD (a :: b :: c :: d :: nilT Int) 1 0 > 1048576)) (True ∧ 3 = qcode a b c d ∧ True) ((asT Int 0 ≤ 2 ∧ asT Int 2 < natI 4 ∧ True) ∧ (((decide (List.getD (a :: b :: c :: d :: nilT Int) 2 0 < -1048576) == false) = true → (decide (List.getD (a :: b :: c :: d :: nilT Int) 2 0 < -1048576) == false) = true ∧ True) ∧ (decide (List.getD (a :: b :: c :: d :: nilT Int) 2 0 < -1048576) = false → (decide (List.getD (a :: b :: c :: d :: nilT Int) 2 0 < -1048576) == false) = true) ∧ True) ∧ ifB (bif decide (List.getD (a :: b :: c :: d :: nilT Int) 2 0 < -1048576) then true else decide (List.getD (a :: b :: c :: d :: nilT Int) 2 0 > 1048576)) (True ∧ 3 = qcode a b c d ∧ True) ((asT Int 0 ≤ 3 ∧ asT Int 3 < natI 4 ∧ True) ∧ (((decide (List.getD (a :: b :: c :: d :: nilT Int) 3 0 < -1048576) == false) = true → (decide (List.getD (a :: b :: c :: d :: nilT Int) 3 0 < -1048576) == false) = true ∧ True) ∧ (decide (List.getD (a :: b :: c :: d :: nilT Int) 3 0 < -1048576) = false → (decide (List.getD (a :: b :: c :: d :: nilT Int) 3 0 < -1048576) == false) = true) ∧ True) ∧ ifB (bif decide (List.getD (a :: b :: c :: d :: nilT Int) 3 0 < -1048576) then true else decide (List.getD (a :: b :: c :: d :: nilT Int) 3 0 > 1048576)) (True ∧ 3 = qcode a b c d ∧ True) (True ∧ 0 = qcode a b c d ∧ True)))))) (by kernel_rfl) ?_
  have e : ∀ q : Int,(bif decide (q < -1048576) then true else decide (q > 1048576)) = !decide (okc q) := fun q => by
    rw [Bool.eq_iff_iff]
    by_cases h : okc q
    · have h' := h;unfold okc at h'
      rw [decide_eq_false (p := q < -1048576) (by omega),decide_eq_false (p := q > 1048576) (by omega),decide_eq_true h]
      exact Iff.rfl
    · have h' : q < -1048576 ∨ q > 1048576 := by unfold okc at h;omega
      rw [decide_eq_false h]
      rcases h' with h' | h'
      · rw [decide_eq_true h'];exact Iff.rfl
      · rw [decide_eq_true h'];cases decide (q < -1048576) <;> exact Iff.rfl
  dsimp only [natI,asT,nilT] at *
  simp only [e,List.getD_cons_zero,List.getD_cons_succ]
  simp only [eqI,ifB_iff,qcode,Bool.and_eq_true,Bool.not_eq_true',decide_eq_false_iff_not,Bool.not_eq_false',decide_eq_true_eq,beq_iff_eq,and_true,true_and]
  refine ⟨fun h => (if_pos h).symm,fun h => ?_⟩
  have hz : ¬ (a = 0 ∧ b = 0 ∧ c = 0 ∧ d = 0) := by
    rintro ⟨rfl,rfl,rfl,rfl⟩
    simp at h
  simp only [if_neg hz]
  exact ⟨⟨by omega,by omega⟩,⟨id,id⟩,fun k => (if_neg (fun e => k e.1)).symm,fun ka => ⟨⟨by omega,by omega⟩,⟨id,id⟩,fun k => (if_neg (fun e => k e.2.1)).symm,fun kb => ⟨⟨by omega,by omega⟩,⟨id,id⟩,fun k => (if_neg (fun e => k e.2.2.1)).symm,fun kc => ⟨⟨by omega,by omega⟩,⟨id,id⟩,fun k => (if_neg (fun e => k e.2.2.2)).symm,fun kd => (if_pos ⟨ka,kb,kc,kd⟩).symm⟩⟩⟩⟩
theorem norm_ctr : CtrOk Tryz.prog 65 (cHI (fun a b c d => okc a ∧ okc b ∧ okc c ∧ okc d) normI) := by
  refine ctr_fn LB1 [] Tryz.func65 rfl (by decide) (fun x => []) (fun x hp => ?_)
  obtain ⟨⟨a,b,c,d,v⟩,u⟩ := x
  change Int at a;change Int at b;change Int at c;change Int at d
  refine vc_of (True ∧ IntKind.wrap IntKind.i64 (IntKind.wrap IntKind.i64 (IntKind.wrap IntKind.i64 (IntKind.wrap IntKind.i64 (a * a) + IntKind.wrap IntKind.i64 (b * b)) + IntKind.wrap IntKind.i64 (c * c)) + IntKind.wrap IntKind.i64 (d * d)) = normI a b c d ∧ True) (by kernel_rfl) ?_
  obtain ⟨ha,hb,hc,hd⟩ := hp
  obtain ⟨p0,p1⟩ := okc_mul ha ha
  obtain ⟨p2,p3⟩ := okc_mul hb hb
  obtain ⟨p4,p5⟩ := okc_mul hc hc
  obtain ⟨p6,p7⟩ := okc_mul hd hd
  refine ⟨trivial,?_,trivial⟩
  dsimp only at p0 p1 p2 p3 p4 p5 p6 p7
  rw [wrap_id (n := a * a) (by omega) (by omega),wrap_id (n := b * b) (by omega) (by omega),wrap_id (n := c * c) (by omega) (by omega),wrap_id (n := d * d) (by omega) (by omega),wrap_id (n := a * a + b * b) (by omega) (by omega),wrap_id (n := a * a + b * b + c * c) (by omega) (by omega),wrap_id (by omega) (by omega)]
  rfl
theorem primT_congr {X Y : Nat → Int} (h : ∀ k,k < 4 → X k = Y k) : primT X = primT Y := by
  have hg : gseq X 4 = gseq Y 4 := by simp only [gseq,h 0 (by omega),h 1 (by omega),h 2 (by omega),h 3 (by omega)]
  have hf : fseq X 4 = fseq Y 4 := by simp only [fseq,h 0 (by omega),h 1 (by omega),h 2 (by omega),h 3 (by omega)]
  have hG : primG X = primG Y := by unfold primG;rw [hg,hf]
  have hn : ∀ k,k < 4 → primN X k = primN Y k := fun k hk => by unfold primN;rw [h k hk,hG]
  have ho : primOk X ↔ primOk Y := ⟨fun e k hk => hn k hk ▸ e k hk,fun e k hk => (hn k hk).symm ▸ e k hk⟩
  unfold primT
  by_cases e : primOk Y
  · rw [if_pos e,if_pos (ho.2 e),hn 0 (by omega),hn 1 (by omega),hn 2 (by omega),hn 3 (by omega)]
  · rw [if_neg e,if_neg (fun e' => e (ho.1 e'))]
def cRed : Ctr := ⟨[tI,tI,tI,tI],[tQuat,tI],fun x => (wordP x.1 ∧ wordP x.2.1 ∧ wordP x.2.2.1 ∧ wordP x.2.2.2.1) ∧ ¬ ((show Int from x.1) = 0 ∧ (show Int from x.2.1) = 0 ∧ (show Int from x.2.2.1) = 0 ∧ (show Int from x.2.2.2.1) = 0),fun x => primT (xs4 x.1 x.2.1 x.2.2.1 x.2.2.2.1)⟩
theorem reduced_ctr : CtrOk Tryz.prog 67 cRed := by
  refine ctr_fn LB1 [8] Tryz.func67 rfl (by decide) (fun x => []) (fun x hp => ?_)
  obtain ⟨a,b,c,d,u⟩ := x
  change Int at a;change Int at b;change Int at c;change Int at d
  refine vc_of ((wordP a ∧ wordP b ∧ wordP c ∧ wordP d ∧ (List.length (a :: b :: c :: d :: nilT Int) = 4 ∧ (∀ (j : Nat),j < 4 → isz (xsL (a :: b :: c :: d :: nilT Int) j) ≤ 400000000) ∧ ∃ (j : Nat),j < 4 ∧ xsL (a :: b :: c :: d :: nilT Int) j ≠ 0) ∧ True) ∧ True ∧ (Prod.fst (Prod.fst (primT (xsL (a :: b :: c :: d :: nilT Int)))),Prod.fst (Prod.snd (Prod.fst (primT (xsL (a :: b :: c :: d :: nilT Int))))),Prod.fst (Prod.snd (Prod.snd (Prod.fst (primT (xsL (a :: b :: c :: d :: nilT Int)))))),Prod.fst (Prod.snd (Prod.snd (Prod.snd (Prod.fst (primT (xsL (a :: b :: c :: d :: nilT Int))))))),()) = Prod.fst (primT (xs4 a b c d)) ∧ True ∧ Prod.fst (Prod.snd (primT (xsL (a :: b :: c :: d :: nilT Int)))) = Prod.fst (Prod.snd (primT (xs4 a b c d))) ∧ True) (by kernel_rfl) ?_
  obtain ⟨⟨ha,hb,hc,hd⟩,hn⟩ := hp
  dsimp only at ha hb hc hd hn
  dsimp only [natI,asT,nilT] at *
  have hx : ∀ k,k < 4 → xsL [a,b,c,d] k = xs4 a b c d k := fun k hk => by
    match k,hk with
    | 0,_ => rfl
    | 1,_ => rfl
    | 2,_ => rfl
    | 3,_ => rfl
  rw [primT_congr hx]
  refine ⟨⟨ha,hb,hc,hd,⟨rfl,fun j hj => ?_,?_⟩,trivial⟩,trivial,rfl,trivial,rfl,trivial⟩
  · rw [hx j hj]
    match j,hj with
    | 0,_ => exact isz_word ha.1 ha.2
    | 1,_ => exact isz_word hb.1 hb.2
    | 2,_ => exact isz_word hc.1 hc.2
    | 3,_ => exact isz_word hd.1 hd.2
  · by_cases h0 : a = 0
    · by_cases h1 : b = 0
      · by_cases h2 : c = 0
        · exact ⟨3,by omega,fun h3 => hn ⟨h0,h1,h2,h3⟩⟩
        · exact ⟨2,by omega,h2⟩
      · exact ⟨1,by omega,h1⟩
    · exact ⟨0,by omega,h0⟩
noncomputable def LB2 : Lib := (((LB1.add 28 (cHI (fun _ _ _ _ => True) qcode) check_ctr).add 65 (cHI (fun a b c d => okc a ∧ okc b ∧ okc c ∧ okc d) normI) norm_ctr).add 67 cRed reduced_ctr)
end Go.Proofs.YtidfgdchcpmnfaaGreat
namespace Go.Proofs.YtidfgdchcpmnfaaGreat
open Go Go.RowKit
set_option maxRecDepth 100000
set_option maxHeartbeats 1000000
set_option linter.unusedVariables false
set_option linter.unusedSimpArgs false
theorem okc_word {q : Int} (h : okc q) : wordP q := by
  unfold okc at h
  unfold wordP
  omega
theorem canon_ctr : CtrOk Tryz.prog 18 (cHQ (fun _ _ _ _ => True) canonT) := by
  refine ctr_fn LB2 [2] Tryz.func18 rfl (by decide) (fun x => []) (fun x hp => ?_)
  obtain ⟨⟨a,b,c,d,v⟩,u⟩ := x
  change Int at a;change Int at b;change Int at c;change Int at d
  refine vc_of ((True ∧ True) ∧ ifB (qcode a b c d != 0) (True ∧ (0,0,0,0,()) = Prod.fst (canonT a b c d) ∧ True ∧ qcode a b c d = Prod.fst (Prod.snd (canonT a b c d)) ∧ True) ((((wordP a ∧ wordP b ∧ wordP c ∧ wordP d) ∧ ¬(a = 0 ∧ b = 0 ∧ c = 0 ∧ d = 0)) ∧ True) ∧ True ∧ (Prod.fst (Prod.fst (primT (xs4 a b c d))),Prod.fst (Prod.snd (Prod.fst (primT (xs4 a b c d)))),Prod.fst (Prod.snd (Prod.snd (Prod.fst (primT (xs4 a b c d))))),Prod.fst (Prod.snd (Prod.snd (Prod.snd (Prod.fst (primT (xs4 a b c d)))))),()) = Prod.fst (canonT a b c d) ∧ True ∧ Prod.fst (Prod.snd (primT (xs4 a b c d))) = Prod.fst (Prod.snd (canonT a b c d)) ∧ True)) (by kernel_rfl) ?_
  refine ⟨⟨trivial,trivial⟩,ifB_iff.2 ⟨fun h => ?_,fun h => ?_⟩⟩
  · have h := bne_iff_ne.1 h
    have e : canonT a b c d = ((0,0,0,0,()),qcode a b c d,()) := if_neg h
    rw [e]
    exact ⟨trivial,rfl,trivial,rfl,trivial⟩
  · have h : qcode a b c d = 0 := by simpa using h
    obtain ⟨hn,oa,ob,oc,od⟩ := qcode_ok h
    have e : canonT a b c d = primT (xs4 a b c d) := if_pos h
    rw [e]
    exact ⟨⟨⟨⟨okc_word oa,okc_word ob,okc_word oc,okc_word od⟩,hn⟩,trivial⟩,trivial,rfl,trivial,rfl,trivial⟩
theorem conj_ctr : CtrOk Tryz.prog 33 (cHQ (fun _ _ _ _ => True) conjT) := by
  refine ctr_fn LB2 [2] Tryz.func33 rfl (by decide) (fun x => []) (fun x hp => ?_)
  obtain ⟨⟨a,b,c,d,v⟩,u⟩ := x
  change Int at a;change Int at b;change Int at c;change Int at d
  refine vc_of ((True ∧ True) ∧ ifB (qcode a b c d != 0) (True ∧ (0,0,0,0,()) = Prod.fst (conjT a b c d) ∧ True ∧ qcode a b c d = Prod.fst (Prod.snd (conjT a b c d)) ∧ True) ((((wordP a ∧ wordP (IntKind.wrap IntKind.i64 (0 - b)) ∧ wordP (IntKind.wrap IntKind.i64 (0 - c)) ∧ wordP (IntKind.wrap IntKind.i64 (0 - d))) ∧ ¬(a = 0 ∧ IntKind.wrap IntKind.i64 (0 - b) = 0 ∧ IntKind.wrap IntKind.i64 (0 - c) = 0 ∧ IntKind.wrap IntKind.i64 (0 - d) = 0)) ∧ True) ∧ True ∧ (Prod.fst (Prod.fst (primT (xs4 a (IntKind.wrap IntKind.i64 (0 - b)) (IntKind.wrap IntKind.i64 (0 - c)) (IntKind.wrap IntKind.i64 (0 - d))))),Prod.fst (Prod.snd (Prod.fst (primT (xs4 a (IntKind.wrap IntKind.i64 (0 - b)) (IntKind.wrap IntKind.i64 (0 - c)) (IntKind.wrap IntKind.i64 (0 - d)))))),Prod.fst (Prod.snd (Prod.snd (Prod.fst (primT (xs4 a (IntKind.wrap IntKind.i64 (0 - b)) (IntKind.wrap IntKind.i64 (0 - c)) (IntKind.wrap IntKind.i64 (0 - d))))))),Prod.fst (Prod.snd (Prod.snd (Prod.snd (Prod.fst (primT (xs4 a (IntKind.wrap IntKind.i64 (0 - b)) (IntKind.wrap IntKind.i64 (0 - c)) (IntKind.wrap IntKind.i64 (0 - d)))))))),()) = Prod.fst (conjT a b c d) ∧ True ∧ Prod.fst (Prod.snd (primT (xs4 a (IntKind.wrap IntKind.i64 (0 - b)) (IntKind.wrap IntKind.i64 (0 - c)) (IntKind.wrap IntKind.i64 (0 - d))))) = Prod.fst (Prod.snd (conjT a b c d)) ∧ True)) (by kernel_rfl) ?_
  refine ⟨⟨trivial,trivial⟩,ifB_iff.2 ⟨fun h => ?_,fun h => ?_⟩⟩
  · have h := bne_iff_ne.1 h
    have e : conjT a b c d = ((0,0,0,0,()),qcode a b c d,()) := if_neg h
    rw [e]
    exact ⟨trivial,rfl,trivial,rfl,trivial⟩
  · have h : qcode a b c d = 0 := by simpa using h
    obtain ⟨hn,oa,ob,oc,od⟩ := qcode_ok h
    have eb : IntKind.wrap IntKind.i64 (0 - b) = -b := by unfold okc at ob;rw [wrap_id (by omega) (by omega)];omega
    have nb : okc (-b) := by unfold okc at *;omega
    have ec : IntKind.wrap IntKind.i64 (0 - c) = -c := by unfold okc at oc;rw [wrap_id (by omega) (by omega)];omega
    have nc : okc (-c) := by unfold okc at *;omega
    have ed : IntKind.wrap IntKind.i64 (0 - d) = -d := by unfold okc at od;rw [wrap_id (by omega) (by omega)];omega
    have nd : okc (-d) := by unfold okc at *;omega
    rw [eb,ec,ed]
    have e : conjT a b c d = primT (xs4 a (-b) (-c) (-d)) := if_pos h
    rw [e]
    exact ⟨⟨⟨⟨okc_word oa,okc_word nb,okc_word nc,okc_word nd⟩,fun h => hn ⟨h.1,by omega,by omega,by omega⟩⟩,trivial⟩,trivial,rfl,trivial,rfl,trivial⟩
abbrev Q4 : Type := Int × Int × Int × Int × Unit
def qc (q : Q4) : Int := qcode q.1 q.2.1 q.2.2.1 q.2.2.2.1
def firstC (l : List Q4) : Int := match l with
  | [] => 0
  | q :: l => if qc q = 0 then firstC l else qc q
def cChk : Ctr := ⟨[.list tQuat],[tI],fun x => (show List Q4 from x.1).length ≤ 1000000000,fun x => (firstC x.1,())⟩
abbrev Chι (l : List Q4) : Type := {i : Nat // i ≤ l.length ∧ firstC l = firstC (l.drop i)}
theorem checked_ctr : CtrOk Tryz.prog 68 cChk := by
  refine ctr_fn LB2 [4] Tryz.func68 rfl (by decide) (fun x => [.inv (Chι x.1) (fun i => [(8,.val tI (i.1 : Int))]) (fun i => []) (fun i => (show List Q4 from x.1).length - i.1) ⟨0,Nat.zero_le _,rfl⟩ (fun _ => [])]) (fun x hp => ?_)
  obtain ⟨x,u⟩ := x
  change List Q4 at x
  refine vc_of ((asT Int 0 = natI 0 ∧ True) ∧ ∀ (i : Chι x),asT Bool true = true ∧ ifB (decide (natI (sval i) < natI (List.length x))) ((0 ≤ natI (sval i) ∧ natI (sval i) < natI (List.length x) ∧ True) ∧ (True ∧ True) ∧ ifB (qcode (Prod.fst (List.getD x (Int.toNat (natI (sval i))) (0,0,0,0,PUnit.unit))) (Prod.fst (Prod.snd (List.getD x (Int.toNat (natI (sval i))) (0,0,0,0,PUnit.unit)))) (Prod.fst (Prod.snd (Prod.snd (List.getD x (Int.toNat (natI (sval i))) (0,0,0,0,PUnit.unit))))) (Prod.fst (Prod.snd (Prod.snd (Prod.snd (List.getD x (Int.toNat (natI (sval i))) (0,0,0,0,PUnit.unit)))))) != 0) (True ∧ qcode (Prod.fst (List.getD x (Int.toNat (natI (sval i))) (0,0,0,0,PUnit.unit))) (Prod.fst (Prod.snd (List.getD x (Int.toNat (natI (sval i))) (0,0,0,0,PUnit.unit)))) (Prod.fst (Prod.snd (Prod.snd (List.getD x (Int.toNat (natI (sval i))) (0,0,0,0,PUnit.unit))))) (Prod.fst (Prod.snd (Prod.snd (Prod.snd (List.getD x (Int.toNat (natI (sval i))) (0,0,0,0,PUnit.unit)))))) = firstC x ∧ True) (∃ (i' : Chι x),List.length x - sval i' < List.length x - sval i ∧ IntKind.wrap IntKind.i64 (natI (sval i) + 1) = natI (sval i') ∧ True)) (True ∧ 0 = firstC x ∧ True)) (by kernel_rfl) ?_
  dsimp only [natI,sval,asT] at *
  have step : ∀ i : Nat,i < x.length → firstC (x.drop i) = if qc (x.getD i (0,0,0,0,())) = 0 then firstC (x.drop (i + 1)) else qc (x.getD i (0,0,0,0,())) := fun i hi => by
    rw [List.drop_eq_getElem_cons hi,List.getD_eq_getElem?_getD,List.getElem?_eq_getElem hi]
    rfl
  refine ⟨⟨rfl,trivial⟩,fun i => ⟨rfl,ifB_iff.2 ⟨fun h1 => ?_,fun h1 => ⟨trivial,?_,trivial⟩⟩⟩⟩
  all_goals
    obtain ⟨i,h2,h3⟩ := i
    dsimp only at h1 ⊢
    simp only [decide_eq_true_eq,decide_eq_false_iff_not,Int.ofNat_lt] at h1
  · have st := step i h1
    rw [Int.toNat_natCast]
    refine ⟨⟨by omega,by omega,trivial⟩,⟨trivial,trivial⟩,ifB_iff.2 ⟨fun h4 => ⟨trivial,?_,trivial⟩,fun h4 => ⟨⟨i + 1,h1,?_⟩,by simp only;omega,?_,trivial⟩⟩⟩
    · have h4 := bne_iff_ne.1 h4
      rw [h3,st]
      exact (if_neg h4).symm
    · have h4 := bne_eq_false_iff_eq.1 h4
      rw [h3,st]
      exact if_pos h4
    · rw [wrap_id (by omega) (by have := hp;dsimp only [cChk] at this;omega)];rfl
  · rw [h3,List.drop_eq_nil_of_le (by omega)];rfl
noncomputable def LC1 : Lib := ((LB2.add 18 (cHQ (fun _ _ _ _ => True) canonT) canon_ctr).add 33 (cHQ (fun _ _ _ _ => True) conjT) conj_ctr).add 68 cChk checked_ctr
theorem first2 (a b c d e f g h : Int) (v z : Unit) : firstC [(a,b,c,d,v),(e,f,g,h,z)] = qcode2 a b c d e f g h := by
  show (if qcode a b c d = 0 then (if qcode e f g h = 0 then 0 else qcode e f g h) else qcode a b c d) = if qcode a b c d = 0 then qcode e f g h else qcode a b c d
  by_cases h1 : qcode a b c d = 0
  · rw [if_pos h1,if_pos h1]
    by_cases h2 : qcode e f g h = 0
    · rw [if_pos h2,h2]
    · rw [if_neg h2]
  · rw [if_neg h1,if_neg h1]
theorem qmul_ctr : CtrOk Tryz.prog 26 (cHHQ mulT) := by
  refine ctr_fn LC1 [4] Tryz.func26 rfl (by decide) (fun x => []) (fun x hp => ?_)
  obtain ⟨⟨a,b,c,d,v⟩,⟨e,f,g,h,z⟩,u⟩ := x
  change Int at a;change Int at b;change Int at c;change Int at d;change Int at e;change Int at f;change Int at g;change Int at h
  change Unit at v;change Unit at z
  refine vc_of (let x0z := (IntKind.wrap IntKind.i64 (IntKind.wrap IntKind.i64 (IntKind.wrap IntKind.i64 (a * e) - IntKind.wrap IntKind.i64 (b * f)) - IntKind.wrap IntKind.i64 (c * g)) - IntKind.wrap IntKind.i64 (d * h));let x1z := (IntKind.wrap IntKind.i64 (IntKind.wrap IntKind.i64 (IntKind.wrap IntKind.i64 (a * f) + IntKind.wrap IntKind.i64 (b * e)) + IntKind.wrap IntKind.i64 (c * h)) - IntKind.wrap IntKind.i64 (d * g));let x2z := (primT (xs4 (IntKind.wrap IntKind.i64 x0z) (IntKind.wrap IntKind.i64 x1z) (IntKind.wrap IntKind.i64 (IntKind.wrap IntKind.i64 (IntKind.wrap IntKind.i64 (IntKind.wrap IntKind.i64 (a * g) - IntKind.wrap IntKind.i64 (b * h)) + IntKind.wrap IntKind.i64 (c * e)) + IntKind.wrap IntKind.i64 (d * f))) (IntKind.wrap IntKind.i64 (IntKind.wrap IntKind.i64 (IntKind.wrap IntKind.i64 (IntKind.wrap IntKind.i64 (a * h) + IntKind.wrap IntKind.i64 (b * g)) - IntKind.wrap IntKind.i64 (c * f)) + IntKind.wrap IntKind.i64 (d * e)))));(List.length ((a,b,c,d,v) :: (e,f,g,h,z) :: nilT (Int × Int × Int × Int × PUnit)) ≤ 1000000000 ∧ True) ∧ ifB (firstC ((a,b,c,d,v) :: (e,f,g,h,z) :: nilT (Int × Int × Int × Int × PUnit)) != 0) (True ∧ (0,0,0,0,()) = Prod.fst (mulT a b c d e f g h) ∧ True ∧ firstC ((a,b,c,d,v) :: (e,f,g,h,z) :: nilT (Int × Int × Int × Int × PUnit)) = Prod.fst (Prod.snd (mulT a b c d e f g h)) ∧ True) ((((wordP (IntKind.wrap IntKind.i64 x0z) ∧ wordP (IntKind.wrap IntKind.i64 x1z) ∧ wordP (IntKind.wrap IntKind.i64 (IntKind.wrap IntKind.i64 (IntKind.wrap IntKind.i64 (IntKind.wrap IntKind.i64 (a * g) - IntKind.wrap IntKind.i64 (b * h)) + IntKind.wrap IntKind.i64 (c * e)) + IntKind.wrap IntKind.i64 (d * f))) ∧ wordP (IntKind.wrap IntKind.i64 (IntKind.wrap IntKind.i64 (IntKind.wrap IntKind.i64 (IntKind.wrap IntKind.i64 (a * h) + IntKind.wrap IntKind.i64 (b * g)) - IntKind.wrap IntKind.i64 (c * f)) + IntKind.wrap IntKind.i64 (d * e)))) ∧ ¬(IntKind.wrap IntKind.i64 x0z = 0 ∧ IntKind.wrap IntKind.i64 x1z = 0 ∧ IntKind.wrap IntKind.i64 (IntKind.wrap IntKind.i64 (IntKind.wrap IntKind.i64 (IntKind.wrap IntKind.i64 (a * g) - IntKind.wrap IntKind.i64 (b * h)) + IntKind.wrap IntKind.i64 (c * e)) + IntKind.wrap IntKind.i64 (d * f)) = 0 ∧ IntKind.wrap IntKind.i64 (IntKind.wrap IntKind.i64 (IntKind.wrap IntKind.i64 (IntKind.wrap IntKind.i64 (a * h) + IntKind.wrap IntKind.i64 (b * g)) - IntKind.wrap IntKind.i64 (c * f)) + IntKind.wrap IntKind.i64 (d * e)) = 0)) ∧ True) ∧ True ∧ (Prod.fst (Prod.fst x2z),Prod.fst (Prod.snd (Prod.fst x2z)),Prod.fst (Prod.snd (Prod.snd (Prod.fst x2z))),Prod.fst (Prod.snd (Prod.snd (Prod.snd (Prod.fst x2z)))),()) = Prod.fst (mulT a b c d e f g h) ∧ True ∧ Prod.fst (Prod.snd x2z) = Prod.fst (Prod.snd (mulT a b c d e f g h)) ∧ True)) (by kernel_rfl) ?_
  dsimp only [nilT] at *
  have hf := first2 a b c d e f g h v z
  rw [hf]
  refine ⟨⟨by show 2 ≤ 1000000000;omega,trivial⟩,ifB_iff.2 ⟨fun k => ?_,fun k => ?_⟩⟩
  · have k := bne_iff_ne.1 k
    have ee : mulT a b c d e f g h = ((0,0,0,0,()),qcode2 a b c d e f g h,()) := if_neg k
    rw [ee]
    exact ⟨trivial,rfl,trivial,rfl,trivial⟩
  · have k : qcode2 a b c d e f g h = 0 := by simpa using k
    have k1 : qcode a b c d = 0 := by
      by_cases h1 : qcode a b c d = 0
      · exact h1
      · rw [qcode2,if_neg h1] at k;exact k
    have k2 : qcode e f g h = 0 := by rwa [qcode2,if_pos k1] at k
    obtain ⟨hn,oa,ob,oc,od⟩ := qcode_ok k1
    obtain ⟨hm,oe,of,og,oh⟩ := qcode_ok k2
    obtain ⟨pae0,pae1⟩ := okc_mul oa oe
    obtain ⟨paf0,paf1⟩ := okc_mul oa of
    obtain ⟨pag0,pag1⟩ := okc_mul oa og
    obtain ⟨pah0,pah1⟩ := okc_mul oa oh
    obtain ⟨pbe0,pbe1⟩ := okc_mul ob oe
    obtain ⟨pbf0,pbf1⟩ := okc_mul ob of
    obtain ⟨pbg0,pbg1⟩ := okc_mul ob og
    obtain ⟨pbh0,pbh1⟩ := okc_mul ob oh
    obtain ⟨pce0,pce1⟩ := okc_mul oc oe
    obtain ⟨pcf0,pcf1⟩ := okc_mul oc of
    obtain ⟨pcg0,pcg1⟩ := okc_mul oc og
    obtain ⟨pch0,pch1⟩ := okc_mul oc oh
    obtain ⟨pde0,pde1⟩ := okc_mul od oe
    obtain ⟨pdf0,pdf1⟩ := okc_mul od of
    obtain ⟨pdg0,pdg1⟩ := okc_mul od og
    obtain ⟨pdh0,pdh1⟩ := okc_mul od oh
    have ee : mulT a b c d e f g h = primT (qmulX a b c d e f g h) := if_pos k
    rw [ee]
    simp (disch := omega) only [wrap_id]
    refine ⟨⟨⟨⟨⟨by omega,by omega⟩,⟨by omega,by omega⟩,⟨by omega,by omega⟩,⟨by omega,by omega⟩⟩,qmul_ne hn hm⟩,trivial⟩,trivial,rfl,trivial,rfl,trivial⟩
noncomputable def LC2 : Lib := LC1.add 26 (cHHQ mulT) qmul_ctr
end Go.Proofs.YtidfgdchcpmnfaaGreat
namespace Go.Proofs.YtidfgdchcpmnfaaGreat
open Go Go.RowKit
set_option maxRecDepth 100000
set_option maxHeartbeats 1000000
set_option linter.unusedVariables false
set_option linter.unusedSimpArgs false
def qL (l : List Rat) (k : Nat) : Rat := l.getD k 0
theorem nz_yes {q : Nat → Rat} {j : Nat} (hj : j < 4) (h : sgn (q j).num ≠ 0) : true = nzB q := by
  symm
  unfold nzB
  rw [Bool.not_eq_true',← Bool.not_eq_true]
  intro e
  have := allB_iff.1 e j hj
  rw [decide_eq_true_eq] at this
  rw [this] at h
  exact h rfl
theorem nz_no {q : Nat → Rat} (h : ∀ j,j < 4 → sgn (q j).num = 0) : false = nzB q := by
  symm
  unfold nzB
  rw [Bool.not_eq_false']
  refine allB_iff.2 (fun j hj => ?_)
  rw [decide_eq_true_eq]
  exact Rat.num_eq_zero.1 (sgn_zero_iff.1 (h j hj))
def cNz : Ctr := ⟨[.arr 4 tQ],[tB],fun x => (show List Rat from x.1).length = 4 ∧ ∀ j,j < 4 → rsz (qL x.1 j) ≤ 400000000,fun x => (nzB (qL x.1),())⟩
noncomputable def LD0 : Lib := LC2.add 109 (cQI (fun x => rsz x ≤ 1000000000) (fun x => sgn x.num)) (cQI_ok fun v x w h hl => signQ_any v x w h hl)
theorem nonzero_ctr : CtrOk Tryz.prog 57 cNz := by
  refine ctr_fn LD0 [4] Tryz.func57 rfl (by decide) (fun x => [.turns 5 [6] [] []]) (fun x hp => ?_)
  obtain ⟨x,u⟩ := x
  change List Rat at x
  refine vc_of ((asT Int 0 ≤ 0 ∧ asT Int 0 < natI 4 ∧ True) ∧ (rsz (List.getD x 0 0) ≤ 1000000000 ∧ True) ∧ ifB (sgn (Rat.num (List.getD x 0 0)) != 0) (True ∧ true = nzB (qL x) ∧ True) (True ∧ asT Bool true = true ∧ (asT Int 0 ≤ 1 ∧ asT Int 1 < natI 4 ∧ True) ∧ (rsz (List.getD x 1 0) ≤ 1000000000 ∧ True) ∧ ifB (sgn (Rat.num (List.getD x 1 0)) != 0) (True ∧ true = nzB (qL x) ∧ True) (True ∧ asT Bool true = true ∧ (asT Int 0 ≤ 2 ∧ asT Int 2 < natI 4 ∧ True) ∧ (rsz (List.getD x 2 0) ≤ 1000000000 ∧ True) ∧ ifB (sgn (Rat.num (List.getD x 2 0)) != 0) (True ∧ true = nzB (qL x) ∧ True) (True ∧ asT Bool true = true ∧ (asT Int 0 ≤ 3 ∧ asT Int 3 < natI 4 ∧ True) ∧ (rsz (List.getD x 3 0) ≤ 1000000000 ∧ True) ∧ ifB (sgn (Rat.num (List.getD x 3 0)) != 0) (True ∧ true = nzB (qL x) ∧ True) (True ∧ asT Bool true = true ∧ True ∧ false = nzB (qL x) ∧ True))))) (by kernel_rfl) ?_
  obtain ⟨hl,hb⟩ := hp
  dsimp only [natI,asT] at *
  have hx : ∀ j,x.getD j 0 = qL x j := fun _ => rfl
  simp only [hx]
  generalize qL x = q at *
  have r : ∀ j,j < 4 → rsz (q j) ≤ 1000000000 := fun j hj => Nat.le_trans (hb j hj) (by omega)
  simp only [ifB_iff,bne_iff_ne,bne_eq_false_iff_eq,ne_eq,true_and,and_true]
  exact ⟨⟨by omega,by omega⟩,r 0 (by omega),fun h => nz_yes (j := 0) (by omega) h,fun h0 => ⟨⟨by omega,by omega⟩,r 1 (by omega),fun h => nz_yes (j := 1) (by omega) h,fun h1 => ⟨⟨by omega,by omega⟩,r 2 (by omega),fun h => nz_yes (j := 2) (by omega) h,fun h2 => ⟨⟨by omega,by omega⟩,r 3 (by omega),fun h => nz_yes (j := 3) (by omega) h,fun h3 => nz_no (fun j hj => by
    match j,hj with
    | 0,_ => exact h0
    | 1,_ => exact h1
    | 2,_ => exact h2
    | 3,_ => exact h3)⟩⟩⟩⟩
def cClr : Ctr := ⟨[.arr 4 tQ],[tQuat,tI],fun x => (show List Rat from x.1).length = 4 ∧ (∀ j,j < 4 → rsz (qL x.1 j) ≤ 50000000) ∧ ∃ j,j < 4 ∧ qL x.1 j ≠ 0,fun x => primT (clearXs (qL x.1))⟩
theorem cleared_ctr : CtrOk Tryz.prog 58 cClr := by
  refine ctr_fn LD0 [2,4,6,7,9,10,11] Tryz.func58 rfl (by decide) (fun x => [.inv Le4 (fun k => [(15,.val tI (k.1 : Int))]) (fun k => [(2,.box [⟨tI,(0 : Int)⟩,⟨tI,(0 : Int)⟩,⟨tI,(0 : Int)⟩,⟨tI,(0 : Int)⟩]),(4,.box [⟨tZ,denP (qL x.1) k.1⟩])]) (fun k => 4 - k.1) ⟨0,by omega⟩ (fun _ => []),.turns 5 [24] [2,4,7] []]) (fun x hp => ?_)
  obtain ⟨x,u⟩ := x
  change List Rat at x
  refine vc_of (let x0z := (natI (Rat.den (List.getD x 0 0)));let x1z := (natI (Rat.den (List.getD x 1 0)));(wordP 1 ∧ True) ∧ (asT Int 0 = natI 0 ∧ asT Int 0 = 0 ∧ asT Int 0 = 0 ∧ asT Int 0 = 0 ∧ asT Int 0 = 0 ∧ 1 = denP (qL x) 0 ∧ True) ∧ ∀ (i : Le4),asT Bool true = true ∧ ifB (decide (natI (sval i) < 4)) ((0 ≤ natI (sval i) ∧ natI (sval i) < natI 4 ∧ True) ∧ ((isz (denP (qL x) (sval i)) ≤ 1000000000 ∧ isz (natI (Rat.den (List.getD x (Int.toNat (natI (sval i))) 0))) ≤ 1000000000) ∧ True) ∧ ∃ (i' : Le4),4 - sval i' < 4 - sval i ∧ IntKind.wrap IntKind.i64 (natI (sval i) + 1) = natI (sval i') ∧ asT Int 0 = 0 ∧ asT Int 0 = 0 ∧ asT Int 0 = 0 ∧ asT Int 0 = 0 ∧ denP (qL x) (sval i) * natI (Rat.den (List.getD x (Int.toNat (natI (sval i))) 0)) = denP (qL x) (sval i') ∧ True) ((asT Int 0 ≤ 0 ∧ asT Int 0 < natI 4 ∧ True) ∧ ((isz (denP (qL x) (sval i)) ≤ 1000000000 ∧ isz x0z ≤ 1000000000 ∧ natI (Rat.den (List.getD x 0 0)) ≠ 0) ∧ True) ∧ ((isz (Rat.num (List.getD x 0 0)) ≤ 1000000000 ∧ isz (Int.fdiv (denP (qL x) (sval i)) x0z) ≤ 1000000000) ∧ True) ∧ (asT Int 0 = 0 ∧ asT Int 0 = 0 ∧ asT Int 0 = 0 ∧ asT Int 0 = 0 ∧ denP (qL x) (sval i) = denP (qL x) (sval i) ∧ Rat.num (List.getD x 0 0) * Int.fdiv (denP (qL x) (sval i)) x0z = Rat.num (List.getD x 0 0) * Int.fdiv (denP (qL x) (sval i)) x0z ∧ asT Int 0 = 0 ∧ asT Int 0 = 0 ∧ asT Int 0 = 0 ∧ True) ∧ asT Bool true = true ∧ (asT Int 0 ≤ 1 ∧ asT Int 1 < natI 4 ∧ True) ∧ ((isz (denP (qL x) (sval i)) ≤ 1000000000 ∧ isz x1z ≤ 1000000000 ∧ natI (Rat.den (List.getD x 1 0)) ≠ 0) ∧ True) ∧ ((isz (Rat.num (List.getD x 1 0)) ≤ 1000000000 ∧ isz (Int.fdiv (denP (qL x) (sval i)) x1z) ≤ 1000000000) ∧ True) ∧ (asT Int 0 = 0 ∧ asT Int 0 = 0 ∧ asT Int 0 = 0 ∧ asT Int 0 = 0 ∧ denP (qL x) (sval i) = denP (qL x) (sval i) ∧ Rat.num (List.getD x 0 0) * Int.fdiv (denP (qL x) (sval i)) x0z = Rat.num (List.getD x 0 0) * Int.fdiv (denP (qL x) (sval i)) x0z ∧ Rat.num (List.getD x 1 0) * Int.fdiv (denP (qL x) (sval i)) x1z = Rat.num (List.getD x 1 0) * Int.fdiv (denP (qL x) (sval i)) x1z ∧ asT Int 0 = 0 ∧ asT Int 0 = 0 ∧ True) ∧ asT Bool true = true ∧ (asT Int 0 ≤ 2 ∧ asT Int 2 < natI 4 ∧ True) ∧ ((isz (denP (qL x) (sval i)) ≤ 1000000000 ∧ isz (natI (Rat.den (List.getD x 2 0))) ≤ 1000000000 ∧ natI (Rat.den (List.getD x 2 0)) ≠ 0) ∧ True) ∧ ((isz (Rat.num (List.getD x 2 0)) ≤ 1000000000 ∧ isz (Int.fdiv (denP (qL x) (sval i)) (natI (Rat.den (List.getD x 2 0)))) ≤ 1000000000) ∧ True) ∧ (asT Int 0 = 0 ∧ asT Int 0 = 0 ∧ asT Int 0 = 0 ∧ asT Int 0 = 0 ∧ denP (qL x) (sval i) = denP (qL x) (sval i) ∧ Rat.num (List.getD x 0 0) * Int.fdiv (denP (qL x) (sval i)) x0z = Rat.num (List.getD x 0 0) * Int.fdiv (denP (qL x) (sval i)) x0z ∧ Rat.num (List.getD x 1 0) * Int.fdiv (denP (qL x) (sval i)) x1z = Rat.num (List.getD x 1 0) * Int.fdiv (denP (qL x) (sval i)) x1z ∧ Rat.num (List.getD x 2 0) * Int.fdiv (denP (qL x) (sval i)) (natI (Rat.den (List.getD x 2 0))) = Rat.num (List.getD x 2 0) * Int.fdiv (denP (qL x) (sval i)) (natI (Rat.den (List.getD x 2 0))) ∧ asT Int 0 = 0 ∧ True) ∧ asT Bool true = true ∧ (asT Int 0 ≤ 3 ∧ asT Int 3 < natI 4 ∧ True) ∧ ((isz (denP (qL x) (sval i)) ≤ 1000000000 ∧ isz (natI (Rat.den (List.getD x 3 0))) ≤ 1000000000 ∧ natI (Rat.den (List.getD x 3 0)) ≠ 0) ∧ True) ∧ ((isz (Rat.num (List.getD x 3 0)) ≤ 1000000000 ∧ isz (Int.fdiv (denP (qL x) (sval i)) (natI (Rat.den (List.getD x 3 0)))) ≤ 1000000000) ∧ True) ∧ (asT Int 0 = 0 ∧ asT Int 0 = 0 ∧ asT Int 0 = 0 ∧ asT Int 0 = 0 ∧ denP (qL x) (sval i) = denP (qL x) (sval i) ∧ Rat.num (List.getD x 0 0) * Int.fdiv (denP (qL x) (sval i)) x0z = Rat.num (List.getD x 0 0) * Int.fdiv (denP (qL x) (sval i)) x0z ∧ Rat.num (List.getD x 1 0) * Int.fdiv (denP (qL x) (sval i)) x1z = Rat.num (List.getD x 1 0) * Int.fdiv (denP (qL x) (sval i)) x1z ∧ Rat.num (List.getD x 2 0) * Int.fdiv (denP (qL x) (sval i)) (natI (Rat.den (List.getD x 2 0))) = Rat.num (List.getD x 2 0) * Int.fdiv (denP (qL x) (sval i)) (natI (Rat.den (List.getD x 2 0))) ∧ Rat.num (List.getD x 3 0) * Int.fdiv (denP (qL x) (sval i)) (natI (Rat.den (List.getD x 3 0))) = Rat.num (List.getD x 3 0) * Int.fdiv (denP (qL x) (sval i)) (natI (Rat.den (List.getD x 3 0))) ∧ True) ∧ asT Bool true = true ∧ ((List.length (Rat.num (List.getD x 0 0) * Int.fdiv (denP (qL x) (sval i)) x0z :: Rat.num (List.getD x 1 0) * Int.fdiv (denP (qL x) (sval i)) x1z :: Rat.num (List.getD x 2 0) * Int.fdiv (denP (qL x) (sval i)) (natI (Rat.den (List.getD x 2 0))) :: Rat.num (List.getD x 3 0) * Int.fdiv (denP (qL x) (sval i)) (natI (Rat.den (List.getD x 3 0))) :: nilT Int) = 4 ∧ (∀ (j : Nat),j < 4 → isz (xsL (Rat.num (List.getD x 0 0) * Int.fdiv (denP (qL x) (sval i)) x0z :: Rat.num (List.getD x 1 0) * Int.fdiv (denP (qL x) (sval i)) x1z :: Rat.num (List.getD x 2 0) * Int.fdiv (denP (qL x) (sval i)) (natI (Rat.den (List.getD x 2 0))) :: Rat.num (List.getD x 3 0) * Int.fdiv (denP (qL x) (sval i)) (natI (Rat.den (List.getD x 3 0))) :: nilT Int) j) ≤ 400000000) ∧ ∃ (j : Nat),j < 4 ∧ xsL (Rat.num (List.getD x 0 0) * Int.fdiv (denP (qL x) (sval i)) x0z :: Rat.num (List.getD x 1 0) * Int.fdiv (denP (qL x) (sval i)) x1z :: Rat.num (List.getD x 2 0) * Int.fdiv (denP (qL x) (sval i)) (natI (Rat.den (List.getD x 2 0))) :: Rat.num (List.getD x 3 0) * Int.fdiv (denP (qL x) (sval i)) (natI (Rat.den (List.getD x 3 0))) :: nilT Int) j ≠ 0) ∧ True) ∧ True ∧ (Prod.fst (Prod.fst (primT (xsL (Rat.num (List.getD x 0 0) * Int.fdiv (denP (qL x) (sval i)) x0z :: Rat.num (List.getD x 1 0) * Int.fdiv (denP (qL x) (sval i)) x1z :: Rat.num (List.getD x 2 0) * Int.fdiv (denP (qL x) (sval i)) (natI (Rat.den (List.getD x 2 0))) :: Rat.num (List.getD x 3 0) * Int.fdiv (denP (qL x) (sval i)) (natI (Rat.den (List.getD x 3 0))) :: nilT Int)))),Prod.fst (Prod.snd (Prod.fst (primT (xsL (Rat.num (List.getD x 0 0) * Int.fdiv (denP (qL x) (sval i)) x0z :: Rat.num (List.getD x 1 0) * Int.fdiv (denP (qL x) (sval i)) x1z :: Rat.num (List.getD x 2 0) * Int.fdiv (denP (qL x) (sval i)) (natI (Rat.den (List.getD x 2 0))) :: Rat.num (List.getD x 3 0) * Int.fdiv (denP (qL x) (sval i)) (natI (Rat.den (List.getD x 3 0))) :: nilT Int))))),Prod.fst (Prod.snd (Prod.snd (Prod.fst (primT (xsL (Rat.num (List.getD x 0 0) * Int.fdiv (denP (qL x) (sval i)) x0z :: Rat.num (List.getD x 1 0) * Int.fdiv (denP (qL x) (sval i)) x1z :: Rat.num (List.getD x 2 0) * Int.fdiv (denP (qL x) (sval i)) (natI (Rat.den (List.getD x 2 0))) :: Rat.num (List.getD x 3 0) * Int.fdiv (denP (qL x) (sval i)) (natI (Rat.den (List.getD x 3 0))) :: nilT Int)))))),Prod.fst (Prod.snd (Prod.snd (Prod.snd (Prod.fst (primT (xsL (Rat.num (List.getD x 0 0) * Int.fdiv (denP (qL x) (sval i)) x0z :: Rat.num (List.getD x 1 0) * Int.fdiv (denP (qL x) (sval i)) x1z :: Rat.num (List.getD x 2 0) * Int.fdiv (denP (qL x) (sval i)) (natI (Rat.den (List.getD x 2 0))) :: Rat.num (List.getD x 3 0) * Int.fdiv (denP (qL x) (sval i)) (natI (Rat.den (List.getD x 3 0))) :: nilT Int))))))),()) = Prod.fst (primT (clearXs (qL x))) ∧ True ∧ Prod.fst (Prod.snd (primT (xsL (Rat.num (List.getD x 0 0) * Int.fdiv (denP (qL x) (sval i)) x0z :: Rat.num (List.getD x 1 0) * Int.fdiv (denP (qL x) (sval i)) x1z :: Rat.num (List.getD x 2 0) * Int.fdiv (denP (qL x) (sval i)) (natI (Rat.den (List.getD x 2 0))) :: Rat.num (List.getD x 3 0) * Int.fdiv (denP (qL x) (sval i)) (natI (Rat.den (List.getD x 3 0))) :: nilT Int)))) = Prod.fst (Prod.snd (primT (clearXs (qL x)))) ∧ True)) (by kernel_rfl) ?_
  obtain ⟨hl,hb,hn⟩ := hp
  dsimp only [natI,asT,sval] at *
  have hx : ∀ j,x.getD j 0 = qL x j := fun _ => rfl
  simp only [hx,Int.toNat_natCast]
  generalize qL x = q at *
  simp only [ifB_iff,decide_eq_true_eq,decide_eq_false_iff_not,true_and,and_true,ne_eq]
  have d : ∀ k,k ≤ 4 → isz (denP q k) ≤ 1000000000 := fun k hk => Nat.le_trans (denP_isz hb k hk) (by omega)
  have r : ∀ j,j < 4 → isz ((q j).den : Int) ≤ 1000000000 := fun j hj => Nat.le_trans (rsz_den (q j)) (Nat.le_trans (hb j hj) (by omega))
  have n : ∀ j,j < 4 → isz (q j).num ≤ 1000000000 := fun j hj => Nat.le_trans (rsz_num (q j)) (Nat.le_trans (hb j hj) (by omega))
  have z : ∀ j,¬ ((q j).den : Int) = 0 := fun j => by have := (q j).den_nz;omega
  have f : ∀ j,j < 4 → isz ((denP q 4).fdiv ((q j).den : Int)) ≤ 1000000000 := fun j hj => Nat.le_trans (isz_fdiv_dvd (z j) (clearD_dvd q hj)) (d 4 (by omega))
  refine ⟨⟨by omega,by omega⟩,⟨rfl,rfl⟩,fun i => ⟨fun h1 => ?_,fun h1 => ?_⟩⟩
  · have hi := i.2
    refine ⟨⟨by omega,by omega⟩,⟨d _ hi,r _ (by omega)⟩,⟨i.1 + 1,by omega⟩,by simp only;omega,?_,rfl⟩
    rw [wrap_id (by omega) (by omega)];rfl
  · have hi := i.2
    have hi : i.1 = 4 := by omega
    rw [hi]
    dsimp only [nilT]
    have hX : ∀ k,k < 4 → xsL [(q 0).num * (denP q 4).fdiv ((q 0).den : Int),(q 1).num * (denP q 4).fdiv ((q 1).den : Int),(q 2).num * (denP q 4).fdiv ((q 2).den : Int),(q 3).num * (denP q 4).fdiv ((q 3).den : Int)] k = clearXs q k := fun k hk => by
      match k,hk with
      | 0,_ => rfl
      | 1,_ => rfl
      | 2,_ => rfl
      | 3,_ => rfl
    rw [primT_congr hX]
    refine ⟨⟨by omega,by omega⟩,⟨d 4 (by omega),r 0 (by omega),z 0⟩,⟨n 0 (by omega),f 0 (by omega)⟩,⟨by omega,by omega⟩,⟨d 4 (by omega),r 1 (by omega),z 1⟩,⟨n 1 (by omega),f 1 (by omega)⟩,⟨by omega,by omega⟩,⟨d 4 (by omega),r 2 (by omega),z 2⟩,⟨n 2 (by omega),f 2 (by omega)⟩,⟨by omega,by omega⟩,⟨d 4 (by omega),r 3 (by omega),z 3⟩,⟨n 3 (by omega),f 3 (by omega)⟩,⟨rfl,fun j hj => ?_,?_⟩,?_⟩
    · rw [hX j hj]
      exact Nat.le_trans (clearXs_isz hb hj) (by omega)
    · obtain ⟨j,hj,h⟩ := hn
      exact ⟨j,hj,by rw [hX j hj];exact clearXs_ne hj h⟩
    · first | trivial | exact ⟨rfl,rfl⟩ | rfl
noncomputable def LD1 : Lib := (LD0.add 57 cNz nonzero_ctr).add 58 cClr cleared_ctr
end Go.Proofs.YtidfgdchcpmnfaaGreat
namespace Go.Proofs.YtidfgdchcpmnfaaGreat
open Go Go.RowKit
set_option maxRecDepth 100000
set_option maxHeartbeats 1000000
set_option linter.unusedVariables false
set_option linter.unusedSimpArgs false
def mRows (a b c d : Int) : QM := (List.range 3).map fun i => (List.range 3).map fun j => rotQ a b c d i j
def cMx : Ctr := ⟨[tQuat],[tM,tI],fun x => True,fun x => (if qcode x.1.1 x.1.2.1 x.1.2.2.1 x.1.2.2.2.1 = 0 then mRows x.1.1 x.1.2.1 x.1.2.2.1 x.1.2.2.2.1 else [],qcode x.1.1 x.1.2.1 x.1.2.2.1 x.1.2.2.2.1,())⟩
abbrev box9 (a b c d : Int) : Res := .box [⟨tI,rotM a b c d 0 0⟩,⟨tI,rotM a b c d 0 1⟩,⟨tI,rotM a b c d 0 2⟩,⟨tI,rotM a b c d 1 0⟩,⟨tI,rotM a b c d 1 1⟩,⟨tI,rotM a b c d 1 2⟩,⟨tI,rotM a b c d 2 0⟩,⟨tI,rotM a b c d 2 1⟩,⟨tI,rotM a b c d 2 2⟩]
theorem matrix_ctr : CtrOk Tryz.prog 16 cMx := by
  refine ctr_fn LD1 [9,12,16] Tryz.func16 rfl (by decide) (fun x => [.inv Le3 (fun i => [(129,.val tI (i.1 : Int)),(10,.own 10 0)]) (fun i => [(9,box9 x.1.1 x.1.2.1 x.1.2.2.1 x.1.2.2.2.1),(10,.row 25 (.list tQ) ((List.range i.1).map fun i => (List.range 3).map fun j => rotQ x.1.1 x.1.2.1 x.1.2.2.1 x.1.2.2.2.1 i j) 0)]) (fun i => 3 - i.1) ⟨0,by omega⟩ (fun i => [.inv Le3 (fun j => [(133,.val tI (j.1 : Int)),(13,.own 13 0)]) (fun j => [(9,box9 x.1.1 x.1.2.1 x.1.2.2.1 x.1.2.2.2.1),(10,.row 25 (.list tQ) ((List.range i.1).map fun i => (List.range 3).map fun j => rotQ x.1.1 x.1.2.1 x.1.2.2.1 x.1.2.2.2.1 i j) 0),(12,.box [⟨tI,rotM x.1.1 x.1.2.1 x.1.2.2.1 x.1.2.2.2.1 i.1 0⟩,⟨tI,rotM x.1.1 x.1.2.1 x.1.2.2.1 x.1.2.2.2.1 i.1 1⟩,⟨tI,rotM x.1.1 x.1.2.1 x.1.2.2.1 x.1.2.2.2.1 i.1 2⟩]),(13,.row 30 tQ ((List.range j.1).map fun j => rotQ x.1.1 x.1.2.1 x.1.2.2.1 x.1.2.2.2.1 i.1 j) 0)]) (fun j => 3 - j.1) ⟨0,by omega⟩ (fun _ => [])])]) (fun x hp => ?_)
  obtain ⟨⟨a,b,c,d,u⟩,v⟩ := x
  change Int at a;change Int at b;change Int at c;change Int at d
  refine vc_of (let x0z := (IntKind.wrap IntKind.i64 (IntKind.wrap IntKind.i64 (IntKind.wrap IntKind.i64 (IntKind.wrap IntKind.i64 (a * a) + IntKind.wrap IntKind.i64 (b * b)) - IntKind.wrap IntKind.i64 (c * c)) - IntKind.wrap IntKind.i64 (d * d)) :: IntKind.wrap IntKind.i64 (2 * IntKind.wrap IntKind.i64 (IntKind.wrap IntKind.i64 (b * c) - IntKind.wrap IntKind.i64 (a * d))) :: IntKind.wrap IntKind.i64 (2 * IntKind.wrap IntKind.i64 (IntKind.wrap IntKind.i64 (b * d) + IntKind.wrap IntKind.i64 (a * c))) :: nilT Int);let x1z := (IntKind.wrap IntKind.i64 (2 * IntKind.wrap IntKind.i64 (IntKind.wrap IntKind.i64 (b * c) + IntKind.wrap IntKind.i64 (a * d))) :: IntKind.wrap IntKind.i64 (IntKind.wrap IntKind.i64 (IntKind.wrap IntKind.i64 (IntKind.wrap IntKind.i64 (a * a) - IntKind.wrap IntKind.i64 (b * b)) + IntKind.wrap IntKind.i64 (c * c)) - IntKind.wrap IntKind.i64 (d * d)) :: IntKind.wrap IntKind.i64 (2 * IntKind.wrap IntKind.i64 (IntKind.wrap IntKind.i64 (c * d) - IntKind.wrap IntKind.i64 (a * b))) :: nilT Int);let x2z := (x0z :: x1z :: (IntKind.wrap IntKind.i64 (2 * IntKind.wrap IntKind.i64 (IntKind.wrap IntKind.i64 (b * d) - IntKind.wrap IntKind.i64 (a * c))) :: IntKind.wrap IntKind.i64 (2 * IntKind.wrap IntKind.i64 (IntKind.wrap IntKind.i64 (c * d) + IntKind.wrap IntKind.i64 (a * b))) :: IntKind.wrap IntKind.i64 (IntKind.wrap IntKind.i64 (IntKind.wrap IntKind.i64 (IntKind.wrap IntKind.i64 (a * a) - IntKind.wrap IntKind.i64 (b * b)) - IntKind.wrap IntKind.i64 (c * c)) + IntKind.wrap IntKind.i64 (d * d)) :: nilT Int) :: nilT (List Int));(True ∧ True) ∧ ifB (qcode a b c d != 0) (True ∧ (nilT (List Rat) = if qcode a b c d = 0 then mRows a b c d else nilT (List Rat)) ∧ True ∧ qcode a b c d = qcode a b c d ∧ True) ((asT Int 0 = natI 0 ∧ (True ∧ asT (List (List Rat)) (nilT (List Rat)) = nilT (List Rat)) ∧ IntKind.wrap IntKind.i64 (IntKind.wrap IntKind.i64 (IntKind.wrap IntKind.i64 (IntKind.wrap IntKind.i64 (a * a) + IntKind.wrap IntKind.i64 (b * b)) - IntKind.wrap IntKind.i64 (c * c)) - IntKind.wrap IntKind.i64 (d * d)) = rotM a b c d 0 0 ∧ IntKind.wrap IntKind.i64 (2 * IntKind.wrap IntKind.i64 (IntKind.wrap IntKind.i64 (b * c) - IntKind.wrap IntKind.i64 (a * d))) = rotM a b c d 0 1 ∧ IntKind.wrap IntKind.i64 (2 * IntKind.wrap IntKind.i64 (IntKind.wrap IntKind.i64 (b * d) + IntKind.wrap IntKind.i64 (a * c))) = rotM a b c d 0 2 ∧ IntKind.wrap IntKind.i64 (2 * IntKind.wrap IntKind.i64 (IntKind.wrap IntKind.i64 (b * c) + IntKind.wrap IntKind.i64 (a * d))) = rotM a b c d 1 0 ∧ IntKind.wrap IntKind.i64 (IntKind.wrap IntKind.i64 (IntKind.wrap IntKind.i64 (IntKind.wrap IntKind.i64 (a * a) - IntKind.wrap IntKind.i64 (b * b)) + IntKind.wrap IntKind.i64 (c * c)) - IntKind.wrap IntKind.i64 (d * d)) = rotM a b c d 1 1 ∧ IntKind.wrap IntKind.i64 (2 * IntKind.wrap IntKind.i64 (IntKind.wrap IntKind.i64 (c * d) - IntKind.wrap IntKind.i64 (a * b))) = rotM a b c d 1 2 ∧ IntKind.wrap IntKind.i64 (2 * IntKind.wrap IntKind.i64 (IntKind.wrap IntKind.i64 (b * d) - IntKind.wrap IntKind.i64 (a * c))) = rotM a b c d 2 0 ∧ IntKind.wrap IntKind.i64 (2 * IntKind.wrap IntKind.i64 (IntKind.wrap IntKind.i64 (c * d) + IntKind.wrap IntKind.i64 (a * b))) = rotM a b c d 2 1 ∧ IntKind.wrap IntKind.i64 (IntKind.wrap IntKind.i64 (IntKind.wrap IntKind.i64 (IntKind.wrap IntKind.i64 (a * a) - IntKind.wrap IntKind.i64 (b * b)) - IntKind.wrap IntKind.i64 (c * c)) + IntKind.wrap IntKind.i64 (d * d)) = rotM a b c d 2 2 ∧ (asT (List (List Rat)) (nilT (List Rat)) = nilT (List Rat) ∧ 0 = 0 ∧ asT Bool true = true) ∧ True) ∧ ∀ (i : Le3),asT Bool true = true ∧ ifB (decide (natI (sval i) < 3)) ((0 ≤ natI (sval i) ∧ natI (sval i) < natI 3 ∧ True) ∧ (asT Int 0 = natI 0 ∧ (True ∧ asT (List Rat) (nilT Rat) = nilT Rat) ∧ rotM a b c d 0 0 = rotM a b c d 0 0 ∧ rotM a b c d 0 1 = rotM a b c d 0 1 ∧ rotM a b c d 0 2 = rotM a b c d 0 2 ∧ rotM a b c d 1 0 = rotM a b c d 1 0 ∧ rotM a b c d 1 1 = rotM a b c d 1 1 ∧ rotM a b c d 1 2 = rotM a b c d 1 2 ∧ rotM a b c d 2 0 = rotM a b c d 2 0 ∧ rotM a b c d 2 1 = rotM a b c d 2 1 ∧ rotM a b c d 2 2 = rotM a b c d 2 2 ∧ List.map (fun (i : Nat) => List.map (fun (j : Nat) => rotQ a b c d i j) (List.range 3)) (List.range (sval i)) = List.map (fun (i : Nat) => List.map (fun (j : Nat) => rotQ a b c d i j) (List.range 3)) (List.range (sval i)) ∧ List.getD (List.getD x2z (Int.toNat (natI (sval i))) (0 :: List.replicate 2 0)) 0 0 = rotM a b c d (sval i) 0 ∧ List.getD (List.getD x2z (Int.toNat (natI (sval i))) (0 :: List.replicate 2 0)) (0 + 1) 0 = rotM a b c d (sval i) 1 ∧ List.getD (List.getD x2z (Int.toNat (natI (sval i))) (0 :: List.replicate 2 0)) (0 + 1 + 1) 0 = rotM a b c d (sval i) 2 ∧ (asT (List Rat) (nilT Rat) = nilT Rat ∧ 0 = 0 ∧ asT Bool true = true) ∧ True) ∧ ∀ (i_1 : Le3),asT Bool true = true ∧ ifB (decide (natI (sval i_1) < 3)) ((0 ≤ natI (sval i_1) ∧ natI (sval i_1) < natI 3 ∧ True) ∧ ((okc a ∧ okc b ∧ okc c ∧ okc d) ∧ (wordP (List.getD (List.getD (List.getD x2z (Int.toNat (natI (sval i))) (0 :: List.replicate 2 0)) 0 0 :: List.getD (List.getD x2z (Int.toNat (natI (sval i))) (0 :: List.replicate 2 0)) (0 + 1) 0 :: List.getD (List.getD x2z (Int.toNat (natI (sval i))) (0 :: List.replicate 2 0)) (0 + 1 + 1) 0 :: nilT Int) (Int.toNat (natI (sval i_1))) 0) ∧ wordP (normI a b c d) ∧ normI a b c d ≠ 0) ∧ True) ∧ (List.length (List.map (fun (j : Nat) => rotQ a b c d (sval i) j) (List.range (sval i_1))) + List.length (Rat.divInt (List.getD (List.getD (List.getD x2z (Int.toNat (natI (sval i))) (0 :: List.replicate 2 0)) 0 0 :: List.getD (List.getD x2z (Int.toNat (natI (sval i))) (0 :: List.replicate 2 0)) (0 + 1) 0 :: List.getD (List.getD x2z (Int.toNat (natI (sval i))) (0 :: List.replicate 2 0)) (0 + 1 + 1) 0 :: nilT Int) (Int.toNat (natI (sval i_1))) 0) (normI a b c d) :: nilT Rat) ≤ 1000000000 ∧ True) ∧ ∃ (i' : Le3),3 - sval i' < 3 - sval i_1 ∧ IntKind.wrap IntKind.i64 (natI (sval i_1) + 1) = natI (sval i') ∧ rotM a b c d 0 0 = rotM a b c d 0 0 ∧ rotM a b c d 0 1 = rotM a b c d 0 1 ∧ rotM a b c d 0 2 = rotM a b c d 0 2 ∧ rotM a b c d 1 0 = rotM a b c d 1 0 ∧ rotM a b c d 1 1 = rotM a b c d 1 1 ∧ rotM a b c d 1 2 = rotM a b c d 1 2 ∧ rotM a b c d 2 0 = rotM a b c d 2 0 ∧ rotM a b c d 2 1 = rotM a b c d 2 1 ∧ rotM a b c d 2 2 = rotM a b c d 2 2 ∧ List.map (fun (i : Nat) => List.map (fun (j : Nat) => rotQ a b c d i j) (List.range 3)) (List.range (sval i)) = List.map (fun (i : Nat) => List.map (fun (j : Nat) => rotQ a b c d i j) (List.range 3)) (List.range (sval i)) ∧ rotM a b c d (sval i) 0 = rotM a b c d (sval i) 0 ∧ rotM a b c d (sval i) 1 = rotM a b c d (sval i) 1 ∧ rotM a b c d (sval i) 2 = rotM a b c d (sval i) 2 ∧ List.map (fun (j : Nat) => rotQ a b c d (sval i) j) (List.range (sval i_1)) ++ Rat.divInt (List.getD (List.getD (List.getD x2z (Int.toNat (natI (sval i))) (0 :: List.replicate 2 0)) 0 0 :: List.getD (List.getD x2z (Int.toNat (natI (sval i))) (0 :: List.replicate 2 0)) (0 + 1) 0 :: List.getD (List.getD x2z (Int.toNat (natI (sval i))) (0 :: List.replicate 2 0)) (0 + 1 + 1) 0 :: nilT Int) (Int.toNat (natI (sval i_1))) 0) (normI a b c d) :: nilT Rat = List.map (fun (j : Nat) => rotQ a b c d (sval i) j) (List.range (sval i')) ∧ True) ((List.length (List.map (fun (i : Nat) => List.map (fun (j : Nat) => rotQ a b c d i j) (List.range 3)) (List.range (sval i))) + List.length (List.map (fun (j : Nat) => rotQ a b c d (sval i) j) (List.range (sval i_1)) :: nilT (List Rat)) ≤ 1000000000 ∧ True) ∧ ∃ (i' : Le3),3 - sval i' < 3 - sval i ∧ IntKind.wrap IntKind.i64 (natI (sval i) + 1) = natI (sval i') ∧ rotM a b c d 0 0 = rotM a b c d 0 0 ∧ rotM a b c d 0 1 = rotM a b c d 0 1 ∧ rotM a b c d 0 2 = rotM a b c d 0 2 ∧ rotM a b c d 1 0 = rotM a b c d 1 0 ∧ rotM a b c d 1 1 = rotM a b c d 1 1 ∧ rotM a b c d 1 2 = rotM a b c d 1 2 ∧ rotM a b c d 2 0 = rotM a b c d 2 0 ∧ rotM a b c d 2 1 = rotM a b c d 2 1 ∧ rotM a b c d 2 2 = rotM a b c d 2 2 ∧ List.map (fun (i : Nat) => List.map (fun (j : Nat) => rotQ a b c d i j) (List.range 3)) (List.range (sval i)) ++ List.map (fun (j : Nat) => rotQ a b c d (sval i) j) (List.range (sval i_1)) :: nilT (List Rat) = List.map (fun (i : Nat) => List.map (fun (j : Nat) => rotQ a b c d i j) (List.range 3)) (List.range (sval i')) ∧ True)) (True ∧ (List.map (fun (i : Nat) => List.map (fun (j : Nat) => rotQ a b c d i j) (List.range 3)) (List.range (sval i)) = if qcode a b c d = 0 then mRows a b c d else nilT (List Rat)) ∧ True ∧ 0 = qcode a b c d ∧ True))) (by kernel_rfl) ?_
  dsimp only [natI,sval,asT,nilT,intQ] at *
  simp only [ifB_iff,true_and,and_true,decide_eq_true_eq,decide_eq_false_iff_not,Int.toNat_natCast,Option.some.injEq,List.length_map,List.length_range,List.length_cons,List.length_nil,true_implies,implies_true,bne_iff_ne,ne_eq,bne_eq_false_iff_eq]
  refine ⟨fun h => (if_neg h).symm,fun h => ?_⟩
  obtain ⟨hn,oa,ob,oc,od⟩ := qcode_ok h
  have hN := normI_pos hn
  obtain ⟨maa0,maa1⟩ := okc_mul oa oa
  obtain ⟨mab0,mab1⟩ := okc_mul oa ob
  obtain ⟨mac0,mac1⟩ := okc_mul oa oc
  obtain ⟨mad0,mad1⟩ := okc_mul oa od
  obtain ⟨mbb0,mbb1⟩ := okc_mul ob ob
  obtain ⟨mbc0,mbc1⟩ := okc_mul ob oc
  obtain ⟨mbd0,mbd1⟩ := okc_mul ob od
  obtain ⟨mcc0,mcc1⟩ := okc_mul oc oc
  obtain ⟨mcd0,mcd1⟩ := okc_mul oc od
  obtain ⟨mdd0,mdd1⟩ := okc_mul od od
  simp (disch := omega) only [wrap_id,if_pos h]
  refine ⟨⟨rfl,rfl,rfl,rfl,rfl,rfl,rfl,rfl,rfl,rfl⟩,fun i => ⟨fun h1 => ?_,fun h1 => ?_⟩⟩
  · have hi := i.2
    have h1 : i.1 < 3 := by omega
    have hM : ∀ k,k < 3 → ([([[a * a + b * b - c * c - d * d,2 * (b * c - a * d),2 * (b * d + a * c)],[2 * (b * c + a * d),a * a - b * b + c * c - d * d,2 * (c * d - a * b)],[2 * (b * d - a * c),2 * (c * d + a * b),a * a - b * b - c * c + d * d]].getD i.1 (0 :: List.replicate 2 0)).getD 0 0,([[a * a + b * b - c * c - d * d,2 * (b * c - a * d),2 * (b * d + a * c)],[2 * (b * c + a * d),a * a - b * b + c * c - d * d,2 * (c * d - a * b)],[2 * (b * d - a * c),2 * (c * d + a * b),a * a - b * b - c * c + d * d]].getD i.1 (0 :: List.replicate 2 0)).getD (0 + 1) 0,([[a * a + b * b - c * c - d * d,2 * (b * c - a * d),2 * (b * d + a * c)],[2 * (b * c + a * d),a * a - b * b + c * c - d * d,2 * (c * d - a * b)],[2 * (b * d - a * c),2 * (c * d + a * b),a * a - b * b - c * c + d * d]].getD i.1 (0 :: List.replicate 2 0)).getD (0 + 1 + 1) 0] : List Int).getD k 0 = rotM a b c d i.1 k := by
      intro k hk
      have e : i.1 = 0 ∨ i.1 = 1 ∨ i.1 = 2 := by omega
      have e' : k = 0 ∨ k = 1 ∨ k = 2 := by omega
      rcases e with e | e | e <;> rw [e] <;> rcases e' with rfl | rfl | rfl <;> rfl
    refine ⟨⟨by omega,by omega⟩,⟨rfl,hM 0 (by omega),hM 1 (by omega),hM 2 (by omega)⟩,fun k => ⟨fun h2 => ?_,fun h2 => ?_⟩⟩
    all_goals
      have hk := k.2
    · have hk3 : k.1 < 3 := by omega
      rw [hM k.1 hk3]
      have rb := rotM_bound oa ob oc od h1 hk3
      have nb : wordP (normI a b c d) := by unfold wordP normI;omega
      refine ⟨⟨by omega,by omega⟩,⟨⟨oa,ob,oc,od⟩,⟨by omega,by omega⟩,nb,by omega⟩,by omega,⟨k.1 + 1,by omega⟩,by simp only;omega,by simp only;omega,?_⟩
      simp only [List.range_succ,List.map_append,List.map_cons,List.map_nil]
      rfl
    · have hk : k.1 = 3 := by omega
      refine ⟨by omega,⟨i.1 + 1,by omega⟩,by simp only;omega,by simp only;omega,?_⟩
      rw [hk]
      simp only [List.range_succ (n := i.1),List.map_append,List.map_cons,List.map_nil]
  · have hi := i.2
    have hi : i.1 = 3 := by omega
    rw [hi]
    exact ⟨rfl,h.symm⟩
end Go.Proofs.YtidfgdchcpmnfaaGreat
