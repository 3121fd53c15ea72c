/-
  RotationMatrices holds: the matrix of a product is the product of the matrices, the matrix of the inverse is the transpose, and both together are the identity. Conditions: none beyond those of the given row.
-/
import Derived.Lib.SmallJoins
import Derived.OpenShut
import Derived.ProofKit
import Derived.Test.YtidfgdchcpmnfaaGreatRows
import Derived.WalkKit
import Derived.Test.YtidfgdchcpmnfaaGreatMt31
namespace Go.Proofs.YtidfgdchcpmnfaaGreat
open Go Go.RowKit
set_option maxRecDepth 100000
set_option maxHeartbeats 1000000
set_option linter.unusedVariables false
set_option linter.unusedSimpArgs false
def cAt (c : Ctr) (x : (nest c.args).den) (y : (nest c.res).den) : Ctr := ⟨c.args,c.res,fun z => z = x,fun _ => y⟩
theorem cAt_ok {f : FuncId} {c : Ctr} (h : CtrOk Tryz.prog f c) {x : (nest c.args).den} {y : (nest c.res).den} (hp : c.pre x) (hy : c.fn x = y) : CtrOk Tryz.prog f (cAt c x y) := by
  intro F w vs z hF hvs hz
  have hz : z = x := hz
  rw [hz] at hvs
  have h9 := h F w vs x hF hvs hp
  rw [hy] at h9
  exact h9
abbrev q4 (a b c d : Int) : Int × Int × Int × Int × Unit := (a,b,c,d,())
def knM : RM := (mRows 1 0 0 1).map fun r => r.map fun x => rawQ x
theorem kn_lens : lens 700000 knM := by
  unfold lens
  decide +kernel
theorem kn_ofm : omT knM = ((q4 (1) (0) (0) (1)),0,()) := by decide +kernel
theorem kn_mx : (if qcode 1 0 0 1 = 0 then mRows 1 0 0 1 else [],qcode 1 0 0 1,()) = (mRows 1 0 0 1,(0 : Int),()) := by
  have : qcode 1 0 0 1 = 0 := by decide +kernel
  rw [this];rfl
theorem kn_canon : canonT (-2) 0 4 0 = (q4 1 0 (-2) 0,0,()) := by decide +kernel
theorem kn_mul : mulT 1 1 0 0 1 0 1 0 = (q4 1 1 1 1,0,()) := by decide +kernel
noncomputable def LG2 : Lib := ((((LF
  ).add 18 (cAt (cHQ (fun _ _ _ _ => True) canonT) ((q4 (-2) (0) (4) (0)),()) ((q4 (1) (0) (-2) (0)),(0 : Int),())) (cAt_ok canon_ctr trivial kn_canon)
  ).add 26 (cAt (cHHQ mulT) ((q4 (1) (1) (0) (0)),(q4 (1) (0) (1) (0)),()) ((q4 (1) (1) (1) (1)),(0 : Int),())) (cAt_ok qmul_ctr trivial kn_mul)
  ).add 14 (cAt cOm (knM,()) ((q4 (1) (0) (0) (1)),(0 : Int),())) (cAt_ok ofMatrix_ctr ⟨kn_lens,by decide⟩ kn_ofm)
  ).add 16 (cAt cMx ((q4 (1) (0) (0) (1)),()) (mRows 1 0 0 1,(0 : Int),())) (cAt_ok matrix_ctr trivial kn_mx)
theorem kn_chord : chordT 1 0 0 0 1 1 0 0 = (rawQ (Rat.divInt 1 2),0,()) := by
  unfold chordT
  rw [if_pos (by decide +kernel),show chordQ 1 0 0 0 1 1 0 0 = Rat.divInt 1 2 by decide +kernel]
noncomputable def LG3 : Lib := LG2.add 19 (cAt cChord ((q4 (1) (0) (0) (0)),(q4 (1) (1) (0) (0)),()) (rawQ (Rat.divInt 1 2),(0 : Int),())) (cAt_ok chord_ctr trivial kn_chord)
theorem known_ctr : CtrOk Tryz.prog 12 (cB true) := by
  refine ctr_fn LG3 [1,3,7,9,11] Tryz.func12 rfl (by decide) (fun x => []) (fun x hp => ?_)
  refine vc_of ((asT ((Int × Int × Int × Int × PUnit) × PUnit) ((-2,0,4,0,()),()) = (q4 (-2) 0 4 0,()) ∧ True) ∧ (asT ((Int × Int × Int × Int × PUnit) × (Int × Int × Int × Int × PUnit) × PUnit) ((1,1,0,0,()),(1,0,1,0,()),()) = (q4 1 1 0 0,q4 1 0 1 0,()) ∧ True) ∧ (asT ((Int × Int × Int × Int × PUnit) × PUnit) ((1,0,0,1,()),()) = (q4 1 0 0 1,()) ∧ True) ∧ ((((True ∧ True ∧ True ∧ True) ∧ True) ∧ ((True ∧ True ∧ True ∧ True) ∧ True) ∧ ((True ∧ True ∧ True ∧ True) ∧ True) ∧ True) ∧ asT (List (List RawQ) × PUnit) (List.map (fun (xs : Ty.den (Ty.list (Ty.lf Lf.rat))) => List.map (fun (x : Ty.den (Ty.lf Lf.rat)) => rawQ x) xs) ((rotQ 1 0 0 1 0 0 :: rotQ 1 0 0 1 0 1 :: rotQ 1 0 0 1 0 2 :: nilT Rat) :: (rotQ 1 0 0 1 1 0 :: rotQ 1 0 0 1 1 1 :: rotQ 1 0 0 1 1 2 :: nilT Rat) :: (rotQ 1 0 0 1 2 0 :: rotQ 1 0 0 1 2 1 :: rotQ 1 0 0 1 2 2 :: nilT Rat) :: nilT (List Rat)),()) = (knM,()) ∧ True) ∧ (asT ((Int × Int × Int × Int × PUnit) × (Int × Int × Int × Int × PUnit) × PUnit) ((1,0,0,0,()),(1,1,0,0,()),()) = (q4 1 0 0 0,q4 1 1 0 0,()) ∧ True) ∧ ((wordP 1 ∧ wordP 2 ∧ asT Int 2 ≠ 0) ∧ True) ∧ ((asT Bool true = true → asT Bool true = true ∧ asT Bool true = true ∧ True) ∧ (asT Bool true = true → asT Bool true = true) ∧ (asT Bool true = true → asT Bool true = true ∧ asT Bool true = true ∧ True) ∧ (asT Bool true = true → asT Bool true = true) ∧ (asT Bool true = true → asT Bool true = true ∧ asT Bool true = true ∧ True) ∧ (asT Bool true = true → asT Bool true = true) ∧ (asT Bool true = true → asT Bool true = true ∧ asT Bool true = true ∧ asT Bool true = true ∧ (rsz (Rat.divInt 1 2) ≤ 190000000 ∧ rsz (Rat.divInt 1 2) ≤ 190000000) ∧ True) ∧ (asT Bool true = true → asT Bool true = true) ∧ True) ∧ True ∧ asT Bool (bif bif bif bif asT Int 0 == 0 then eqI 1 1 && (eqI 0 0 && (eqI (-2) (-2) && (eqI 0 0 && true))) else false then eqI 1 1 && (eqI 1 1 && (eqI 1 1 && (eqI 1 1 && true))) else false then eqI 1 1 && (eqI 0 0 && (eqI 0 0 && (eqI 1 1 && true))) else false then decide (asT Rat (Rat.divInt 1 2) = Rat.divInt 1 2) else false) = true ∧ True) (by kernel_rfl) ?_
  have hw : wordP 1 ∧ wordP 2 := by unfold wordP;decide
  have hr : rsz (Rat.divInt 1 2) ≤ 190000000 := by decide +kernel
  refine ⟨⟨rfl,trivial⟩,⟨rfl,trivial⟩,⟨rfl,trivial⟩,⟨⟨⟨⟨trivial,trivial,trivial,trivial⟩,trivial⟩,⟨⟨trivial,trivial,trivial,trivial⟩,trivial⟩,⟨⟨trivial,trivial,trivial,trivial⟩,trivial⟩,trivial⟩,rfl,trivial⟩,⟨rfl,trivial⟩,⟨⟨hw.1,hw.2,by decide⟩,trivial⟩,⟨fun _ => ⟨rfl,rfl,trivial⟩,fun _ => rfl,fun _ => ⟨rfl,rfl,trivial⟩,fun _ => rfl,fun _ => ⟨rfl,rfl,trivial⟩,fun _ => rfl,fun _ => ⟨rfl,rfl,rfl,⟨hr,hr⟩,trivial⟩,fun _ => rfl,trivial⟩,trivial,by decide +kernel,trivial⟩
noncomputable def LK : Lib := LE2.add 12 (cB true) known_ctr
end Go.Proofs.YtidfgdchcpmnfaaGreat
namespace Go.Proofs.YtidfgdchcpmnfaaGreat
open Go Go.ChangeShapes Go.WideShapes Go.ChangeAt Go.RowKit Go.Joins
set_option linter.unusedVariables false
set_option maxRecDepth 100000
theorem own : ownKnob Tryz.prog.godebug = none := by kernel_rfl
theorem cellsQuat : Tryz.prog.cellsOf 33 = 4 := by kernel_rfl
section
variable {H : Type} {enc : TypeId × Value → H} {W : World} {base : Nat}
theorem open_quat {sp : Nat → Bool} {hd : Bool} {r : Reach} {b0 : Nat} {v : Value} {d : DataW H} {p : List MemPlace} (hv : Value.okWide Tryz.prog W r b0 33 v) (h : DataW.Trod enc Tryz.prog W base sp hd 33 v d p) :
    ∃ a b c e : Int,v = .agg #[.int .i64 a,.int .i64 b,.int .i64 c,.int .i64 e] ∧ d = .agg [.lit (.int .i64 a),.lit (.int .i64 b),.lit (.int .i64 c),.lit (.int .i64 e)] ∧ p = [] ∧ (Lit.int .i64 a).wf = true ∧ (Lit.int .i64 b).wf = true ∧ (Lit.int .i64 c).wf = true ∧ (Lit.int .i64 e).wf = true := by
  obtain ⟨c0,c1,c2,c3,y0,y1,y2,y3,m,rfl,rfl,rfl,hy0,hy1,hy2,hy3⟩ := open_agg4 Tryz.underlying33 (by kernel_rfl) cellsQuat hv h
  obtain ⟨a,e0,rfl,wa⟩ := DataW.trod_int Tryz.underlying3 hy0
  obtain ⟨b,e1,rfl,wb⟩ := DataW.trod_int Tryz.underlying3 hy1
  obtain ⟨c,e2,rfl,wc⟩ := DataW.trod_int Tryz.underlying3 hy2
  obtain ⟨e,e3,rfl,we⟩ := DataW.trod_int Tryz.underlying3 hy3
  simp at e0 e1 e2 e3
  subst e0 e1 e2 e3
  exact ⟨a,b,c,e,rfl,rfl,rfl,wa,wb,wc,we⟩
theorem shut_quat {sp : Nat → Bool} {hd : Bool} {a b c e : Int} (wa : (Lit.int .i64 a).wf = true) (wb : (Lit.int .i64 b).wf = true) (wc : (Lit.int .i64 c).wf = true) (we : (Lit.int .i64 e).wf = true) :
    DataW.Trod enc Tryz.prog W base sp hd 33 (.agg #[.int .i64 a,.int .i64 b,.int .i64 c,.int .i64 e]) (.agg [.lit (.int .i64 a),.lit (.int .i64 b),.lit (.int .i64 c),.lit (.int .i64 e)]) [] :=
  shut_agg4 (y0 := (.lit (.int .i64 a),[])) (y1 := (.lit (.int .i64 b),[])) (y2 := (.lit (.int .i64 c),[])) (y3 := (.lit (.int .i64 e),[])) Tryz.underlying33 (by kernel_rfl) cellsQuat ⟨1,by simp [DataW.trod,Tryz.underlying3,wa]⟩ ⟨1,by simp [DataW.trod,Tryz.underlying3,wb]⟩ ⟨1,by simp [DataW.trod,Tryz.underlying3,wc]⟩ ⟨1,by simp [DataW.trod,Tryz.underlying3,we]⟩
end
end Go.Proofs.YtidfgdchcpmnfaaGreat
namespace Go.Proofs.YtidfgdchcpmnfaaGreat
open Go Go.ChangeShapes Go.WideShapes Go.ChangeAt Go.RowKit Go.Joins
set_option linter.unusedVariables false
set_option maxRecDepth 100000 in
theorem rotationMatrices_frame (walk : ∀ (a0a a0b a0c a0d a1a a1b a1c a1d : Int) (wa0a : (Lit.int .i64 a0a).wf = true) (wa0b : (Lit.int .i64 a0b).wf = true) (wa0c : (Lit.int .i64 a0c).wf = true) (wa0d : (Lit.int .i64 a0d).wf = true) (wa1a : (Lit.int .i64 a1a).wf = true) (wa1b : (Lit.int .i64 a1b).wf = true) (wa1c : (Lit.int .i64 a1c).wf = true) (wa1d : (Lit.int .i64 a1d).wf = true) (w : World),Calls Tryz.prog 8 #[.agg #[.int .i64 a0a,.int .i64 a0b,.int .i64 a0c,.int .i64 a0d],.agg #[.int .i64 a1a,.int .i64 a1b,.int .i64 a1c,.int .i64 a1d]] w fun e w' => e = .returned (.bool true) ∧ Below w.heap.size w w') : Rows.RotationMatricesSaid := by
  have lifted : ∀ (os : Os) (started : os.Started) (H : Type) (enc : TypeId × Value → H),ReturnsInHanded {} Tryz.checked os 8 .any (Rows.rotationMatricesSpec.pre6 enc Tryz.prog Tryz.f8 Rows.rotationMatricesRow.domain false) (Rows.rotationMatricesSpec.post enc Tryz.prog Tryz.f8 false true false false) := by
    intro os started H enc
    refine returnsInHanded_of_change (C := Tryz.checked) own started (by kernel_rfl) Tryz.func8
      (ChangeSpec.witness6 (enc := enc) (C := Tryz.checked) false ⟨#[],#[.agg #[.int .i64 0,.int .i64 0,.int .i64 0,.int .i64 0],.agg #[.int .i64 0,.int .i64 0,.int .i64 0,.int .i64 0]],[]⟩ 8 (by kernel_rfl) (by kernel_rfl) (by kernel_rfl) (by kernel_rfl)) ?_
    intro W base args ds gs before hval0 hW hcnd _
    have hval : ∀ (j : Nat) t v,Tryz.f8.params[j]? = some t → args[j]? = some v → Value.okWide Tryz.prog W .any base t v := hval0
    have hW' := hW
    obtain ⟨p,q,hA0,hV,rfl,hfz,hnd⟩ := hW
    have hA : DataW.TrodAll enc Tryz.prog W 0 (fun _ => true) true Tryz.f8.params.toList args.toList ds p := hA0
    rw [Tryz.params8] at hA hval
    obtain ⟨v0,vs0,d0,ds0,p0,q0,hargs,rfl,rfl,h0,r0⟩ := trodAll_cons hA
    obtain ⟨v1,vs1,d1,ds1,p1,q1,rfl,rfl,rfl,h1,r1⟩ := trodAll_cons r0
    obtain ⟨rfl,rfl,rfl⟩ := trodAll_nil r1
    obtain rfl : args = #[v0,v1] := by cases args;simp_all
    obtain ⟨rfl,rfl⟩ := trodVars_none hV
    obtain ⟨a0a,a0b,a0c,a0d,rfl,rfl,rfl,wa0a,wa0b,wa0c,wa0d⟩ := open_quat (hval 0 33 v0 rfl rfl) h0
    obtain ⟨a1a,a1b,a1c,a1d,rfl,rfl,rfl,wa1a,wa1b,wa1c,wa1d⟩ := open_quat (hval 1 33 v1 rfl rfl) h1
    clear hA0 hval0
    simp only [List.append_nil] at hW'
    refine (walk a0a a0b a0c a0d a1a a1b a1c a1d wa0a wa0b wa0c wa0d wa1a wa1b wa1c wa1d W).mono fun e W' ⟨he,hg⟩ => ?_
    subst he
    exact ⟨_,rfl,_,_,_,[],[],[],hW',trodAll_cons_mk (shut_bool Tryz.underlying4 _) trodAll_mk0,(trodAll_cons_mk (shut_quat wa0a wa0b wa0c wa0d) (trodAll_cons_mk (shut_quat wa1a wa1b wa1c wa1d) trodAll_mk0)),rfl,hg.frame _,fun h => by cases h⟩
  exact OpenClaim.holds_of_wide 8 Tryz.f8 rfl rfl rfl rfl rfl rfl rfl ⟨rfl,rfl,rfl,rfl,rfl⟩ rfl rfl rfl rfl rfl (by kernel_rfl) Tryz.func8 (by kernel_rfl)
    (of_decide_eq_true (by kernel_rfl)) (by unfold Func.isWrapper;first | (rw [if_pos (by decide +kernel)];kernel_rfl) | (rw [if_neg (by decide +kernel)];exact ⟨rfl,rfl⟩))
    (fun os started H enc _ => lifted os started H enc)
end Go.Proofs.YtidfgdchcpmnfaaGreat
namespace Go.Proofs.YtidfgdchcpmnfaaGreat
open Go Go.RowKit
set_option maxRecDepth 100000
set_option maxHeartbeats 400000
set_option linter.unusedVariables false
set_option linter.unusedSimpArgs false
theorem qcV_inj {x : QC4} {a b c d z : Int} (h : qcV x = .tuple #[.agg #[.int .i64 a,.int .i64 b,.int .i64 c,.int .i64 d],.int .i64 z]) : x = ((a,b,c,d,()),z,()) := by
  obtain ⟨⟨p,q,r,s,⟨⟩⟩,t,⟨⟩⟩ := x
  unfold qcV at h
  simp at h
  obtain ⟨⟨rfl,rfl,rfl,rfl⟩,rfl⟩ := h
  rfl
theorem mRows_small {a b c d : Int} (h : qcode a b c d = 0) : smallM (mRows a b c d) := by
  obtain ⟨hn,oa,ob,oc,od⟩ := qcode_ok h
  have hN : normI a b c d ≠ 0 := by have := normI_pos hn;omega
  intro r hr q hq
  simp only [mRows,List.mem_map,List.mem_range] at hr
  obtain ⟨i,hi,rfl⟩ := hr
  simp only [List.mem_map,List.mem_range] at hq
  obtain ⟨j,hj,rfl⟩ := hq
  exact Nat.le_trans (rotQ_rsz oa ob oc od hN hi hj) (by omega)
theorem mRows_e2 (a b c d : Int) {i j : Nat} (hi : i < 3) (hj : j < 3) : e2 (mRows a b c d) i j = rotQ a b c d i j := by
  have e : i = 0 ∨ i = 1 ∨ i = 2 := by omega
  have e' : j = 0 ∨ j = 1 ∨ j = 2 := by omega
  rcases e with rfl | rfl | rfl <;> rcases e' with rfl | rfl | rfl <;> rfl
theorem mRows_turned {a b c d p q r s : Int} (h : ∀ i j,i < 3 → j < 3 → rotQ p q r s i j = rotQ a b c d j i) : ([0,1,2].map fun k => [e2 (mRows a b c d) 0 k,e2 (mRows a b c d) 1 k,e2 (mRows a b c d) 2 k]) = mRows p q r s := by
  show [[rotQ a b c d 0 0,rotQ a b c d 1 0,rotQ a b c d 2 0],[rotQ a b c d 0 1,rotQ a b c d 1 1,rotQ a b c d 2 1],[rotQ a b c d 0 2,rotQ a b c d 1 2,rotQ a b c d 2 2]] = [[rotQ p q r s 0 0,rotQ p q r s 0 1,rotQ p q r s 0 2],[rotQ p q r s 1 0,rotQ p q r s 1 1,rotQ p q r s 1 2],[rotQ p q r s 2 0,rotQ p q r s 2 1,rotQ p q r s 2 2]]
  rw [h 0 0 (by omega) (by omega),h 0 1 (by omega) (by omega),h 0 2 (by omega) (by omega),h 1 0 (by omega) (by omega),h 1 1 (by omega) (by omega),h 1 2 (by omega) (by omega),h 2 0 (by omega) (by omega),h 2 1 (by omega) (by omega),h 2 2 (by omega) (by omega)]
theorem mRows_times {a b c d e f g h p q r s : Int} (hm : ∀ i j,i < 3 → j < 3 → rotQ p q r s i j = dotQ (rotQ a b c d i) (fun k => rotQ e f g h k j) 3) : ((List.range 3).map fun i => (List.range 3).map fun k => prodE (mRows a b c d) (mRows e f g h) i k) = mRows p q r s := by
  unfold mRows
  refine List.map_congr_left (fun i hi => List.map_congr_left (fun k hk => ?_))
  rw [List.mem_range] at hi hk
  rw [hm i k hi hk]
  refine dotQ_congr 3 (fun j hj => ⟨mRows_e2 a b c d hi hj,mRows_e2 e f g h hj hk⟩)
noncomputable def LM : Lib := (((LK.add 35 cSM sameMatrix_ctr).add 36 cTr transposed_ctr).add 37 cTm times_ctr).add 16 cMx matrix_ctr
theorem matrices_ctr : CtrOk Tryz.prog 8 ⟨[tQuat,tQuat],[tB],fun x => True,fun x => (true,())⟩ := by
  refine ctr_fn LM [9,15] Tryz.func8 rfl (by decide) (fun x => []) (fun x hp => ?_)
  obtain ⟨⟨a,b,c,d,v⟩,⟨e,f,g,h,z⟩,u⟩ := x
  change Int at a;change Int at b;change Int at c;change Int at d;change Int at e;change Int at f;change Int at g;change Int at h
  refine vc_of (let x0z := (if qcode a b c d = 0 then mRows a b c d else nilT (List Rat));let x1z := (if qcode e f g h = 0 then mRows e f g h else nilT (List Rat));let x2z := (if qcode (Prod.fst (Prod.fst (conjT a b c d))) (Prod.fst (Prod.snd (Prod.fst (conjT a b c d)))) (Prod.fst (Prod.snd (Prod.snd (Prod.fst (conjT a b c d))))) (Prod.fst (Prod.snd (Prod.snd (Prod.snd (Prod.fst (conjT a b c d)))))) = 0 then mRows (Prod.fst (Prod.fst (conjT a b c d))) (Prod.fst (Prod.snd (Prod.fst (conjT a b c d)))) (Prod.fst (Prod.snd (Prod.snd (Prod.fst (conjT a b c d))))) (Prod.fst (Prod.snd (Prod.snd (Prod.snd (Prod.fst (conjT a b c d)))))) else nilT (List Rat));let x3z := (bif bif bif bif bif bif natI (List.length x0z) != 3 then true else natI (List.length x1z) != 3 then true else natI (List.length (List.getD x0z 0 (nilT Rat))) != 3 then true else natI (List.length (List.getD x1z 0 (nilT Rat))) != 3 then true else natI (List.length (List.getD x0z 1 (nilT Rat))) != 3 then true else natI (List.length (List.getD x1z 1 (nilT Rat))) != 3 then true else natI (List.length (List.getD x0z 2 (nilT Rat))) != 3);let x4z := (bif bif bif bif bif natI (List.length x0z) != 3 then true else natI (List.length x1z) != 3 then true else natI (List.length (List.getD x0z 0 (nilT Rat))) != 3 then true else natI (List.length (List.getD x1z 0 (nilT Rat))) != 3 then true else natI (List.length (List.getD x0z 1 (nilT Rat))) != 3 then true else natI (List.length (List.getD x1z 1 (nilT Rat))) != 3);let x5z := (Prod.snd (Prod.fst (conjT a b c d)));let x6z := (bif bif bif bif natI (List.length x0z) != 3 then true else natI (List.length x1z) != 3 then true else natI (List.length (List.getD x0z 0 (nilT Rat))) != 3 then true else natI (List.length (List.getD x1z 0 (nilT Rat))) != 3 then true else natI (List.length (List.getD x0z 1 (nilT Rat))) != 3);let x7z := (Prod.snd (Prod.fst (mulT a b c d e f g h)));let x8z := (bif bif bif natI (List.length x0z) != 3 then true else natI (List.length x1z) != 3 then true else natI (List.length (List.getD x0z 0 (nilT Rat))) != 3 then true else natI (List.length (List.getD x1z 0 (nilT Rat))) != 3);let x9z := (bif qcode (Prod.fst (Prod.fst (conjT a b c d))) (Prod.fst x5z) (Prod.fst (Prod.snd x5z)) (Prod.fst (Prod.snd (Prod.snd x5z))) != 0 then true else asT Int (qcode 1 0 0 0) != 0);let x10z := (bif bif natI (List.length x0z) != 3 then true else natI (List.length x1z) != 3 then true else natI (List.length (List.getD x0z 0 (nilT Rat))) != 3);let x11z := (qcode (Prod.fst (Prod.fst (mulT a b c d e f g h))) (Prod.fst x7z) (Prod.fst (Prod.snd x7z)) (Prod.fst (Prod.snd (Prod.snd x7z))) == 0);(True ∧ True) ∧ (True ∧ True) ∧ (True ∧ True) ∧ (True ∧ True) ∧ (True ∧ (((qcode a b c d != qcode a b c d) == false) = true → ((qcode a b c d != qcode a b c d) == false) = true ∧ True ∧ True) ∧ (((qcode a b c d != qcode a b c d) == false) = true → ((qcode a b c d != qcode a b c d) == false) = true ∧ ((qcode a b c d != qcode a b c d) == false) = true ∧ True) ∧ ((qcode a b c d != qcode a b c d) = false → ((qcode a b c d != qcode a b c d) == false) = true) ∧ (((bif qcode a b c d != qcode a b c d then true else qcode e f g h != qcode e f g h) == false) = true → ((bif qcode a b c d != qcode a b c d then true else qcode e f g h != qcode e f g h) == false) = true ∧ ((bif qcode a b c d != qcode a b c d then true else qcode e f g h != qcode e f g h) == false) = true ∧ True) ∧ ((bif qcode a b c d != qcode a b c d then true else qcode e f g h != qcode e f g h) = false → ((bif qcode a b c d != qcode a b c d then true else qcode e f g h != qcode e f g h) == false) = true) ∧ True) ∧ ifB (bif bif qcode a b c d != qcode a b c d then true else qcode e f g h != qcode e f g h then true else Prod.fst (Prod.snd (conjT a b c d)) != qcode a b c d) (True ∧ asT Bool false = true ∧ True) (((((qcode a b c d != 0) == false) = true → ((qcode a b c d != 0) == false) = true ∧ True) ∧ ((qcode a b c d != 0) = false → ((qcode a b c d != 0) == false) = true) ∧ True) ∧ ifB (bif qcode a b c d != 0 then true else qcode e f g h != 0) (True ∧ asT Bool true = true ∧ True) (((((natI (List.length x0z) != 3) == false) = true → ((natI (List.length x0z) != 3) == false) = true ∧ True) ∧ (((natI (List.length x0z) != 3) == false) = true → ((natI (List.length x0z) != 3) == false) = true ∧ True) ∧ ((natI (List.length x0z) != 3) = false → ((natI (List.length x0z) != 3) == false) = true) ∧ (((bif natI (List.length x0z) != 3 then true else natI (List.length x1z) != 3) == false) = true → ((bif natI (List.length x0z) != 3 then true else natI (List.length x1z) != 3) == false) = true ∧ asT Int 0 ≤ 0 ∧ 0 < natI (List.length x0z) ∧ True) ∧ (((bif natI (List.length x0z) != 3 then true else natI (List.length x1z) != 3) == false) = true → ((bif natI (List.length x0z) != 3 then true else natI (List.length x1z) != 3) == false) = true ∧ True) ∧ (((bif natI (List.length x0z) != 3 then true else natI (List.length x1z) != 3) == false) = true → ((bif natI (List.length x0z) != 3 then true else natI (List.length x1z) != 3) == false) = true ∧ True) ∧ (((bif natI (List.length x0z) != 3 then true else natI (List.length x1z) != 3) == false) = true → ((bif natI (List.length x0z) != 3 then true else natI (List.length x1z) != 3) == false) = true ∧ True) ∧ ((bif natI (List.length x0z) != 3 then true else natI (List.length x1z) != 3) = false → ((bif natI (List.length x0z) != 3 then true else natI (List.length x1z) != 3) == false) = true) ∧ ((x10z == false) = true → (x10z == false) = true ∧ asT Int 0 ≤ 0 ∧ 0 < natI (List.length x1z) ∧ True) ∧ ((x10z == false) = true → (x10z == false) = true ∧ True) ∧ ((x10z == false) = true → (x10z == false) = true ∧ True) ∧ ((x10z == false) = true → (x10z == false) = true ∧ True) ∧ (x10z = false → (x10z == false) = true) ∧ ((x8z == false) = true → (x8z == false) = true ∧ asT Int 0 ≤ 1 ∧ 1 < natI (List.length x0z) ∧ True) ∧ ((x8z == false) = true → (x8z == false) = true ∧ True) ∧ ((x8z == false) = true → (x8z == false) = true ∧ True) ∧ ((x8z == false) = true → (x8z == false) = true ∧ True) ∧ (x8z = false → (x8z == false) = true) ∧ ((x6z == false) = true → (x6z == false) = true ∧ asT Int 0 ≤ 1 ∧ 1 < natI (List.length x1z) ∧ True) ∧ ((x6z == false) = true → (x6z == false) = true ∧ True) ∧ ((x6z == false) = true → (x6z == false) = true ∧ True) ∧ ((x6z == false) = true → (x6z == false) = true ∧ True) ∧ (x6z = false → (x6z == false) = true) ∧ ((x4z == false) = true → (x4z == false) = true ∧ asT Int 0 ≤ 2 ∧ 2 < natI (List.length x0z) ∧ True) ∧ ((x4z == false) = true → (x4z == false) = true ∧ True) ∧ ((x4z == false) = true → (x4z == false) = true ∧ True) ∧ ((x4z == false) = true → (x4z == false) = true ∧ True) ∧ (x4z = false → (x4z == false) = true) ∧ ((x3z == false) = true → (x3z == false) = true ∧ asT Int 0 ≤ 2 ∧ 2 < natI (List.length x1z) ∧ True) ∧ ((x3z == false) = true → (x3z == false) = true ∧ True) ∧ ((x3z == false) = true → (x3z == false) = true ∧ True) ∧ ((x3z == false) = true → (x3z == false) = true ∧ True) ∧ (x3z = false → (x3z == false) = true) ∧ True) ∧ ifB (bif bif bif bif bif bif bif natI (List.length x0z) != 3 then true else natI (List.length x1z) != 3 then true else natI (List.length (List.getD x0z 0 (nilT Rat))) != 3 then true else natI (List.length (List.getD x1z 0 (nilT Rat))) != 3 then true else natI (List.length (List.getD x0z 1 (nilT Rat))) != 3 then true else natI (List.length (List.getD x1z 1 (nilT Rat))) != 3 then true else natI (List.length (List.getD x0z 2 (nilT Rat))) != 3 then true else natI (List.length (List.getD x1z 2 (nilT Rat))) != 3) (True ∧ asT Bool false = true ∧ True) ((True ∧ True) ∧ (True ∧ True) ∧ ((((qcode (Prod.fst (Prod.fst (conjT a b c d))) (Prod.fst x5z) (Prod.fst (Prod.snd x5z)) (Prod.fst (Prod.snd (Prod.snd x5z))) != 0) == false) = true → ((qcode (Prod.fst (Prod.fst (conjT a b c d))) (Prod.fst x5z) (Prod.fst (Prod.snd x5z)) (Prod.fst (Prod.snd (Prod.snd x5z))) != 0) == false) = true ∧ True) ∧ ((qcode (Prod.fst (Prod.fst (conjT a b c d))) (Prod.fst x5z) (Prod.fst (Prod.snd x5z)) (Prod.fst (Prod.snd (Prod.snd x5z))) != 0) = false → ((qcode (Prod.fst (Prod.fst (conjT a b c d))) (Prod.fst x5z) (Prod.fst (Prod.snd x5z)) (Prod.fst (Prod.snd (Prod.snd x5z))) != 0) == false) = true) ∧ ((x9z == false) = true → (x9z == false) = true ∧ (List.length x0z = 3 ∧ ∀ (r : List Rat),(r ∈ if qcode a b c d = 0 then mRows a b c d else nilT (List Rat)) → List.length r = 3) ∧ True) ∧ ((x9z == false) = true → (x9z == false) = true ∧ (x9z == false) = true ∧ (smallM x2z ∧ smallM (List.map (fun (k : Nat) => e2 x0z 0 k :: e2 x0z 1 k :: e2 x0z 2 k :: nilT Rat) (0 :: 1 :: 2 :: nilT Nat)) ∧ List.length x2z ≤ 1000000000 ∧ ∀ (r : List Rat),(r ∈ if qcode (Prod.fst (Prod.fst (conjT a b c d))) (Prod.fst x5z) (Prod.fst (Prod.snd x5z)) (Prod.fst (Prod.snd (Prod.snd x5z))) = 0 then mRows (Prod.fst (Prod.fst (conjT a b c d))) (Prod.fst x5z) (Prod.fst (Prod.snd x5z)) (Prod.fst (Prod.snd (Prod.snd x5z))) else nilT (List Rat)) → List.length r ≤ 1000000000) ∧ True) ∧ ((x9z == false) = true → (x9z == false) = true ∧ True) ∧ (x9z = false → (x9z == false) = true) ∧ (((bif bif qcode (Prod.fst (Prod.fst (conjT a b c d))) (Prod.fst x5z) (Prod.fst (Prod.snd x5z)) (Prod.fst (Prod.snd (Prod.snd x5z))) != 0 then true else asT Int (qcode 1 0 0 0) != 0 then true else !x2z == List.map (fun (k : Nat) => e2 x0z 0 k :: e2 x0z 1 k :: e2 x0z 2 k :: nilT Rat) (0 :: 1 :: 2 :: nilT Nat)) == false) = true → ((bif bif qcode (Prod.fst (Prod.fst (conjT a b c d))) (Prod.fst x5z) (Prod.fst (Prod.snd x5z)) (Prod.fst (Prod.snd (Prod.snd x5z))) != 0 then true else asT Int (qcode 1 0 0 0) != 0 then true else !x2z == List.map (fun (k : Nat) => e2 x0z 0 k :: e2 x0z 1 k :: e2 x0z 2 k :: nilT Rat) (0 :: 1 :: 2 :: nilT Nat)) == false) = true ∧ (List.length x0z = 3 ∧ ∀ (r : List Rat),(r ∈ if qcode a b c d = 0 then mRows a b c d else nilT (List Rat)) → List.length r = 3) ∧ True) ∧ (((bif bif qcode (Prod.fst (Prod.fst (conjT a b c d))) (Prod.fst x5z) (Prod.fst (Prod.snd x5z)) (Prod.fst (Prod.snd (Prod.snd x5z))) != 0 then true else asT Int (qcode 1 0 0 0) != 0 then true else !x2z == List.map (fun (k : Nat) => e2 x0z 0 k :: e2 x0z 1 k :: e2 x0z 2 k :: nilT Rat) (0 :: 1 :: 2 :: nilT Nat)) == false) = true → ((bif bif qcode (Prod.fst (Prod.fst (conjT a b c d))) (Prod.fst x5z) (Prod.fst (Prod.snd x5z)) (Prod.fst (Prod.snd (Prod.snd x5z))) != 0 then true else asT Int (qcode 1 0 0 0) != 0 then true else !x2z == List.map (fun (k : Nat) => e2 x0z 0 k :: e2 x0z 1 k :: e2 x0z 2 k :: nilT Rat) (0 :: 1 :: 2 :: nilT Nat)) == false) = true ∧ ((bif bif qcode (Prod.fst (Prod.fst (conjT a b c d))) (Prod.fst x5z) (Prod.fst (Prod.snd x5z)) (Prod.fst (Prod.snd (Prod.snd x5z))) != 0 then true else asT Int (qcode 1 0 0 0) != 0 then true else !x2z == List.map (fun (k : Nat) => e2 x0z 0 k :: e2 x0z 1 k :: e2 x0z 2 k :: nilT Rat) (0 :: 1 :: 2 :: nilT Nat)) == false) = true ∧ (List.length x0z = 3 ∧ List.length (List.map (fun (k : Nat) => e2 x0z 0 k :: e2 x0z 1 k :: e2 x0z 2 k :: nilT Rat) (0 :: 1 :: 2 :: nilT Nat)) = 3 ∧ (∀ (r : List Rat),(r ∈ if qcode a b c d = 0 then mRows a b c d else nilT (List Rat)) → List.length r = 3) ∧ (∀ (r : List Rat),r ∈ List.map (fun (k : Nat) => e2 x0z 0 k :: e2 x0z 1 k :: e2 x0z 2 k :: nilT Rat) (0 :: 1 :: 2 :: nilT Nat) → List.length r = 3) ∧ ∀ (i k : Nat),i < 3 → k < 3 → rsz (e2 x0z i k) ≤ 10 ∧ rsz (e2 (List.map (fun (k : Nat) => e2 x0z 0 k :: e2 x0z 1 k :: e2 x0z 2 k :: nilT Rat) (0 :: 1 :: 2 :: nilT Nat)) i k) ≤ 10) ∧ True) ∧ (((bif bif qcode (Prod.fst (Prod.fst (conjT a b c d))) (Prod.fst x5z) (Prod.fst (Prod.snd x5z)) (Prod.fst (Prod.snd (Prod.snd x5z))) != 0 then true else asT Int (qcode 1 0 0 0) != 0 then true else !x2z == List.map (fun (k : Nat) => e2 x0z 0 k :: e2 x0z 1 k :: e2 x0z 2 k :: nilT Rat) (0 :: 1 :: 2 :: nilT Nat)) == false) = true → ((bif bif qcode (Prod.fst (Prod.fst (conjT a b c d))) (Prod.fst x5z) (Prod.fst (Prod.snd x5z)) (Prod.fst (Prod.snd (Prod.snd x5z))) != 0 then true else asT Int (qcode 1 0 0 0) != 0 then true else !x2z == List.map (fun (k : Nat) => e2 x0z 0 k :: e2 x0z 1 k :: e2 x0z 2 k :: nilT Rat) (0 :: 1 :: 2 :: nilT Nat)) == false) = true ∧ ((bif bif qcode (Prod.fst (Prod.fst (conjT a b c d))) (Prod.fst x5z) (Prod.fst (Prod.snd x5z)) (Prod.fst (Prod.snd (Prod.snd x5z))) != 0 then true else asT Int (qcode 1 0 0 0) != 0 then true else !x2z == List.map (fun (k : Nat) => e2 x0z 0 k :: e2 x0z 1 k :: e2 x0z 2 k :: nilT Rat) (0 :: 1 :: 2 :: nilT Nat)) == false) = true ∧ (smallM (List.map (fun (i : Nat) => List.map (fun (k : Nat) => prodE x0z (List.map (fun (k : Nat) => e2 x0z 0 k :: e2 x0z 1 k :: e2 x0z 2 k :: nilT Rat) (0 :: 1 :: 2 :: nilT Nat)) i k) (List.range 3)) (List.range 3)) ∧ smallM ((rotQ 1 0 0 0 0 0 :: rotQ 1 0 0 0 0 1 :: rotQ 1 0 0 0 0 2 :: nilT Rat) :: (rotQ 1 0 0 0 1 0 :: rotQ 1 0 0 0 1 1 :: rotQ 1 0 0 0 1 2 :: nilT Rat) :: (rotQ 1 0 0 0 2 0 :: rotQ 1 0 0 0 2 1 :: rotQ 1 0 0 0 2 2 :: nilT Rat) :: nilT (List Rat)) ∧ List.length (List.map (fun (i : Nat) => List.map (fun (k : Nat) => prodE x0z (List.map (fun (k : Nat) => e2 x0z 0 k :: e2 x0z 1 k :: e2 x0z 2 k :: nilT Rat) (0 :: 1 :: 2 :: nilT Nat)) i k) (List.range 3)) (List.range 3)) ≤ 1000000000 ∧ ∀ (r : List Rat),r ∈ List.map (fun (i : Nat) => List.map (fun (k : Nat) => prodE x0z (List.map (fun (k : Nat) => e2 x0z 0 k :: e2 x0z 1 k :: e2 x0z 2 k :: nilT Rat) (0 :: 1 :: 2 :: nilT Nat)) i k) (List.range 3)) (List.range 3) → List.length r ≤ 1000000000) ∧ True) ∧ (((bif bif qcode (Prod.fst (Prod.fst (conjT a b c d))) (Prod.fst x5z) (Prod.fst (Prod.snd x5z)) (Prod.fst (Prod.snd (Prod.snd x5z))) != 0 then true else asT Int (qcode 1 0 0 0) != 0 then true else !x2z == List.map (fun (k : Nat) => e2 x0z 0 k :: e2 x0z 1 k :: e2 x0z 2 k :: nilT Rat) (0 :: 1 :: 2 :: nilT Nat)) == false) = true → ((bif bif qcode (Prod.fst (Prod.fst (conjT a b c d))) (Prod.fst x5z) (Prod.fst (Prod.snd x5z)) (Prod.fst (Prod.snd (Prod.snd x5z))) != 0 then true else asT Int (qcode 1 0 0 0) != 0 then true else !x2z == List.map (fun (k : Nat) => e2 x0z 0 k :: e2 x0z 1 k :: e2 x0z 2 k :: nilT Rat) (0 :: 1 :: 2 :: nilT Nat)) == false) = true ∧ True) ∧ ((bif bif qcode (Prod.fst (Prod.fst (conjT a b c d))) (Prod.fst x5z) (Prod.fst (Prod.snd x5z)) (Prod.fst (Prod.snd (Prod.snd x5z))) != 0 then true else asT Int (qcode 1 0 0 0) != 0 then true else !x2z == List.map (fun (k : Nat) => e2 x0z 0 k :: e2 x0z 1 k :: e2 x0z 2 k :: nilT Rat) (0 :: 1 :: 2 :: nilT Nat)) = false → ((bif bif qcode (Prod.fst (Prod.fst (conjT a b c d))) (Prod.fst x5z) (Prod.fst (Prod.snd x5z)) (Prod.fst (Prod.snd (Prod.snd x5z))) != 0 then true else asT Int (qcode 1 0 0 0) != 0 then true else !x2z == List.map (fun (k : Nat) => e2 x0z 0 k :: e2 x0z 1 k :: e2 x0z 2 k :: nilT Rat) (0 :: 1 :: 2 :: nilT Nat)) == false) = true) ∧ True) ∧ ifB (bif bif bif qcode (Prod.fst (Prod.fst (conjT a b c d))) (Prod.fst x5z) (Prod.fst (Prod.snd x5z)) (Prod.fst (Prod.snd (Prod.snd x5z))) != 0 then true else asT Int (qcode 1 0 0 0) != 0 then true else !x2z == List.map (fun (k : Nat) => e2 x0z 0 k :: e2 x0z 1 k :: e2 x0z 2 k :: nilT Rat) (0 :: 1 :: 2 :: nilT Nat) then true else !List.map (fun (i : Nat) => List.map (fun (k : Nat) => prodE x0z (List.map (fun (k : Nat) => e2 x0z 0 k :: e2 x0z 1 k :: e2 x0z 2 k :: nilT Rat) (0 :: 1 :: 2 :: nilT Nat)) i k) (List.range 3)) (List.range 3) == (rotQ 1 0 0 0 0 0 :: rotQ 1 0 0 0 0 1 :: rotQ 1 0 0 0 0 2 :: nilT Rat) :: (rotQ 1 0 0 0 1 0 :: rotQ 1 0 0 0 1 1 :: rotQ 1 0 0 0 1 2 :: nilT Rat) :: (rotQ 1 0 0 0 2 0 :: rotQ 1 0 0 0 2 1 :: rotQ 1 0 0 0 2 2 :: nilT Rat) :: nilT (List Rat)) (True ∧ asT Bool false = true ∧ True) ((True ∧ True) ∧ ifB (Prod.fst (Prod.snd (mulT a b c d e f g h)) != 0) (True ∧ (Prod.fst (Prod.snd (mulT a b c d e f g h)) == 3) = true ∧ True) ((True ∧ True) ∧ (((x11z == true) = true → (x11z == true) = true ∧ (x11z == true) = true ∧ (List.length x0z = 3 ∧ List.length x1z = 3 ∧ (∀ (r : List Rat),(r ∈ if qcode a b c d = 0 then mRows a b c d else nilT (List Rat)) → List.length r = 3) ∧ (∀ (r : List Rat),(r ∈ if qcode e f g h = 0 then mRows e f g h else nilT (List Rat)) → List.length r = 3) ∧ ∀ (i k : Nat),i < 3 → k < 3 → rsz (e2 x0z i k) ≤ 10 ∧ rsz (e2 x1z i k) ≤ 10) ∧ True) ∧ ((x11z == true) = true → (x11z == true) = true ∧ (x11z == true) = true ∧ (smallM (if qcode (Prod.fst (Prod.fst (mulT a b c d e f g h))) (Prod.fst x7z) (Prod.fst (Prod.snd x7z)) (Prod.fst (Prod.snd (Prod.snd x7z))) = 0 then mRows (Prod.fst (Prod.fst (mulT a b c d e f g h))) (Prod.fst x7z) (Prod.fst (Prod.snd x7z)) (Prod.fst (Prod.snd (Prod.snd x7z))) else nilT (List Rat)) ∧ smallM (List.map (fun (i : Nat) => List.map (fun (k : Nat) => prodE x0z x1z i k) (List.range 3)) (List.range 3)) ∧ List.length (if qcode (Prod.fst (Prod.fst (mulT a b c d e f g h))) (Prod.fst x7z) (Prod.fst (Prod.snd x7z)) (Prod.fst (Prod.snd (Prod.snd x7z))) = 0 then mRows (Prod.fst (Prod.fst (mulT a b c d e f g h))) (Prod.fst x7z) (Prod.fst (Prod.snd x7z)) (Prod.fst (Prod.snd (Prod.snd x7z))) else nilT (List Rat)) ≤ 1000000000 ∧ ∀ (r : List Rat),(r ∈ if qcode (Prod.fst (Prod.fst (mulT a b c d e f g h))) (Prod.fst x7z) (Prod.fst (Prod.snd x7z)) (Prod.fst (Prod.snd (Prod.snd x7z))) = 0 then mRows (Prod.fst (Prod.fst (mulT a b c d e f g h))) (Prod.fst x7z) (Prod.fst (Prod.snd x7z)) (Prod.fst (Prod.snd (Prod.snd x7z))) else nilT (List Rat)) → List.length r ≤ 1000000000) ∧ True) ∧ (x11z = true → (x11z == true) = true) ∧ True) ∧ True ∧ (bif qcode (Prod.fst (Prod.fst (mulT a b c d e f g h))) (Prod.fst x7z) (Prod.fst (Prod.snd x7z)) (Prod.fst (Prod.snd (Prod.snd x7z))) == 0 then (if qcode (Prod.fst (Prod.fst (mulT a b c d e f g h))) (Prod.fst x7z) (Prod.fst (Prod.snd x7z)) (Prod.fst (Prod.snd (Prod.snd x7z))) = 0 then mRows (Prod.fst (Prod.fst (mulT a b c d e f g h))) (Prod.fst x7z) (Prod.fst (Prod.snd x7z)) (Prod.fst (Prod.snd (Prod.snd x7z))) else nilT (List Rat)) == List.map (fun (i : Nat) => List.map (fun (k : Nat) => prodE x0z x1z i k) (List.range 3)) (List.range 3) else false) = true ∧ True)))))) (by kernel_rfl) ?_
  by_cases hp : qcode a b c d = 0
  · obtain ⟨ya,yb,yc,yd,hy,hoy,hey⟩ := conj_rot hp
    have hy' : conjT a b c d = ((ya,yb,yc,yd,()),0,()) := qcV_inj ((qc_conj a b c d).trans hy)
    by_cases hq : qcode e f g h = 0
    · dsimp only [natI,asT,nilT] at *
      have lq : ∀ a b c d : Int,(mRows a b c d).length = 3 := fun _ _ _ _ => rfl
      have l0 : ∀ a b c d : Int,((mRows a b c d).getD 0 []).length = 3 := fun _ _ _ _ => rfl
      have l1 : ∀ a b c d : Int,((mRows a b c d).getD 1 []).length = 3 := fun _ _ _ _ => rfl
      have l2 : ∀ a b c d : Int,((mRows a b c d).getD 2 []).length = 3 := fun _ _ _ _ => rfl
      have o1 : qcode 1 0 0 0 = 0 := by decide +kernel
      simp only [hp,hq,hy',hoy,o1,lq,l0,l1,l2,if_pos,bne_self_eq_false,cond_false,ifB]
      have t3 : (((3 : Nat) : Int) != 3) = false := rfl
      have t0 : ((0 : Int) != 0) = false := rfl
      have ff : (false == false) = true := rfl
      have hN : normI a b c d ≠ 0 := by have := normI_pos (qcode_ok hp).1;omega
      have hT := mRows_turned hey
      have hone : ∀ i j,i < 3 → j < 3 → rotQ 1 0 0 0 i j = dotQ (rotQ a b c d i) (fun k => rotQ ya yb yc yd k j) 3 := fun i j hi hj => by
        rw [rotQ_one hi hj,← rotQ_orth hN hi hj]
        exact (dotQ_congr 3 (fun k hk => ⟨rfl,hey k j hk hj⟩)).symm
      have hO := mRows_times hone
      have row3 : ∀ a b c d : Int,∀ r ∈ mRows a b c d,r.length = 3 := fun a b c d r hr => by
        simp only [mRows,List.mem_map] at hr
        obtain ⟨i,_,rfl⟩ := hr
        rfl
      have sm : ∀ {a b c d : Int},qcode a b c d = 0 → ∀ i k,i < 3 → k < 3 → rsz (e2 (mRows a b c d) i k) ≤ 10 := fun {a b c d} h i k hi hk => by
        rw [mRows_e2 _ _ _ _ hi hk]
        obtain ⟨h1,o1,o2,o3,o4⟩ := qcode_ok h
        exact rotQ_rsz o1 o2 o3 o4 (by have := normI_pos h1;omega) hi hk
      simp only [t3,t0,ff,cond_false,and_true,true_and,true_implies,imp_self,implies_true,hT,hO,beq_self_eq_true,Bool.not_true]
      have e1 : ([[rotQ 1 0 0 0 0 0,rotQ 1 0 0 0 0 1,rotQ 1 0 0 0 0 2],[rotQ 1 0 0 0 1 0,rotQ 1 0 0 0 1 1,rotQ 1 0 0 0 1 2],[rotQ 1 0 0 0 2 0,rotQ 1 0 0 0 2 1,rotQ 1 0 0 0 2 2]] : QM) = mRows 1 0 0 0 := rfl
      simp only [e1,beq_self_eq_true,Bool.not_true]
      have le3 : ∀ a b c d : Int,∀ r ∈ mRows a b c d,r.length ≤ 1000000000 := fun a b c d r hr => by rw [row3 a b c d r hr];omega
      refine ⟨by omega,⟨row3 a b c d,⟨mRows_small hoy,mRows_small hoy,by omega,le3 _ _ _ _⟩,row3 a b c d,⟨rfl,row3 a b c d,row3 _ _ _ _,fun i k hi hk => ⟨sm hp i k hi hk,sm hoy i k hi hk⟩⟩,mRows_small o1,mRows_small o1,by rw [lq];omega,le3 _ _ _ _⟩,?_⟩
      rcases mul_rot hp hq with hz | ⟨za,zb,zc,zd,hz,hoz,hez⟩
      · have hz' : mulT a b c d e f g h = ((0,0,0,0,()),3,()) := qcV_inj ((qc_mul a b c d e f g h).trans hz)
        rw [hz']
        rfl
      · have hz' : mulT a b c d e f g h = ((za,zb,zc,zd,()),0,()) := qcV_inj ((qc_mul a b c d e f g h).trans hz)
        have hP := mRows_times hez
        rw [hz']
        simp only [hoz,t0,hP,if_pos,beq_self_eq_true]
        exact ⟨⟨fun _ => ⟨trivial,trivial,row3 _ _ _ _,row3 _ _ _ _,fun i k hi hk => ⟨sm hp i k hi hk,sm hq i k hi hk⟩⟩,fun _ => ⟨trivial,trivial,mRows_small hoz,mRows_small hoz,by rw [lq];omega,le3 _ _ _ _⟩,fun _ => trivial⟩,rfl⟩
    · dsimp only [natI,asT,nilT] at *
      have hq' : (qcode e f g h != 0) = true := by simpa using hq
      simp [hp,hq,hq',hy',ifB]
  · have hy' : conjT a b c d = ((0,0,0,0,()),qcode a b c d,()) := if_neg hp
    dsimp only [natI,asT,nilT] at *
    have hp' : (qcode a b c d != 0) = true := by simpa using hp
    simp [hp,hp',hy',ifB]
theorem vmats_holds : Rows.RotationMatricesSaid := rotationMatrices_frame (fun a b c d e f g h _ _ _ _ _ _ _ _ w => by
  refine (matrices_ctr (fun _ => False) w [.agg #[.int .i64 a,.int .i64 b,.int .i64 c,.int .i64 d],.agg #[.int .i64 e,.int .i64 f,.int .i64 g,.int .i64 h]] ((a,b,c,d,()),(e,f,g,h,()),()) (fun q h => h.elim) ⟨_,_,rfl,v_quat a b c d,_,_,rfl,v_quat e f g h,rfl⟩ trivial).mono ?_
  rintro o w' ⟨v,rfl,hr,hb⟩
  have hr : vrep _ w' .bool v true := hr
  rw [bool_v hr]
  exact ⟨rfl,hb⟩)
end Go.Proofs.YtidfgdchcpmnfaaGreat
