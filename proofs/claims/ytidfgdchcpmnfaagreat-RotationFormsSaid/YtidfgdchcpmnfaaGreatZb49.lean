/-
  Lemmas for the statements about rotations, part 49 of 51.
-/
import Derived.Lib.SmallJoins
import Derived.OpenShut
import Derived.ProofKit
import Derived.Test.YtidfgdchcpmnfaaGreatRows
import Derived.WalkKit
namespace Go.Proofs.YtidfgdchcpmnfaaGreat
open Go Go.ChangeShapes Go.WideShapes Go.ChangeAt Go.RowKit Go.Joins
set_option linter.unusedVariables false
set_option maxRecDepth 100000
theorem own : ownKnob Tryz.prog.godebug = none := by kernel_rfl
theorem cellsQuat : Tryz.prog.cellsOf 33 = 4 := by kernel_rfl
theorem word_of_wf {x : Int} (h : (Lit.int .i64 x).wf = true) : -9223372036854775808 ≤ x ∧ x ≤ 9223372036854775807 := by
  simp [Lit.wf,IntKind.min,IntKind.max,IntKind.signed,IntKind.bits] at h
  exact ⟨by omega,by omega⟩
section
variable {H : Type} {enc : TypeId × Value → H} {W : World} {base : Nat}
theorem open_quat {sp : Nat → Bool} {hd : Bool} {r : Reach} {b0 : Nat} {v : Value} {d : DataW H} {p : List MemPlace} (hv : Value.okWide Tryz.prog W r b0 33 v) (h : DataW.Trod enc Tryz.prog W base sp hd 33 v d p) :
    ∃ a b c e : Int,v = .agg #[.int .i64 a,.int .i64 b,.int .i64 c,.int .i64 e] ∧ d = .agg [.lit (.int .i64 a),.lit (.int .i64 b),.lit (.int .i64 c),.lit (.int .i64 e)] ∧ p = [] ∧ (Lit.int .i64 a).wf = true ∧ (Lit.int .i64 b).wf = true ∧ (Lit.int .i64 c).wf = true ∧ (Lit.int .i64 e).wf = true := by
  obtain ⟨c0,c1,c2,c3,y0,y1,y2,y3,m,rfl,rfl,rfl,hy0,hy1,hy2,hy3⟩ := open_agg4 Tryz.underlying33 (by kernel_rfl) cellsQuat hv h
  obtain ⟨a,e0,rfl,wa⟩ := DataW.trod_int Tryz.underlying3 hy0
  obtain ⟨b,e1,rfl,wb⟩ := DataW.trod_int Tryz.underlying3 hy1
  obtain ⟨c,e2,rfl,wc⟩ := DataW.trod_int Tryz.underlying3 hy2
  obtain ⟨e,e3,rfl,we⟩ := DataW.trod_int Tryz.underlying3 hy3
  simp at e0 e1 e2 e3
  subst e0 e1 e2 e3
  exact ⟨a,b,c,e,rfl,rfl,rfl,wa,wb,wc,we⟩
theorem shut_quat {sp : Nat → Bool} {hd : Bool} {a b c e : Int} (wa : (Lit.int .i64 a).wf = true) (wb : (Lit.int .i64 b).wf = true) (wc : (Lit.int .i64 c).wf = true) (we : (Lit.int .i64 e).wf = true) :
    DataW.Trod enc Tryz.prog W base sp hd 33 (.agg #[.int .i64 a,.int .i64 b,.int .i64 c,.int .i64 e]) (.agg [.lit (.int .i64 a),.lit (.int .i64 b),.lit (.int .i64 c),.lit (.int .i64 e)]) [] :=
  shut_agg4 (y0 := (.lit (.int .i64 a),[])) (y1 := (.lit (.int .i64 b),[])) (y2 := (.lit (.int .i64 c),[])) (y3 := (.lit (.int .i64 e),[])) Tryz.underlying33 (by kernel_rfl) cellsQuat ⟨1,by simp [DataW.trod,Tryz.underlying3,wa]⟩ ⟨1,by simp [DataW.trod,Tryz.underlying3,wb]⟩ ⟨1,by simp [DataW.trod,Tryz.underlying3,wc]⟩ ⟨1,by simp [DataW.trod,Tryz.underlying3,we]⟩
end
end Go.Proofs.YtidfgdchcpmnfaaGreat
namespace Go.Proofs.YtidfgdchcpmnfaaGreat
open Go Go.ChangeShapes Go.WideShapes Go.ChangeAt Go.RowKit Go.Joins
set_option linter.unusedVariables false
set_option maxRecDepth 100000 in
theorem rotationBack_frame (walk : ∀ (a0a a0b a0c a0d : Int) (wa0a : (Lit.int .i64 a0a).wf = true) (wa0b : (Lit.int .i64 a0b).wf = true) (wa0c : (Lit.int .i64 a0c).wf = true) (wa0d : (Lit.int .i64 a0d).wf = true) (w : World),Calls Tryz.prog 4 #[.agg #[.int .i64 a0a,.int .i64 a0b,.int .i64 a0c,.int .i64 a0d]] w fun e w' => e = .returned (.bool true) ∧ Below w.heap.size w w') : Rows.RotationBackSaid := by
  have lifted : ∀ (os : Os) (started : os.Started) (H : Type) (enc : TypeId × Value → H),ReturnsInHanded {} Tryz.checked os 4 .any (Rows.rotationBackSpec.pre6 enc Tryz.prog Tryz.f4 Rows.rotationBackRow.domain false) (Rows.rotationBackSpec.post enc Tryz.prog Tryz.f4 false true false false) := by
    intro os started H enc
    refine returnsInHanded_of_change (C := Tryz.checked) own started (by kernel_rfl) Tryz.func4
      (ChangeSpec.witness6 (enc := enc) (C := Tryz.checked) false ⟨#[],#[.agg #[.int .i64 0,.int .i64 0,.int .i64 0,.int .i64 0]],[]⟩ 8 (by kernel_rfl) (by kernel_rfl) (by kernel_rfl) (by kernel_rfl)) ?_
    intro W base args ds gs before hval0 hW hcnd _
    have hval : ∀ (j : Nat) t v,Tryz.f4.params[j]? = some t → args[j]? = some v → Value.okWide Tryz.prog W .any base t v := hval0
    have hW' := hW
    obtain ⟨p,q,hA0,hV,rfl,hfz,hnd⟩ := hW
    have hA : DataW.TrodAll enc Tryz.prog W 0 (fun _ => true) true Tryz.f4.params.toList args.toList ds p := hA0
    rw [Tryz.params4] at hA hval
    obtain ⟨v0,vs0,d0,ds0,p0,q0,hargs,rfl,rfl,h0,r0⟩ := trodAll_cons hA
    obtain ⟨rfl,rfl,rfl⟩ := trodAll_nil r0
    obtain rfl : args = #[v0] := by cases args;simp_all
    obtain ⟨rfl,rfl⟩ := trodVars_none hV
    obtain ⟨a0a,a0b,a0c,a0d,rfl,rfl,rfl,wa0a,wa0b,wa0c,wa0d⟩ := open_quat (hval 0 33 v0 rfl rfl) h0
    clear hA0 hval0
    simp only [List.append_nil] at hW'
    refine (walk a0a a0b a0c a0d wa0a wa0b wa0c wa0d W).mono fun e W' ⟨he,hg⟩ => ?_
    subst he
    exact ⟨_,rfl,_,_,_,[],[],[],hW',trodAll_cons_mk (shut_bool Tryz.underlying4 _) trodAll_mk0,(trodAll_cons_mk (shut_quat wa0a wa0b wa0c wa0d) trodAll_mk0),rfl,hg.frame _,fun h => by cases h⟩
  exact OpenClaim.holds_of_wide 4 Tryz.f4 rfl rfl rfl rfl rfl rfl rfl ⟨rfl,rfl,rfl,rfl,rfl⟩ rfl rfl rfl rfl rfl (by kernel_rfl) Tryz.func4 (by kernel_rfl)
    (of_decide_eq_true (by kernel_rfl)) (by unfold Func.isWrapper;first | (rw [if_pos (by decide +kernel)];kernel_rfl) | (rw [if_neg (by decide +kernel)];exact ⟨rfl,rfl⟩))
    (fun os started H enc _ => lifted os started H enc)
end Go.Proofs.YtidfgdchcpmnfaaGreat
namespace Go.Proofs.YtidfgdchcpmnfaaGreat
open Go Go.ChangeShapes Go.WideShapes Go.ChangeAt Go.RowKit Go.Joins
set_option linter.unusedVariables false
set_option maxRecDepth 100000 in
theorem rotationForms_frame (walk : ∀ (a0a a0b a0c a0d a1a a1b a1c a1d : Int) (wa0a : (Lit.int .i64 a0a).wf = true) (wa0b : (Lit.int .i64 a0b).wf = true) (wa0c : (Lit.int .i64 a0c).wf = true) (wa0d : (Lit.int .i64 a0d).wf = true) (wa1a : (Lit.int .i64 a1a).wf = true) (wa1b : (Lit.int .i64 a1b).wf = true) (wa1c : (Lit.int .i64 a1c).wf = true) (wa1d : (Lit.int .i64 a1d).wf = true) (w : World),Calls Tryz.prog 6 #[.agg #[.int .i64 a0a,.int .i64 a0b,.int .i64 a0c,.int .i64 a0d],.agg #[.int .i64 a1a,.int .i64 a1b,.int .i64 a1c,.int .i64 a1d]] w fun e w' => e = .returned (.bool true) ∧ Below w.heap.size w w') : Rows.RotationFormsSaid := by
  have lifted : ∀ (os : Os) (started : os.Started) (H : Type) (enc : TypeId × Value → H),ReturnsInHanded {} Tryz.checked os 6 .any (Rows.rotationFormsSpec.pre6 enc Tryz.prog Tryz.f6 Rows.rotationFormsRow.domain false) (Rows.rotationFormsSpec.post enc Tryz.prog Tryz.f6 false true false false) := by
    intro os started H enc
    refine returnsInHanded_of_change (C := Tryz.checked) own started (by kernel_rfl) Tryz.func6
      (ChangeSpec.witness6 (enc := enc) (C := Tryz.checked) false ⟨#[],#[.agg #[.int .i64 0,.int .i64 0,.int .i64 0,.int .i64 0],.agg #[.int .i64 0,.int .i64 0,.int .i64 0,.int .i64 0]],[]⟩ 8 (by kernel_rfl) (by kernel_rfl) (by kernel_rfl) (by kernel_rfl)) ?_
    intro W base args ds gs before hval0 hW hcnd _
    have hval : ∀ (j : Nat) t v,Tryz.f6.params[j]? = some t → args[j]? = some v → Value.okWide Tryz.prog W .any base t v := hval0
    have hW' := hW
    obtain ⟨p,q,hA0,hV,rfl,hfz,hnd⟩ := hW
    have hA : DataW.TrodAll enc Tryz.prog W 0 (fun _ => true) true Tryz.f6.params.toList args.toList ds p := hA0
    rw [Tryz.params6] at hA hval
    obtain ⟨v0,vs0,d0,ds0,p0,q0,hargs,rfl,rfl,h0,r0⟩ := trodAll_cons hA
    obtain ⟨v1,vs1,d1,ds1,p1,q1,rfl,rfl,rfl,h1,r1⟩ := trodAll_cons r0
    obtain ⟨rfl,rfl,rfl⟩ := trodAll_nil r1
    obtain rfl : args = #[v0,v1] := by cases args;simp_all
    obtain ⟨rfl,rfl⟩ := trodVars_none hV
    obtain ⟨a0a,a0b,a0c,a0d,rfl,rfl,rfl,wa0a,wa0b,wa0c,wa0d⟩ := open_quat (hval 0 33 v0 rfl rfl) h0
    obtain ⟨a1a,a1b,a1c,a1d,rfl,rfl,rfl,wa1a,wa1b,wa1c,wa1d⟩ := open_quat (hval 1 33 v1 rfl rfl) h1
    clear hA0 hval0
    simp only [List.append_nil] at hW'
    refine (walk a0a a0b a0c a0d a1a a1b a1c a1d wa0a wa0b wa0c wa0d wa1a wa1b wa1c wa1d W).mono fun e W' ⟨he,hg⟩ => ?_
    subst he
    exact ⟨_,rfl,_,_,_,[],[],[],hW',trodAll_cons_mk (shut_bool Tryz.underlying4 _) trodAll_mk0,(trodAll_cons_mk (shut_quat wa0a wa0b wa0c wa0d) (trodAll_cons_mk (shut_quat wa1a wa1b wa1c wa1d) trodAll_mk0)),rfl,hg.frame _,fun h => by cases h⟩
  exact OpenClaim.holds_of_wide 6 Tryz.f6 rfl rfl rfl rfl rfl rfl rfl ⟨rfl,rfl,rfl,rfl,rfl⟩ rfl rfl rfl rfl rfl (by kernel_rfl) Tryz.func6 (by kernel_rfl)
    (of_decide_eq_true (by kernel_rfl)) (by unfold Func.isWrapper;first | (rw [if_pos (by decide +kernel)];kernel_rfl) | (rw [if_neg (by decide +kernel)];exact ⟨rfl,rfl⟩))
    (fun os started H enc _ => lifted os started H enc)
end Go.Proofs.YtidfgdchcpmnfaaGreat
namespace Go.Proofs.YtidfgdchcpmnfaaGreat
open Go Go.ChangeShapes Go.WideShapes Go.ChangeAt Go.RowKit Go.Joins
set_option linter.unusedVariables false
set_option maxRecDepth 100000 in
theorem rotationProducts_frame (walk : ∀ (a0a a0b a0c a0d a1a a1b a1c a1d : Int) (wa0a : (Lit.int .i64 a0a).wf = true) (wa0b : (Lit.int .i64 a0b).wf = true) (wa0c : (Lit.int .i64 a0c).wf = true) (wa0d : (Lit.int .i64 a0d).wf = true) (wa1a : (Lit.int .i64 a1a).wf = true) (wa1b : (Lit.int .i64 a1b).wf = true) (wa1c : (Lit.int .i64 a1c).wf = true) (wa1d : (Lit.int .i64 a1d).wf = true) (w : World),Calls Tryz.prog 7 #[.agg #[.int .i64 a0a,.int .i64 a0b,.int .i64 a0c,.int .i64 a0d],.agg #[.int .i64 a1a,.int .i64 a1b,.int .i64 a1c,.int .i64 a1d]] w fun e w' => e = .returned (.bool true) ∧ Below w.heap.size w w') : Rows.RotationProductsSaid := by
  have lifted : ∀ (os : Os) (started : os.Started) (H : Type) (enc : TypeId × Value → H),ReturnsInHanded {} Tryz.checked os 7 .any (Rows.rotationProductsSpec.pre6 enc Tryz.prog Tryz.f7 Rows.rotationProductsRow.domain false) (Rows.rotationProductsSpec.post enc Tryz.prog Tryz.f7 false true false false) := by
    intro os started H enc
    refine returnsInHanded_of_change (C := Tryz.checked) own started (by kernel_rfl) Tryz.func7
      (ChangeSpec.witness6 (enc := enc) (C := Tryz.checked) false ⟨#[],#[.agg #[.int .i64 0,.int .i64 0,.int .i64 0,.int .i64 0],.agg #[.int .i64 0,.int .i64 0,.int .i64 0,.int .i64 0]],[]⟩ 8 (by kernel_rfl) (by kernel_rfl) (by kernel_rfl) (by kernel_rfl)) ?_
    intro W base args ds gs before hval0 hW hcnd _
    have hval : ∀ (j : Nat) t v,Tryz.f7.params[j]? = some t → args[j]? = some v → Value.okWide Tryz.prog W .any base t v := hval0
    have hW' := hW
    obtain ⟨p,q,hA0,hV,rfl,hfz,hnd⟩ := hW
    have hA : DataW.TrodAll enc Tryz.prog W 0 (fun _ => true) true Tryz.f7.params.toList args.toList ds p := hA0
    rw [Tryz.params7] at hA hval
    obtain ⟨v0,vs0,d0,ds0,p0,q0,hargs,rfl,rfl,h0,r0⟩ := trodAll_cons hA
    obtain ⟨v1,vs1,d1,ds1,p1,q1,rfl,rfl,rfl,h1,r1⟩ := trodAll_cons r0
    obtain ⟨rfl,rfl,rfl⟩ := trodAll_nil r1
    obtain rfl : args = #[v0,v1] := by cases args;simp_all
    obtain ⟨rfl,rfl⟩ := trodVars_none hV
    obtain ⟨a0a,a0b,a0c,a0d,rfl,rfl,rfl,wa0a,wa0b,wa0c,wa0d⟩ := open_quat (hval 0 33 v0 rfl rfl) h0
    obtain ⟨a1a,a1b,a1c,a1d,rfl,rfl,rfl,wa1a,wa1b,wa1c,wa1d⟩ := open_quat (hval 1 33 v1 rfl rfl) h1
    clear hA0 hval0
    simp only [List.append_nil] at hW'
    refine (walk a0a a0b a0c a0d a1a a1b a1c a1d wa0a wa0b wa0c wa0d wa1a wa1b wa1c wa1d W).mono fun e W' ⟨he,hg⟩ => ?_
    subst he
    exact ⟨_,rfl,_,_,_,[],[],[],hW',trodAll_cons_mk (shut_bool Tryz.underlying4 _) trodAll_mk0,(trodAll_cons_mk (shut_quat wa0a wa0b wa0c wa0d) (trodAll_cons_mk (shut_quat wa1a wa1b wa1c wa1d) trodAll_mk0)),rfl,hg.frame _,fun h => by cases h⟩
  exact OpenClaim.holds_of_wide 7 Tryz.f7 rfl rfl rfl rfl rfl rfl rfl ⟨rfl,rfl,rfl,rfl,rfl⟩ rfl rfl rfl rfl rfl (by kernel_rfl) Tryz.func7 (by kernel_rfl)
    (of_decide_eq_true (by kernel_rfl)) (by unfold Func.isWrapper;first | (rw [if_pos (by decide +kernel)];kernel_rfl) | (rw [if_neg (by decide +kernel)];exact ⟨rfl,rfl⟩))
    (fun os started H enc _ => lifted os started H enc)
end Go.Proofs.YtidfgdchcpmnfaaGreat
namespace Go.Proofs.YtidfgdchcpmnfaaGreat
open Go Go.ChangeShapes Go.WideShapes Go.ChangeAt Go.RowKit Go.Joins
set_option linter.unusedVariables false
set_option maxRecDepth 100000 in
theorem rotationMatrices_frame (walk : ∀ (a0a a0b a0c a0d a1a a1b a1c a1d : Int) (wa0a : (Lit.int .i64 a0a).wf = true) (wa0b : (Lit.int .i64 a0b).wf = true) (wa0c : (Lit.int .i64 a0c).wf = true) (wa0d : (Lit.int .i64 a0d).wf = true) (wa1a : (Lit.int .i64 a1a).wf = true) (wa1b : (Lit.int .i64 a1b).wf = true) (wa1c : (Lit.int .i64 a1c).wf = true) (wa1d : (Lit.int .i64 a1d).wf = true) (w : World),Calls Tryz.prog 8 #[.agg #[.int .i64 a0a,.int .i64 a0b,.int .i64 a0c,.int .i64 a0d],.agg #[.int .i64 a1a,.int .i64 a1b,.int .i64 a1c,.int .i64 a1d]] w fun e w' => e = .returned (.bool true) ∧ Below w.heap.size w w') : Rows.RotationMatricesSaid := by
  have lifted : ∀ (os : Os) (started : os.Started) (H : Type) (enc : TypeId × Value → H),ReturnsInHanded {} Tryz.checked os 8 .any (Rows.rotationMatricesSpec.pre6 enc Tryz.prog Tryz.f8 Rows.rotationMatricesRow.domain false) (Rows.rotationMatricesSpec.post enc Tryz.prog Tryz.f8 false true false false) := by
    intro os started H enc
    refine returnsInHanded_of_change (C := Tryz.checked) own started (by kernel_rfl) Tryz.func8
      (ChangeSpec.witness6 (enc := enc) (C := Tryz.checked) false ⟨#[],#[.agg #[.int .i64 0,.int .i64 0,.int .i64 0,.int .i64 0],.agg #[.int .i64 0,.int .i64 0,.int .i64 0,.int .i64 0]],[]⟩ 8 (by kernel_rfl) (by kernel_rfl) (by kernel_rfl) (by kernel_rfl)) ?_
    intro W base args ds gs before hval0 hW hcnd _
    have hval : ∀ (j : Nat) t v,Tryz.f8.params[j]? = some t → args[j]? = some v → Value.okWide Tryz.prog W .any base t v := hval0
    have hW' := hW
    obtain ⟨p,q,hA0,hV,rfl,hfz,hnd⟩ := hW
    have hA : DataW.TrodAll enc Tryz.prog W 0 (fun _ => true) true Tryz.f8.params.toList args.toList ds p := hA0
    rw [Tryz.params8] at hA hval
    obtain ⟨v0,vs0,d0,ds0,p0,q0,hargs,rfl,rfl,h0,r0⟩ := trodAll_cons hA
    obtain ⟨v1,vs1,d1,ds1,p1,q1,rfl,rfl,rfl,h1,r1⟩ := trodAll_cons r0
    obtain ⟨rfl,rfl,rfl⟩ := trodAll_nil r1
    obtain rfl : args = #[v0,v1] := by cases args;simp_all
    obtain ⟨rfl,rfl⟩ := trodVars_none hV
    obtain ⟨a0a,a0b,a0c,a0d,rfl,rfl,rfl,wa0a,wa0b,wa0c,wa0d⟩ := open_quat (hval 0 33 v0 rfl rfl) h0
    obtain ⟨a1a,a1b,a1c,a1d,rfl,rfl,rfl,wa1a,wa1b,wa1c,wa1d⟩ := open_quat (hval 1 33 v1 rfl rfl) h1
    clear hA0 hval0
    simp only [List.append_nil] at hW'
    refine (walk a0a a0b a0c a0d a1a a1b a1c a1d wa0a wa0b wa0c wa0d wa1a wa1b wa1c wa1d W).mono fun e W' ⟨he,hg⟩ => ?_
    subst he
    exact ⟨_,rfl,_,_,_,[],[],[],hW',trodAll_cons_mk (shut_bool Tryz.underlying4 _) trodAll_mk0,(trodAll_cons_mk (shut_quat wa0a wa0b wa0c wa0d) (trodAll_cons_mk (shut_quat wa1a wa1b wa1c wa1d) trodAll_mk0)),rfl,hg.frame _,fun h => by cases h⟩
  exact OpenClaim.holds_of_wide 8 Tryz.f8 rfl rfl rfl rfl rfl rfl rfl ⟨rfl,rfl,rfl,rfl,rfl⟩ rfl rfl rfl rfl rfl (by kernel_rfl) Tryz.func8 (by kernel_rfl)
    (of_decide_eq_true (by kernel_rfl)) (by unfold Func.isWrapper;first | (rw [if_pos (by decide +kernel)];kernel_rfl) | (rw [if_neg (by decide +kernel)];exact ⟨rfl,rfl⟩))
    (fun os started H enc _ => lifted os started H enc)
end Go.Proofs.YtidfgdchcpmnfaaGreat
namespace Go.Proofs.YtidfgdchcpmnfaaGreat
open Go Go.ChangeShapes Go.WideShapes Go.ChangeAt Go.RowKit Go.Joins
set_option linter.unusedVariables false
set_option maxRecDepth 100000 in
theorem rotationChords_frame (walk : ∀ (a0a a0b a0c a0d a1a a1b a1c a1d a2a a2b a2c a2d : Int) (wa0a : (Lit.int .i64 a0a).wf = true) (wa0b : (Lit.int .i64 a0b).wf = true) (wa0c : (Lit.int .i64 a0c).wf = true) (wa0d : (Lit.int .i64 a0d).wf = true) (wa1a : (Lit.int .i64 a1a).wf = true) (wa1b : (Lit.int .i64 a1b).wf = true) (wa1c : (Lit.int .i64 a1c).wf = true) (wa1d : (Lit.int .i64 a1d).wf = true) (wa2a : (Lit.int .i64 a2a).wf = true) (wa2b : (Lit.int .i64 a2b).wf = true) (wa2c : (Lit.int .i64 a2c).wf = true) (wa2d : (Lit.int .i64 a2d).wf = true) (w : World),Calls Tryz.prog 5 #[.agg #[.int .i64 a0a,.int .i64 a0b,.int .i64 a0c,.int .i64 a0d],.agg #[.int .i64 a1a,.int .i64 a1b,.int .i64 a1c,.int .i64 a1d],.agg #[.int .i64 a2a,.int .i64 a2b,.int .i64 a2c,.int .i64 a2d]] w fun e w' => e = .returned (.bool true) ∧ Below w.heap.size w w') : Rows.RotationChordsSaid := by
  have lifted : ∀ (os : Os) (started : os.Started) (H : Type) (enc : TypeId × Value → H),ReturnsInHanded {} Tryz.checked os 5 .any (Rows.rotationChordsSpec.pre6 enc Tryz.prog Tryz.f5 Rows.rotationChordsRow.domain false) (Rows.rotationChordsSpec.post enc Tryz.prog Tryz.f5 false true false false) := by
    intro os started H enc
    refine returnsInHanded_of_change (C := Tryz.checked) own started (by kernel_rfl) Tryz.func5
      (ChangeSpec.witness6 (enc := enc) (C := Tryz.checked) false ⟨#[],#[.agg #[.int .i64 0,.int .i64 0,.int .i64 0,.int .i64 0],.agg #[.int .i64 0,.int .i64 0,.int .i64 0,.int .i64 0],.agg #[.int .i64 0,.int .i64 0,.int .i64 0,.int .i64 0]],[]⟩ 8 (by kernel_rfl) (by kernel_rfl) (by kernel_rfl) (by kernel_rfl)) ?_
    intro W base args ds gs before hval0 hW hcnd _
    have hval : ∀ (j : Nat) t v,Tryz.f5.params[j]? = some t → args[j]? = some v → Value.okWide Tryz.prog W .any base t v := hval0
    have hW' := hW
    obtain ⟨p,q,hA0,hV,rfl,hfz,hnd⟩ := hW
    have hA : DataW.TrodAll enc Tryz.prog W 0 (fun _ => true) true Tryz.f5.params.toList args.toList ds p := hA0
    rw [Tryz.params5] at hA hval
    obtain ⟨v0,vs0,d0,ds0,p0,q0,hargs,rfl,rfl,h0,r0⟩ := trodAll_cons hA
    obtain ⟨v1,vs1,d1,ds1,p1,q1,rfl,rfl,rfl,h1,r1⟩ := trodAll_cons r0
    obtain ⟨v2,vs2,d2,ds2,p2,q2,rfl,rfl,rfl,h2,r2⟩ := trodAll_cons r1
    obtain ⟨rfl,rfl,rfl⟩ := trodAll_nil r2
    obtain rfl : args = #[v0,v1,v2] := by cases args;simp_all
    obtain ⟨rfl,rfl⟩ := trodVars_none hV
    obtain ⟨a0a,a0b,a0c,a0d,rfl,rfl,rfl,wa0a,wa0b,wa0c,wa0d⟩ := open_quat (hval 0 33 v0 rfl rfl) h0
    obtain ⟨a1a,a1b,a1c,a1d,rfl,rfl,rfl,wa1a,wa1b,wa1c,wa1d⟩ := open_quat (hval 1 33 v1 rfl rfl) h1
    obtain ⟨a2a,a2b,a2c,a2d,rfl,rfl,rfl,wa2a,wa2b,wa2c,wa2d⟩ := open_quat (hval 2 33 v2 rfl rfl) h2
    clear hA0 hval0
    simp only [List.append_nil] at hW'
    refine (walk a0a a0b a0c a0d a1a a1b a1c a1d a2a a2b a2c a2d wa0a wa0b wa0c wa0d wa1a wa1b wa1c wa1d wa2a wa2b wa2c wa2d W).mono fun e W' ⟨he,hg⟩ => ?_
    subst he
    exact ⟨_,rfl,_,_,_,[],[],[],hW',trodAll_cons_mk (shut_bool Tryz.underlying4 _) trodAll_mk0,(trodAll_cons_mk (shut_quat wa0a wa0b wa0c wa0d) (trodAll_cons_mk (shut_quat wa1a wa1b wa1c wa1d) (trodAll_cons_mk (shut_quat wa2a wa2b wa2c wa2d) trodAll_mk0))),rfl,hg.frame _,fun h => by cases h⟩
  exact OpenClaim.holds_of_wide 5 Tryz.f5 rfl rfl rfl rfl rfl rfl rfl ⟨rfl,rfl,rfl,rfl,rfl⟩ rfl rfl rfl rfl rfl (by kernel_rfl) Tryz.func5 (by kernel_rfl)
    (of_decide_eq_true (by kernel_rfl)) (by unfold Func.isWrapper;first | (rw [if_pos (by decide +kernel)];kernel_rfl) | (rw [if_neg (by decide +kernel)];exact ⟨rfl,rfl⟩))
    (fun os started H enc _ => lifted os started H enc)
end Go.Proofs.YtidfgdchcpmnfaaGreat
