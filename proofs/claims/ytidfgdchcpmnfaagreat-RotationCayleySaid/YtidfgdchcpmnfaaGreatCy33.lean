/-
  RotationCayley: for all fractions u, v, w of at most two groups of digits Cayley returns the same quaternion and code as the reference; no condition.
-/
import Derived.Test.YtidfgdchcpmnfaaGreatCy31
import Derived.Test.YtidfgdchcpmnfaaGreatCy32
namespace Go.Proofs.YtidfgdchcpmnfaaGreat
open Go Go.RowKit
set_option maxRecDepth 100000
set_option maxHeartbeats 1000000
set_option linter.unusedVariables false
set_option linter.unusedSimpArgs false
noncomputable def LJ0:Lib:=LI6.add 12 (cB true) a5j
theorem a1A:dL Tryz.prog 9 ⟨[tR,tR,tR],[.bool],fun x=>TG x.1∧TG x.2.1∧TG x.2.2.1,fun _=>(true,())⟩:=by
 refine gK LJ0 [7,9] Tryz.func9 rfl (by decide) (fun x=>[]) (fun x hp=>?_)
 obtain ⟨u,v,w,t⟩:=x
 change aS at u;change aS at v;change aS at w
 refine jC (let x0z:=(eqI (Prod.fst (Prod.snd (Prod.fst (lJ u v w)))) (Prod.fst (Prod.snd (Prod.fst (lJ u v w)))) && (eqI (Prod.fst (Prod.snd (Prod.snd (Prod.fst (lJ u v w))))) (Prod.fst (Prod.snd (Prod.snd (Prod.fst (lJ u v w))))) && (eqI (Prod.fst (Prod.snd (Prod.snd (Prod.snd (Prod.fst (lJ u v w)))))) (Prod.fst (Prod.snd (Prod.snd (Prod.snd (Prod.fst (lJ u v w)))))) && true)));let x1z:=(bif !decide (aS.n u≤2∧aS.m u≤2) then true else !decide (aS.n v≤2∧aS.m v≤2));(True∧True)∧(True∧(((!decide (aS.n u≤2∧aS.m u≤2)) == false)=true→((!decide (aS.n u≤2∧aS.m u≤2)) == false)=true∧True∧True)∧(((!decide (aS.n u≤2∧aS.m u≤2)) == false)=true→((!decide (aS.n u≤2∧aS.m u≤2)) == false)=true∧True)∧((!decide (aS.n u≤2∧aS.m u≤2))=false→((!decide (aS.n u≤2∧aS.m u≤2)) == false)=true)∧((x1z == false)=true→(x1z == false)=true∧True∧True)∧((x1z == false)=true→(x1z == false)=true∧True)∧(x1z=false→(x1z == false)=true)∧True)∧ifB (bif bif !decide (aS.n u≤2∧aS.m u≤2) then true else !decide (aS.n v≤2∧aS.m v≤2) then true else !decide (aS.n w≤2∧aS.m w≤2)) (True∧asT Bool true=true∧True) (((sm2 u∧sm2 v∧sm2 w)∧True)∧((sm2 u∧sm2 v∧sm2 w)∧True)∧((((eqI (Prod.fst (Prod.fst (lJ u v w))) (Prod.fst (Prod.fst (lJ u v w))) && x0z) == true)=true→((eqI (Prod.fst (Prod.fst (lJ u v w))) (Prod.fst (Prod.fst (lJ u v w))) && x0z) == true)=true∧((eqI (Prod.fst (Prod.fst (lJ u v w))) (Prod.fst (Prod.fst (lJ u v w))) && x0z) == true)=true∧True)∧((eqI (Prod.fst (Prod.fst (lJ u v w))) (Prod.fst (Prod.fst (lJ u v w))) && x0z)=true→((eqI (Prod.fst (Prod.fst (lJ u v w))) (Prod.fst (Prod.fst (lJ u v w))) && x0z) == true)=true)∧True)∧True∧(bif eqI (Prod.fst (Prod.fst (lJ u v w))) (Prod.fst (Prod.fst (lJ u v w))) && x0z then Prod.fst (Prod.snd (lJ u v w)) == Prod.fst (Prod.snd (lJ u v w)) else false)=true∧True)) (by kernel_rfl) ?_
 obtain ⟨gu,gv,gw⟩:=hp
 dsimp only [aF,asT,aA,aU,lM,aS.n,aS.m] at *
 have eq:∀ a:Int,eqI a a=true:=fun a=>by unfold eqI;simp
 have sm:∀ q:aS,TG q→(q.g.length≤2∧q.h.length≤2)→sm2 q:=fun q g h=>⟨h.1,h.2,g 2 (by omega) h.1 h.2⟩
 by_cases hu:u.g.length≤2∧u.h.length≤2
 ·by_cases hv:v.g.length≤2∧v.h.length≤2
  ·by_cases hw:w.g.length≤2∧w.h.length≤2
   ·simp [hu,hv,hw,ifB,eq,sm u gu hu,sm v gv hv,sm w gw hw]
   ·rw [decide_eq_true hu,decide_eq_true hv,decide_eq_false hw];simp [ifB]
  ·rw [decide_eq_true hu,decide_eq_false hv];simp [ifB]
 ·rw [decide_eq_false hu];simp [ifB]
theorem vcayley_holds:Rows.RotationCayleySaid:=yZ a1A (fun _ _ _ a b c=>And.intro a (And.intro b c))
end Go.Proofs.YtidfgdchcpmnfaaGreat
