/-
  The law EpipolarStations of chapter 28: OfStations returns the specified matrix or code, its equation holds for the images of every point, and a shift of space does not change it.
-/
import Derived.Test.YtbkocjmmbkifjaaGreatQs33
namespace Go.Proofs.YtbkocjmmbkifjaaGreat
open Go Go.RowKit
section
open Go Go.ChangeShapes Go.WideShapes Go.ChangeAt Go.RowKit Go.Joins
set_option linter.unusedVariables false
set_option maxRecDepth 100000 in
theorem wY {pre:(nest [(.pair (.pair (.int .i64) (.pair (.int .i64) (.pair (.int .i64) .unit))) (.pair (.pair (.int .i64) (.pair (.int .i64) (.pair (.int .i64) (.pair (.int .i64) .unit)))) (.pair (.int .i64) (.pair (.pair (.int .i64) (.pair (.int .i64) .unit)) .unit)))),(.pair (.pair (.int .i64) (.pair (.int .i64) (.pair (.int .i64) .unit))) (.pair (.pair (.int .i64) (.pair (.int .i64) (.pair (.int .i64) (.pair (.int .i64) .unit)))) (.pair (.int .i64) (.pair (.pair (.int .i64) (.pair (.int .i64) .unit)) .unit)))),(.pair (.int .i64) (.pair (.int .i64) (.pair (.int .i64) .unit)))]).den->Prop} (h:aI Tryz.prog 3 ⟨[(.pair (.pair (.int .i64) (.pair (.int .i64) (.pair (.int .i64) .unit))) (.pair (.pair (.int .i64) (.pair (.int .i64) (.pair (.int .i64) (.pair (.int .i64) .unit)))) (.pair (.int .i64) (.pair (.pair (.int .i64) (.pair (.int .i64) .unit)) .unit)))),(.pair (.pair (.int .i64) (.pair (.int .i64) (.pair (.int .i64) .unit))) (.pair (.pair (.int .i64) (.pair (.int .i64) (.pair (.int .i64) (.pair (.int .i64) .unit)))) (.pair (.int .i64) (.pair (.pair (.int .i64) (.pair (.int .i64) .unit)) .unit)))),(.pair (.int .i64) (.pair (.int .i64) (.pair (.int .i64) .unit)))],[.bool],pre,fun _=>(true,())⟩) (hp:∀ (x0:Ty.den (.pair (.pair (.int .i64) (.pair (.int .i64) (.pair (.int .i64) .unit))) (.pair (.pair (.int .i64) (.pair (.int .i64) (.pair (.int .i64) (.pair (.int .i64) .unit)))) (.pair (.int .i64) (.pair (.pair (.int .i64) (.pair (.int .i64) .unit)) .unit))))) (x1:Ty.den (.pair (.pair (.int .i64) (.pair (.int .i64) (.pair (.int .i64) .unit))) (.pair (.pair (.int .i64) (.pair (.int .i64) (.pair (.int .i64) (.pair (.int .i64) .unit)))) (.pair (.int .i64) (.pair (.pair (.int .i64) (.pair (.int .i64) .unit)) .unit))))) (x2:Ty.den (.pair (.int .i64) (.pair (.int .i64) (.pair (.int .i64) .unit)))),good (.pair (.pair (.int .i64) (.pair (.int .i64) (.pair (.int .i64) .unit))) (.pair (.pair (.int .i64) (.pair (.int .i64) (.pair (.int .i64) (.pair (.int .i64) .unit)))) (.pair (.int .i64) (.pair (.pair (.int .i64) (.pair (.int .i64) .unit)) .unit)))) x0->good (.pair (.pair (.int .i64) (.pair (.int .i64) (.pair (.int .i64) .unit))) (.pair (.pair (.int .i64) (.pair (.int .i64) (.pair (.int .i64) (.pair (.int .i64) .unit)))) (.pair (.int .i64) (.pair (.pair (.int .i64) (.pair (.int .i64) .unit)) .unit)))) x1->good (.pair (.int .i64) (.pair (.int .i64) (.pair (.int .i64) .unit))) x2->pre (x0,x1,x2,())):Rows.EpipolarStationsSaid:=by
 have lifted:∀ (os:Os) (started:os.Started) (H:Type) (enc:TypeId × Value->H),ReturnsInHanded {} Tryz.checked os 3 .any (Rows.epipolarStationsSpec.pre6 enc Tryz.prog Tryz.f3 Rows.epipolarStationsRow.domain false) (Rows.epipolarStationsSpec.post enc Tryz.prog Tryz.f3 false true false false):=by
  intro os started H enc
  refine returnsInHanded_of_change (C:=Tryz.checked) own started (by kernel_rfl) Tryz.func3
   (ChangeSpec.witness6 (enc:=enc) (C:=Tryz.checked) false ⟨#[],#[.agg #[.int .i64 0,.int .i64 0,.int .i64 0,.int .i64 0,.int .i64 0,.int .i64 0,.int .i64 0,.int .i64 0,.int .i64 0,.int .i64 0],.agg #[.int .i64 0,.int .i64 0,.int .i64 0,.int .i64 0,.int .i64 0,.int .i64 0,.int .i64 0,.int .i64 0,.int .i64 0,.int .i64 0],.agg #[.int .i64 0,.int .i64 0,.int .i64 0]],[]⟩ 8 (by kernel_rfl) (by kernel_rfl) (by kernel_rfl) (by kernel_rfl)) ?_
  intro W base args ds gs before hval0 hW hcnd _
  have hval:∀ (j:Nat) t v,Tryz.f3.params[j]?=some t->args[j]?=some v->Value.okWide Tryz.prog W .any base t v:=hval0
  have hW':=hW
  obtain⟨p,q,hA0,hV,rfl,hfz,hnd⟩:=hW
  have hA:DataW.TrodAll enc Tryz.prog W 0 (fun _=>true) true Tryz.f3.params.toList args.toList ds p:=hA0
  rw[Tryz.params3] at hA hval
  obtain⟨v0,vs0,d0,ds0,p0,q0,hargs,rfl,rfl,h0,r0⟩:=trodAll_cons hA
  obtain⟨v1,vs1,d1,ds1,p1,q1,rfl,rfl,rfl,h1,r1⟩:=trodAll_cons r0
  obtain⟨v2,vs2,d2,ds2,p2,q2,rfl,rfl,rfl,h2,r2⟩:=trodAll_cons r1
  obtain⟨rfl,rfl,rfl⟩:=trodAll_nil r2
  obtain rfl:args=#[v0,v1,v2]:=by cases args;simp_all
  obtain⟨rfl,rfl⟩:=trodVars_none hV
  obtain⟨x0,k0,g0⟩:=a3p (t:=.pair (.pair (.int .i64) (.pair (.int .i64) (.pair (.int .i64) .unit))) (.pair (.pair (.int .i64) (.pair (.int .i64) (.pair (.int .i64) (.pair (.int .i64) .unit)))) (.pair (.int .i64) (.pair (.pair (.int .i64) (.pair (.int .i64) .unit)) .unit)))) (by kernel_rfl) (hval 0 29 v0 rfl rfl) h0
  have l0:∀ x ∈ p0,x.block<W.heap.size:=fun x hx=>hW'.lt x (by simp[hx])
  obtain⟨x1,k1,g1⟩:=a3p (t:=.pair (.pair (.int .i64) (.pair (.int .i64) (.pair (.int .i64) .unit))) (.pair (.pair (.int .i64) (.pair (.int .i64) (.pair (.int .i64) (.pair (.int .i64) .unit)))) (.pair (.int .i64) (.pair (.pair (.int .i64) (.pair (.int .i64) .unit)) .unit)))) (by kernel_rfl) (hval 1 29 v1 rfl rfl) h1
  have l1:∀ x ∈ p1,x.block<W.heap.size:=fun x hx=>hW'.lt x (by simp[hx])
  obtain⟨x2,k2,g2⟩:=a3p (t:=.pair (.int .i64) (.pair (.int .i64) (.pair (.int .i64) .unit))) (by kernel_rfl) (hval 2 23 v2 rfl rfl) h2
  have l2:∀ x ∈ p2,x.block<W.heap.size:=fun x hx=>hW'.lt x (by simp[hx])
  refine(h (a3o W) W [v0,v1,v2] (x0,x1,x2,()) (fun q hq=>hq) ⟨_,_,rfl,k0,_,_,rfl,k1,_,_,rfl,k2,rfl⟩ (hp x0 x1 x2 g0 g1 g2)).mono fun e W' ⟨v,he,hr,hg⟩=>?_
  subst he
  have hr:iY _ W' .bool v true:=hr
  rw[a3q hr]
  exact⟨_,rfl,_,_,_,[],_,[],hW',trodAll_cons_mk (shut_bool Tryz.underlying4 _) trodAll_mk0,(trodAll_cons_mk (Below.trod laidOut (by kernel_rfl) (qw (by kernel_rfl)) h0 hg l0) (trodAll_cons_mk (Below.trod laidOut (by kernel_rfl) (qw (by kernel_rfl)) h1 hg l1) (trodAll_cons_mk (Below.trod laidOut (by kernel_rfl) (qw (by kernel_rfl)) h2 hg l2) trodAll_mk0))),rfl,hg.frame _,fun h=>by cases h⟩
 exact OpenClaim.holds_of_wide 3 Tryz.f3 rfl rfl rfl rfl rfl rfl rfl ⟨rfl,rfl,rfl,rfl,rfl⟩ rfl rfl rfl rfl rfl (by kernel_rfl) Tryz.func3 (by kernel_rfl)
  (qw (by kernel_rfl)) (by unfold Func.isWrapper;first|(rw[jm (by decide +kernel)];kernel_rfl)|(rw[ji (by decide +kernel)];exact⟨rfl,rfl⟩))
  (fun os started H enc _=>lifted os started H enc)
end
theorem vstations28_holds:Rows.EpipolarStationsSaid:=wY (a0h a9E) (fun _ _ _ _ _ _=>trivial)
end Go.Proofs.YtbkocjmmbkifjaaGreat
