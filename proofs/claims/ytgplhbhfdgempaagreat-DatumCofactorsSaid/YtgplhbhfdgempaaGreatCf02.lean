/-
  DatumCofactors: datum.Cofactor returns a symmetric matrix that obeys the three equations of a cofactor matrix in a datum, or the specified error, for all matrices of at most 7 rows and columns; no conditions.
-/
import Derived.Test.YtgplhbhfdgempaaGreatCf01
namespace Go.Proofs.YtgplhbhfdgempaaGreat
open Go Go.RowKit
set_option maxRecDepth 100000
set_option maxHeartbeats 1000000
set_option linter.unusedVariables false
set_option linter.unusedSimpArgs false
def c4q:Ctr:=⟨[tMR,tFr],[tB],fun x=>gdM x.1/\gdM x.2.1.1.1/\gdM x.2.1.2.1,fun _=>(true,())⟩
theorem b4c:aY Tryz.prog 5 c4q:=by
 refine bH ((((((((((nil0.ad a3X).ad FN).ad zD).ad NR).ad NQ).ad UL).ad a1o).ad TP).ad a1G).ad a0U) ⟨[],[],[]⟩ Tryz.func5 rfl (by decide) (fun x=>[]) (fun x hp=>?_)
 obtain⟨n,x,u⟩:=x
 change List (List aF) at n
 change (List (List aF) × Unit) × List (List aF) × Unit at x
 refine bP (let dX:=(Ty.list (Ty.lf Lf.aU));let A₁:=(List.map (fun(xs:Ty.den dX)=>List.map (fun(x:Ty.den (Ty.lf Lf.aU))=>aF.x x) xs) n);let jQ:=x.1.1;let eH:=(asT (List (List aF)) jQ);let tH:=x.2.1;let dB:=(asT (List (List aF)) tH);let A₀:=(zO n eH dB);let A₂:=(List.map (fun(xs:Ty.den (Ty.list (Ty.lf Lf.rat)))=>List.map (fun(x:Ty.den (Ty.lf Lf.rat))=>dS x) xs) A₀.1);let aP:=(List.map (fun(xs:Ty.den dX)=>List.map (fun(x:Ty.den (Ty.lf Lf.aU))=>aF.x x) xs) dB);let dO:=A₀.1.length;let dU:=(mulM A₁ A₀.1);let aV:=(bif decide (mulM dU A₁=List.map (fun(xs:Ty.den dX)=>List.map (fun(x:Ty.den (Ty.lf Lf.aU))=>aF.x x) xs) n) then decide (mulM A₀.1 dU=Prod.fst A₀) else false);let iG:=(List.getD A₀.1 0 (aC Rat)).length;let wU:=(mulM (trM aP) A₀.1);(True/\True)/\(List.length (n::asT (List (List aF)) jQ::asT (List (List aF)) tH::aC (List (List aF)))<=100/\True)/\ifB (!List.all (n::asT (List (List aF)) jQ::asT (List (List aF)) tH::aC (List (List aF))) yJ) (True/\asT Bool true=true/\True) (((smK 100 n/\smK 100 eH/\smK 100 dB)/\True)/\(((smK 100 n/\dV n)/\(smK 100 eH/\dV eH)/\(smK 100 dB/\dV dB)/\jO (Option.getD none (aC aF)))/\True)/\ifB (qjGz n eH dB none != 0) (((((Prod.fst A₀.2==qjGz n eH dB none)==true)=true->((Prod.fst A₀.2==qjGz n eH dB none)==true)=true/\True)/\(((Prod.fst A₀.2==qjGz n eH dB none)==true)=true->((Prod.fst A₀.2==qjGz n eH dB none)==true)=true/\True)/\((Prod.fst A₀.2==qjGz n eH dB none)=true->((Prod.fst A₀.2==qjGz n eH dB none)==true)=true)/\True)/\True/\(bif Prod.fst A₀.2==qjGz n eH dB none then aA dO==0 else false)=true/\True) (((((Prod.fst A₀.2 != 0)==false)=true->((Prod.fst A₀.2 != 0)==false)=true/\bY (fun(x:Ty.den (Ty.list (Ty.lf Lf.rat)))=>aW (bY (fun(x:Ty.den (Ty.lf Lf.rat))=>aW (aC Prop)) x::aC Prop)) A₀.1/\dV A₂/\True)/\(((Prod.fst A₀.2 != 0)==false)=true->((Prod.fst A₀.2 != 0)==false)=true/\True)/\((Prod.fst A₀.2 != 0)=false->((Prod.fst A₀.2 != 0)==false)=true)/\(((bif Prod.fst A₀.2 != 0 then true else bW A₂ != 0)==false)=true->((bif Prod.fst A₀.2 != 0 then true else bW A₂ != 0)==false)=true/\True)/\(((bif Prod.fst A₀.2 != 0 then true else bW A₂ != 0)==false)=true->((bif Prod.fst A₀.2 != 0 then true else bW A₂ != 0)==false)=true/\True)/\(((bif Prod.fst A₀.2 != 0 then true else bW A₂ != 0)==false)=true->((bif Prod.fst A₀.2 != 0 then true else bW A₂ != 0)==false)=true/\((bif Prod.fst A₀.2 != 0 then true else bW A₂ != 0)==false)=true/\True)/\((bif Prod.fst A₀.2 != 0 then true else bW A₂ != 0)=false->((bif Prod.fst A₀.2 != 0 then true else bW A₂ != 0)==false)=true)/\(((bif bif Prod.fst A₀.2 != 0 then true else bW A₂ != 0 then true else aA dO != aA n.length)==false)=true->((bif bif Prod.fst A₀.2 != 0 then true else bW A₂ != 0 then true else aA dO != aA n.length)==false)=true/\asT Int 0<=0/\0<aA dO/\True)/\(((bif bif Prod.fst A₀.2 != 0 then true else bW A₂ != 0 then true else aA dO != aA n.length)==false)=true->((bif bif Prod.fst A₀.2 != 0 then true else bW A₂ != 0 then true else aA dO != aA n.length)==false)=true/\True)/\(((bif bif Prod.fst A₀.2 != 0 then true else bW A₂ != 0 then true else aA dO != aA n.length)==false)=true->((bif bif Prod.fst A₀.2 != 0 then true else bW A₂ != 0 then true else aA dO != aA n.length)==false)=true/\True)/\(((bif bif Prod.fst A₀.2 != 0 then true else bW A₂ != 0 then true else aA dO != aA n.length)==false)=true->((bif bif Prod.fst A₀.2 != 0 then true else bW A₂ != 0 then true else aA dO != aA n.length)==false)=true/\True)/\(((bif bif Prod.fst A₀.2 != 0 then true else bW A₂ != 0 then true else aA dO != aA n.length)==false)=true->((bif bif Prod.fst A₀.2 != 0 then true else bW A₂ != 0 then true else aA dO != aA n.length)==false)=true/\((bif bif Prod.fst A₀.2 != 0 then true else bW A₂ != 0 then true else aA dO != aA n.length)==false)=true/\True)/\((bif bif Prod.fst A₀.2 != 0 then true else bW A₂ != 0 then true else aA dO != aA n.length)=false->((bif bif Prod.fst A₀.2 != 0 then true else bW A₂ != 0 then true else aA dO != aA n.length)==false)=true)/\(((bif bif bif Prod.fst A₀.2 != 0 then true else bW A₂ != 0 then true else aA dO != aA n.length then true else aA iG != aA n.length)==false)=true->((bif bif bif Prod.fst A₀.2 != 0 then true else bW A₂ != 0 then true else aA dO != aA n.length then true else aA iG != aA n.length)==false)=true/\(okM A₀.1/\wdM A₀.1=List.length A₀.1)/\True)/\(((bif bif bif Prod.fst A₀.2 != 0 then true else bW A₂ != 0 then true else aA dO != aA n.length then true else aA iG != aA n.length)==false)=true->((bif bif bif Prod.fst A₀.2 != 0 then true else bW A₂ != 0 then true else aA dO != aA n.length then true else aA iG != aA n.length)==false)=true/\True)/\((bif bif bif Prod.fst A₀.2 != 0 then true else bW A₂ != 0 then true else aA dO != aA n.length then true else aA iG != aA n.length)=false->((bif bif bif Prod.fst A₀.2 != 0 then true else bW A₂ != 0 then true else aA dO != aA n.length then true else aA iG != aA n.length)==false)=true)/\True)/\ifB (bif bif bif bif Prod.fst A₀.2 != 0 then true else bW A₂ != 0 then true else aA dO != aA n.length then true else aA iG != aA n.length then true else !mD A₀.1) (True/\asT Bool false=true/\True) ((bY (fun(x:Ty.den dX)=>aW (bY (fun(x:Ty.den (Ty.lf Lf.aU))=>aW ((aF.ok x=true)::aC Prop)) x::aC Prop)) n/\(okM A₁/\okM A₀.1/\wdM A₁=List.length A₀.1/\szM A₁ 1000000/\szM A₀.1 1000000)/\True)/\(bY (fun(x:Ty.den dX)=>aW (bY (fun(x:Ty.den (Ty.lf Lf.aU))=>aW ((aF.ok x=true)::aC Prop)) x::aC Prop)) n/\(okM dU/\okM A₁/\wdM dU=List.length A₁/\szM dU 1000000/\szM A₁ 1000000)/\bY (fun(x:Ty.den dX)=>aW (bY (fun(x:Ty.den (Ty.lf Lf.aU))=>aW ((aF.ok x=true)::aC Prop)) x::aC Prop)) n/\(oP (mulM dU A₁)/\oP A₁)/\((decide (mulM dU A₁=List.map (fun(xs:Ty.den dX)=>List.map (fun(x:Ty.den (Ty.lf Lf.aU))=>aF.x x) xs) n)==true)=true->(decide (mulM dU A₁=List.map (fun(xs:Ty.den dX)=>List.map (fun(x:Ty.den (Ty.lf Lf.aU))=>aF.x x) xs) n)==true)=true/\(decide (mulM dU A₁=List.map (fun(xs:Ty.den dX)=>List.map (fun(x:Ty.den (Ty.lf Lf.aU))=>aF.x x) xs) n)==true)=true/\(okM A₀.1/\okM dU/\wdM A₀.1=List.length dU/\szM A₀.1 1000000/\szM dU 1000000)/\True)/\((decide (mulM dU A₁=List.map (fun(xs:Ty.den dX)=>List.map (fun(x:Ty.den (Ty.lf Lf.aU))=>aF.x x) xs) n)==true)=true->(decide (mulM dU A₁=List.map (fun(xs:Ty.den dX)=>List.map (fun(x:Ty.den (Ty.lf Lf.aU))=>aF.x x) xs) n)==true)=true/\(decide (mulM dU A₁=List.map (fun(xs:Ty.den dX)=>List.map (fun(x:Ty.den (Ty.lf Lf.aU))=>aF.x x) xs) n)==true)=true/\(oP (mulM A₀.1 dU)/\oP A₀.1)/\True)/\(decide (mulM dU A₁=List.map (fun(xs:Ty.den dX)=>List.map (fun(x:Ty.den (Ty.lf Lf.aU))=>aF.x x) xs) n)=true->(decide (mulM dU A₁=List.map (fun(xs:Ty.den dX)=>List.map (fun(x:Ty.den (Ty.lf Lf.aU))=>aF.x x) xs) n)==true)=true)/\((aV==true)=true->(aV==true)=true/\True)/\((aV==true)=true->(aV==true)=true/\bY (fun(x:Ty.den dX)=>aW (bY (fun(x:Ty.den (Ty.lf Lf.aU))=>aW ((aF.ok x=true)::aC Prop)) x::aC Prop)) dB/\okM aP/\True)/\((aV==true)=true->(aV==true)=true/\(aV==true)=true/\(okM (trM aP)/\okM A₀.1/\wdM (trM aP)=List.length A₀.1/\szM (trM aP) 1000000/\szM A₀.1 1000000)/\True)/\((aV==true)=true->(aV==true)=true/\okM wU/\True)/\(aV=true->(aV==true)=true)/\True)/\True/\(bif bif decide (mulM dU A₁=List.map (fun(xs:Ty.den dX)=>List.map (fun(x:Ty.den (Ty.lf Lf.aU))=>aF.x x) xs) n) then decide (mulM A₀.1 dU=Prod.fst A₀) else false then wS wU else false)=true/\True)))) (by kernel_rfl) ?_
 simp only[UA,ak,dh,aJ,bn]
 try simp only[aJ,dh,bn]
 try dsimp only[Ty.den,Lf.den,asT] at *
 try simp only[uF,uD,trF,uG]
 have hZ:(⟨false,0,[],[]⟩:aF)=bV:=rfl
 try dsimp only[aA,asT,aB,aC,Ty.den,Lf.den] at *
 try simp only[hZ,Int.toNat_natCast,aJ,dh,bn,mg,mW,aH,nameAt,aX,aN,aZ,rowAt,iw,gJ]
 try simp only[jK,List.all_cons,List.all_nil,yx,nI,qw,jd,uy,ne_eq,ak,qg,nS,tC,xk,imp_self,AO,and_self,mg,mW,iD,qZ,qO,List.length_cons,List.length_nil]
 try simp only[wdF,iT,jA]
 have hp:gdM n/\gdM x.1.1/\gdM x.2.1:=hp
 obtain⟨⟨g,u1⟩,b,u2⟩:=x
 obtain⟨gn,gg,gb⟩:=hp
 dsimp only at gg gb ⊢
 try simp only[UA,ak,dh,jd]
 refine⟨by omega,fun hf=>?_⟩
 obtain⟨f1,f2,f3⟩:=hf
 obtain⟨sn,sn'⟩:=JU f1 gn
 obtain⟨sg,sg'⟩:=JU f2 gg
 obtain⟨sb,sb'⟩:=JU f3 gb
 refine⟨⟨sn,sg,sb⟩,⟨⟨sn,sn'⟩,⟨sg,sg'⟩,⟨sb,sb'⟩,by unfold jO;simp⟩,fun h=>?_,fun h=>?_⟩
 ·rw[b7b h];simp
 ·obtain⟨F,_,_⟩:=b0d h
  have A:=F.m sn sg sb
  have n7:=A.n7
  have c7:=A.c7
  have Pj:=AU sg sb F.cg F.cb (by rw[F.e2,F.e3]) F.e4
  obtain⟨q1,qS,qN,qQ,qZ,_⟩:=b0E A.hn A.hg A.hb F.hG F.hR
  have qC:=b7a A.hn A.nC n7 Pj (by rw[kT,F.e2])
  rw[b7c F];dsimp only
  generalize hQ:LD (mq n) (mq g) (mq b)=Q at *
  have okQ:okM Q:=qC.ok q1 (by omega)
  have okN:okM (mq n):=A.nC.ok A.hn (by omega)
  have okB:okM (mq b):=A.bC.ok A.hb (by omega)
  have on:=lG (gX F.cn).2
  have ob:=lG (gX F.cb).2
  have n1:=A.hn.mul q1
  have nC:=A.nC.mul qC A.hn q1
  have t1:=A.hb.trp
  have tC:=A.bC.trp A.hb
  have b1:=t1.mul q1
  have bC:=tC.mul qC t1 q1
  have n0:=A.hn.2.2.1
  have c3G:okM (mulM (mq n) Q):=nC.ok n1 (by omega)
  have lm:List.map (fun xs=>List.map (fun x=>dS x) xs) Q=liftM Q:=rfl
  have ok3:∀ (x:MQ),bY (fun x:LQ'=>aW [bY (fun _:Rat=>aW []) x]) x:=fun x=>jJ.mpr fun r _=>⟨jJ.mpr fun q _=>trivial,trivial⟩
  rw[lm,q1.len,q1.wd,qS,qZ,okQ.chk]
  have lN:(mq n).length=n.length:=kT n
  refine⟨⟨fun _=>⟨rfl,ok3 Q,okQ.short'⟩,fun h=>⟨h,by omega,by omega⟩,fun h=>⟨h,okQ,rfl⟩⟩,fun h=>?_,fun _=>⟨⟨on,okN,okQ,A.hn.wd,A.nC.sz (by omega),qC.sz (by omega)⟩,⟨on,⟨c3G,okN,by rw[n1.wd,lN],nC.sz (by omega),A.nC.sz (by omega)⟩,on,⟨by rw[qN];exact okN.oP,okN.oP⟩,fun h=>⟨h,h,okQ,c3G,n1.len.symm,qC.sz (by omega),nC.sz (by omega)⟩,fun h=>⟨h,h,by rw[qQ];exact okQ.oP,okQ.oP⟩,fun h=>jw h,fun h=>⟨h,ob,okB⟩,fun h=>⟨h,h,tC.ok t1 (by omega),okQ,t1.wd,tC.sz (by omega),qC.sz (by omega)⟩,fun h=>⟨h,bC.ok b1 (by omega)⟩,fun h=>⟨jw h.1,jw h.2⟩⟩,⟨qN,qQ⟩,rfl⟩⟩
  simp at h
section
open Go Go.ChangeShapes Go.WideShapes Go.ChangeAt Go.RowKit Go.Joins
set_option maxRecDepth 100000 in
theorem DY {pre:(nest [(.list (.list (.lf .aU))),(.pair (.pair (.list (.list (.lf .aU))) .unit) (.pair (.list (.list (.lf .aU))) .unit))]).den->Prop} (h:aY Tryz.prog 5 ⟨[(.list (.list (.lf .aU))),(.pair (.pair (.list (.list (.lf .aU))) .unit) (.pair (.list (.list (.lf .aU))) .unit))],[.bool],pre,fun _=>(true,())⟩) (hp:∀ (x0:Ty.den (.list (.list (.lf .aU)))) (x1:Ty.den (.pair (.pair (.list (.list (.lf .aU))) .unit) (.pair (.list (.list (.lf .aU))) .unit))),good (.list (.list (.lf .aU))) x0->good (.pair (.pair (.list (.list (.lf .aU))) .unit) (.pair (.list (.list (.lf .aU))) .unit)) x1->pre (x0,x1,())):Rows.DatumCofactorsSaid:=by
 have lifted:∀ (os:Os) (started:os.Started) (H:Type) (enc:TypeId × Value->H),ReturnsInHanded {} Tryz.checked os 5 .any (Rows.datumCofactorsSpec.pre6 enc Tryz.prog Tryz.f5 Rows.datumCofactorsRow.domain false) (Rows.datumCofactorsSpec.post enc Tryz.prog Tryz.f5 false true false false):=by
  intro os started H enc
  refine returnsInHanded_of_change (C:=Tryz.checked) own started (by kernel_rfl) Tryz.func5
   (ChangeSpec.witness6 (enc:=enc) (C:=Tryz.checked) false ⟨#[],#[.slice none 0 0,.agg #[.slice none 0 0,.slice none 0 0]],[]⟩ 8 (by kernel_rfl) (by kernel_rfl) (by kernel_rfl) (by kernel_rfl)) ?_
  intro W base args ds gs before hval0 hW hcnd _
  have hval:∀ (j:Nat) t v,Tryz.f5.params[j]?=some t->args[j]?=some v->Value.okWide Tryz.prog W .any base t v:=hval0
  have hW':=hW
  obtain⟨p,q,hA0,hV,rfl,hfz,hnd⟩:=hW
  have hA:DataW.TrodAll enc Tryz.prog W 0 (fun _=>true) true Tryz.f5.params.toList args.toList ds p:=hA0
  rw[Tryz.params5] at hA hval
  obtain⟨v0,vs0,d0,ds0,p0,q0,hargs,rfl,rfl,h0,r0⟩:=trodAll_cons hA
  obtain⟨v1,vs1,d1,ds1,p1,q1,rfl,rfl,rfl,h1,r1⟩:=trodAll_cons r0
  obtain⟨rfl,rfl,rfl⟩:=trodAll_nil r1
  obtain rfl:args=#[v0,v1]:=by cases args;simp_all
  obtain⟨rfl,rfl⟩:=trodVars_none hV
  obtain⟨x0,k0,g0⟩:=DJ (t:=.list (.list (.lf .aU))) (by kernel_rfl) (hval 0 23 v0 rfl rfl) h0
  have l0:∀ x ∈ p0,x.block<W.heap.size:=fun x hx=>hW'.lt x (by simp[hx])
  obtain⟨x1,k1,g1⟩:=DJ (t:=.pair (.pair (.list (.list (.lf .aU))) .unit) (.pair (.list (.list (.lf .aU))) .unit)) (by kernel_rfl) (hval 1 40 v1 rfl rfl) h1
  have l1:∀ x ∈ p1,x.block<W.heap.size:=fun x hx=>hW'.lt x (by simp[hx])
  refine(h (a0Q W) W [v0,v1] (x0,x1,()) (fun q hq=>hq) ⟨_,_,rfl,k0,_,_,rfl,k1,rfl⟩ (hp x0 x1 g0 g1)).mono fun e W' ⟨v,he,hr,hg⟩=>?_
  subst he
  have hr:kM _ W' .bool v true:=hr
  rw[a4V hr]
  exact⟨_,rfl,_,_,_,[],_,[],hW',trodAll_cons_mk (shut_bool Tryz.underlying4 _) trodAll_mk0,(trodAll_cons_mk (Below.trod laidOut (by kernel_rfl) (oz (by kernel_rfl)) h0 hg l0) (trodAll_cons_mk (Below.trod laidOut (by kernel_rfl) (oz (by kernel_rfl)) h1 hg l1) trodAll_mk0)),rfl,hg.frame _,fun h=>by cases h⟩
 exact OpenClaim.holds_of_wide 5 Tryz.f5 rfl rfl rfl rfl rfl rfl rfl ⟨rfl,rfl,rfl,rfl,rfl⟩ rfl rfl rfl rfl rfl (by kernel_rfl) Tryz.func5 (by kernel_rfl)
  (oz (by kernel_rfl)) (by unfold Func.isWrapper;first|(rw[eY (by decide +kernel)];kernel_rfl)|(rw[dw (by decide +kernel)];exact⟨rfl,rfl⟩))
  (fun os started H enc _=>lifted os started H enc)
end
theorem vcofactors_holds:Rows.DatumCofactorsSaid:=DY b4c (fun _ _ a b=>⟨a5g a,a5g b.1.1,a5g b.2.1⟩)
end Go.Proofs.YtgplhbhfdgempaaGreat
