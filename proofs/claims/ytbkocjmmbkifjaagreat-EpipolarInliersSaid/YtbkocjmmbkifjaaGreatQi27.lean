/-
  Lemmas for the theorem vinliers_holds, part 27 of 32.
-/
import Derived.Lib.AppendZerosOnto
import Derived.Lib.Walk
import Derived.Test.YtbkocjmmbkifjaaGreatQi26
namespace Go.Proofs.YtbkocjmmbkifjaaGreat
open Go Go.RowKit
theorem qh:type_of% @Bool.and_true:=@Bool.and_true
theorem jo:type_of% @Bool.and_eq_false_imp:=@Bool.and_eq_false_imp
theorem jv:type_of% @bne_eq_false_iff_eq:=@bne_eq_false_iff_eq
theorem oh:type_of% @Int.natCast_inj:=@Int.natCast_inj
theorem yw:type_of% @imp_self:=@imp_self
theorem qp:type_of% @implies_true:=@implies_true
theorem yx:type_of% @and_self:=@and_self
theorem ji:type_of% @Bool.or_eq_false_iff:=@Bool.or_eq_false_iff
theorem Df:type_of% @List.not_mem_nil:=@List.not_mem_nil
set_option maxRecDepth 100000
set_option maxHeartbeats 1000000
set_option linter.unusedVariables false
set_option linter.unusedSimpArgs false
theorem iH {a b:Bool}:(bif a then true else b)=(a || b):=by cases a<;>rfl
theorem iG {a b:Bool}:(bif a then b else false)=(a&&b):=by cases a<;>rfl
def gQ (q:aF):Bool:=(decide (q.n<=1)&&decide (q.m<=1))&&((decide (q.n=0) || decide (q.g.getD 0 0<100000))&&(decide (q.m=0) || decide (q.h.getD 0 0<=100)))
noncomputable def b9X:Ctr:=⟨[tR],[tB],fun x=>True,fun x=>(gQ x.1,())⟩
theorem b0E:aT Tryz.prog 125 b9X:=by
 refine bY Lib.nil ⟨[],[],[]⟩ Tryz.func125 rfl (by decide) (fun x=>[]) (fun x hp=>?_)
 obtain⟨q,u⟩:=x
 change aF at q
 refine dM (let A₁:=(aF.g q).length;let fO:=((aB A₁==0)==false);let jX:=(decide (aB A₁ > 1)==false);let pI:=(aF.h q).length;let xZ:=(aB (List.getD (aF.g q) 0 0)<100000);let A₀:=(bif aB A₁==0 then true else decide xZ);let A₂:=(A₀==true&&(aB pI==0)==false);let jQ:=((A₀==true)=true->(A₀==true)=true/\True);let CJ:=(jX=true->jX=true/\True);let RU:=(fO=true->fO=true/\True);let WH:=(A₂=true->A₂=true/\True);(CJ/\CJ/\(decide (aB A₁ > 1)=false->jX=true)/\True)/\ifB (bif decide (aB A₁ > 1) then true else decide (aB pI > 1)) (True/\false=gQ q/\True) (((fO=true->fO=true/\asT Int 0<=0/\0<aB A₁/\True)/\RU/\RU/\((aB A₁==0)=false->fO=true)/\jQ/\jQ/\jQ/\(A₂=true->A₂=true/\asT Int 0<=0/\0<aB pI/\True)/\WH/\WH/\((A₀==true)=true->(A₀==true)=true/\((aB pI==0)=false->A₂=true)/\True)/\(A₀=true->(A₀==true)=true)/\True)/\True/\(bif bif aB A₁==0 then true else decide xZ then bif aB pI==0 then true else decide (aB (List.getD (aF.h q) 0 0)<=100) else false)=gQ q/\True)) (by kernel_rfl) ?_
 have hZ:(⟨false,0,[],[]⟩:aF)=cZ:=rfl
 try simp only[aQ,ay,au]
 try dsimp only[aB,asT,aA,aP,Ty.den,Lf.den] at *
 try simp only[hZ,Int.toNat_natCast,aQ,ay,au,og,ny,jg,jf]
 try simp only[iH,iG,List.all_cons,List.all_nil,qh,jc,jr,je,qo,ne_eq,aj,jo,jm,jv,oh,yw,qp,yx,og,ny,lg,ji,List.length_cons,List.length_nil]
 have h01:∀ n:Nat,(¬ (n:Int) > 1)->decide ((n:Int) > 1)=false:=fun n h=>tq h
 have hd:∀ n:Nat,decide ((n:Int) > 1)=!decide (n<=1):=fun n=>by
  by_cases h:n<=1
  ·rw[xk h,tq (by omega)];rfl
  ·rw[tq h,xk (by omega)];rfl
 have hz:∀ n:Nat,(((n:Nat):Int)==0)=decide (n=0):=fun n=>by
  by_cases h:n=0
  ·rw[h];rfl
  ·rw[tq h];exact jm.mpr (by omega)
 refine⟨h01 _,fun h=>?_,fun h=>⟨⟨fun a=>⟨a,by omega,by omega⟩,fun a=>⟨a,by omega,by omega⟩,fun a=>⟨a,fun b=>⟨a,b⟩⟩⟩,?_⟩⟩
 ·rw[hd,hd] at h
  unfold gQ
  have:(decide (q.n<=1)&&decide (q.m<=1))=false:=by
   rcases h with h|h
   ·rw[show decide (q.n<=1)=false by simpa using h];rfl
   ·rw[show decide (q.m<=1)=false by simpa using h,Bool.and_false]
  rw[this];rfl
 ·rw[hd,hd] at h
  unfold gQ
  rw[show decide (q.n<=1)=true by simpa using h.1,show decide (q.m<=1)=true by simpa using h.2,hz,hz]
  rw[show decide (((q.g.getD 0 0:Nat):Int)<100000)=decide (q.g.getD 0 0<100000) from Ar.mpr (by omega),show decide (((q.h.getD 0 0:Nat):Int)<=100)=decide (q.h.getD 0 0<=100) from Ar.mpr (by omega)]
  cases (decide (q.g.length=0) || decide (q.g.getD 0 0<100000))<;>rfl
noncomputable def c0s:Ctr:=⟨[tR],[tB],fun x=>True,fun x=>(!gQ x.1,())⟩
theorem a4G:aT Tryz.prog 124 c0s:=by
 refine bY (nil0.ad b0E) ⟨[],[],[]⟩ Tryz.func124 rfl (by decide) (fun x=>[]) (fun x hp=>?_)
 obtain⟨q,u⟩:=x
 change aF at q
 refine dM ((True/\True)/\True/\(!gQ q)=!gQ q/\True) (by kernel_rfl) ?_
 have hZ:(⟨false,0,[],[]⟩:aF)=cZ:=rfl
 try simp only[aQ,ay,au]
 try dsimp only[aB,asT,aA,aP,Ty.den,Lf.den] at *
 try simp only[hZ,Int.toNat_natCast,aQ,ay,au,og,ny,jg,jf]
 try simp only[iH,iG,List.all_cons,List.all_nil,qh,jc,jr,je,qo,ne_eq,aj,jo,jm,jv,oh,yw,qp,yx,og,ny,lg,ji,List.length_cons,List.length_nil]
noncomputable def b8F:Ctr:=⟨[.list tR,.clo 124 .unit],[tI],fun x=>(show List (aF) from x.1).length<=1000000/\∀ q ∈ (show List (aF) from x.1),(fun _=>True) q,fun x=>(mY (fun q=>!gQ q) (show List (aF) from x.1),())⟩
theorem a8i:aT Tryz.prog 211 b8F:=by
 refine bY (nil0.ad a4G) ⟨[],[],[]⟩ Tryz.func211 rfl (by decide) (fun x=>[.inv {k:Nat // k<=(show List (aF) from x.1).length/\((show List (aF) from x.1).take k).any (fun q=>!gQ q)=false} (fun k=>[(8,.val tI (k.1:Int))]) (fun k=>[]) (fun k=>(show List (aF) from x.1).length-k.1) ⟨0,by omega,rfl⟩ (fun _=>[])]) (fun x hp=>?_)
 obtain⟨x,c,u⟩:=x
 change List (aF) at x
 change Unit at c
 refine dM ((asT Int 0=0/\True)/\∀ (i:{ k:Nat // k<=List.length x/\(List.any (List.take k x) fun(q:aF)=>!gQ q)=false }),asT Bool true=true/\ifB (decide (aB (aA i)<aB x.length)) ((0<=aB (aA i)/\aB (aA i)<aB x.length/\True/\True)/\ifB (!gQ (List.getD x (aB (aA i)).toNat cZ)) (True/\aB (aA i)=mY (fun(q:aF)=>!gQ q) x/\True) (∃ (i':{ k:Nat // k<=List.length x/\(List.any (List.take k x) fun(q:aF)=>!gQ q)=false }),List.length x-aA i'<List.length x-aA i/\IntKind.wrap IntKind.i64 (aB (aA i)+1)=aB (aA i')/\True)) (True/\-1=mY (fun(q:aF)=>!gQ q) x/\True)) (by kernel_rfl) ?_
 have hZ:(⟨false,0,[],[]⟩:aF)=cZ:=rfl
 try simp only[aQ,ay,au]
 try dsimp only[aB,asT,aA,aP,Ty.den,Lf.den] at *
 try simp only[hZ,Int.toNat_natCast,aQ,ay,au,og,ny,jg,jf]
 try simp only[iH,iG,List.all_cons,List.all_nil,qh,jc,jr,je,qo,ne_eq,aj,jo,jm,jv,oh,yw,qp,yx,og,ny,lg,ji,List.length_cons,List.length_nil]
 have hp:x.length<=1000000/\∀ q ∈ x,(fun _=>True) q:=hp
 obtain⟨hl,hb⟩:=hp
 refine fun i=>⟨fun h1=>⟨(by first|exact⟨by omega,h1,bF hb (by omega)⟩|exact⟨by omega,h1⟩),fun h2=>?_,fun h2=>⟨⟨i.1+1,by omega,?_⟩,by simp only;omega,?_⟩⟩,fun h1=>?_⟩
 ·exact(uZ (d:=cZ) (by omega) i.2.2 (by first|exact h2|rw[h2];rfl)).symm
 ·rw[nD (d:=cZ) (by omega),i.2.2,h2];rfl
 ·rw[cO (by omega) (by omega)];rfl
 ·have h3:=i.2.2
  rw[jh (by omega)] at h3
  exact(zW h3).symm
noncomputable def b8v:Ctr:=⟨[.list tR,.clo 124 .unit],[tB],fun x=>(show List (aF) from x.1).length<=1000000/\∀ q ∈ (show List (aF) from x.1),(fun _=>True) q,fun x=>((show List (aF) from x.1).any (fun q=>!gQ q),())⟩
theorem a7f:aT Tryz.prog 123 b8v:=by
 refine bY ((nil0.ad a4G).ad a8i) ⟨[],[],[]⟩ Tryz.func123 rfl (by decide) (fun x=>[]) (fun x hp=>?_)
 obtain⟨x,c,u⟩:=x
 change List (aF) at x
 change Unit at c
 refine dM (((List.length x<=1000000/\∀ (q:aF),q ∈ x->True)/\True)/\True/\(decide (mY (fun(q:aF)=>!gQ q) x ≥ 0)=List.any x fun(q:aF)=>!gQ q)/\True) (by kernel_rfl) ?_
 exact⟨⟨hp,trivial⟩,trivial,vC _ _,trivial⟩
noncomputable def c0t:Ctr:=⟨[.list tR],[tB],fun x=>(show LR from x.1).length<=1000000,fun x=>((show LR from x.1).all gQ,())⟩
theorem a4L:aT Tryz.prog 44 c0t:=by
 refine bY (nil0.ad a7f) ⟨[],[],[]⟩ Tryz.func44 rfl (by decide) (fun x=>[]) (fun x hp=>?_)
 obtain⟨x,u⟩:=x
 change List aF at x
 refine dM (((List.length x<=1000000/\∀ (q:aF),q ∈ x->True)/\True)/\True/\(!List.any x fun(q:aF)=>!gQ q)=List.all x gQ/\True) (by kernel_rfl) ?_
 have hZ:(⟨false,0,[],[]⟩:aF)=cZ:=rfl
 try simp only[aQ,ay,au]
 try dsimp only[aB,asT,aA,aP,Ty.den,Lf.den] at *
 try simp only[hZ,Int.toNat_natCast,aQ,ay,au,og,ny,jg,jf]
 try simp only[iH,iG,List.all_cons,List.all_nil,qh,jc,jr,je,qo,ne_eq,aj,jo,jm,jv,oh,yw,qp,yx,og,ny,lg,ji,List.length_cons,List.length_nil]
 refine⟨hp,?_⟩
 rw[Bool.eq_iff_iff];simp
theorem WV {α:Type} {p:α->Bool} {xs:List α} {i:Nat} {d:α} (hi:i<xs.length) (h:p (xs.getD i d)=true):xs.any p=true:=by
 rw[dh,dn hi] at h
 exact List.any_eq_true.mpr ⟨_,um hi,h⟩
def qL (r:LR):Bool:=decide (r.length > 4) || !r.all gQ
def zJ (f:MR):Bool:=decide (f.length<=4)&&!f.any qL
noncomputable def c0q:Ctr:=⟨[.list tR],[tB],fun x=>True,fun x=>(qL x.1,())⟩
theorem a4E:aT Tryz.prog 83 c0q:=by
 refine bY (nil0.ad a4L) ⟨[],[],[]⟩ Tryz.func83 rfl (by decide) (fun x=>[]) (fun x hp=>?_)
 obtain⟨r,u⟩:=x
 change List aF at r
 refine dM (let A₁:=(aB r.length > 4);let A₀:=(decide A₁==false);((A₀=true->A₀=true/\List.length r<=1000000/\True)/\(A₀=true->A₀=true/\True)/\(decide A₁=false->A₀=true)/\True)/\True/\(bif decide A₁ then true else !List.all r gQ)=qL r/\True) (by kernel_rfl) ?_
 have hZ:(⟨false,0,[],[]⟩:aF)=cZ:=rfl
 try simp only[aQ,ay,au]
 try dsimp only[aB,asT,aA,aP,Ty.den,Lf.den] at *
 try simp only[hZ,Int.toNat_natCast,aQ,ay,au,og,ny,jg,jf]
 try simp only[iH,iG,List.all_cons,List.all_nil,qh,jc,jr,je,qo,ne_eq,aj,jo,jm,jv,oh,yw,qp,yx,og,ny,lg,ji,List.length_cons,List.length_nil]
 have e:decide ((r.length:Int) > 4)=decide (r.length > 4):=Ar.mpr (by omega)
 refine⟨⟨fun h=>⟨h,by have:=of_decide_eq_false h;omega⟩,fun h=>tq h⟩,?_⟩
 rw[e];rfl
noncomputable def b8E:Ctr:=⟨[.list (.list tR),.clo 83 .unit],[tI],fun x=>(show List (List aF) from x.1).length<=1000000/\∀ q ∈ (show List (List aF) from x.1),(fun _=>True) q,fun x=>(mY qL (show List (List aF) from x.1),())⟩
theorem a8h:aT Tryz.prog 166 b8E:=by
 refine bY (nil0.ad a4E) ⟨[],[],[]⟩ Tryz.func166 rfl (by decide) (fun x=>[.inv {k:Nat // k<=(show List (List aF) from x.1).length/\((show List (List aF) from x.1).take k).any qL=false} (fun k=>[(8,.val tI (k.1:Int))]) (fun k=>[]) (fun k=>(show List (List aF) from x.1).length-k.1) ⟨0,by omega,rfl⟩ (fun _=>[])]) (fun x hp=>?_)
 obtain⟨x,c,u⟩:=x
 change List (List aF) at x
 change Unit at c
 refine dM ((asT Int 0=0/\True)/\∀ (i:{ k:Nat // k<=List.length x/\List.any (List.take k x) qL=false }),asT Bool true=true/\ifB (decide (aB (aA i)<aB x.length)) ((0<=aB (aA i)/\aB (aA i)<aB x.length/\True/\True)/\ifB (qL (List.getD x (aB (aA i)).toNat (aP aF))) (True/\aB (aA i)=mY qL x/\True) (∃ (i':{ k:Nat // k<=List.length x/\List.any (List.take k x) qL=false }),List.length x-aA i'<List.length x-aA i/\IntKind.wrap IntKind.i64 (aB (aA i)+1)=aB (aA i')/\True)) (True/\-1=mY qL x/\True)) (by kernel_rfl) ?_
 have hZ:(⟨false,0,[],[]⟩:aF)=cZ:=rfl
 try simp only[aQ,ay,au]
 try dsimp only[aB,asT,aA,aP,Ty.den,Lf.den] at *
 try simp only[hZ,Int.toNat_natCast,aQ,ay,au,og,ny,jg,jf]
 try simp only[iH,iG,List.all_cons,List.all_nil,qh,jc,jr,je,qo,ne_eq,aj,jo,jm,jv,oh,yw,qp,yx,og,ny,lg,ji,List.length_cons,List.length_nil]
 have hp:x.length<=1000000/\∀ q ∈ x,(fun _=>True) q:=hp
 obtain⟨hl,hb⟩:=hp
 refine fun i=>⟨fun h1=>⟨(by first|exact⟨by omega,h1,bF hb (by omega)⟩|exact⟨by omega,h1⟩),fun h2=>?_,fun h2=>⟨⟨i.1+1,by omega,?_⟩,by simp only;omega,?_⟩⟩,fun h1=>?_⟩
 ·exact(uZ (d:=[]) (by omega) i.2.2 (by first|exact h2|rw[h2];rfl)).symm
 ·rw[nD (d:=[]) (by omega),i.2.2,h2];rfl
 ·rw[cO (by omega) (by omega)];rfl
 ·have h3:=i.2.2
  rw[jh (by omega)] at h3
  exact(zW h3).symm
noncomputable def b8u:Ctr:=⟨[.list (.list tR),.clo 83 .unit],[tB],fun x=>(show List (List aF) from x.1).length<=1000000/\∀ q ∈ (show List (List aF) from x.1),(fun _=>True) q,fun x=>((show List (List aF) from x.1).any qL,())⟩
theorem a7e:aT Tryz.prog 82 b8u:=by
 refine bY ((nil0.ad a4E).ad a8h) ⟨[],[],[]⟩ Tryz.func82 rfl (by decide) (fun x=>[]) (fun x hp=>?_)
 obtain⟨x,c,u⟩:=x
 change List (List aF) at x
 change Unit at c
 refine dM (((List.length x<=1000000/\∀ (q:List aF),q ∈ x->True)/\True)/\True/\decide (mY qL x ≥ 0)=List.any x qL/\True) (by kernel_rfl) ?_
 exact⟨⟨hp,trivial⟩,trivial,vC _ _,trivial⟩
noncomputable def c0r:Ctr:=⟨[tMR],[tB],fun x=>True,fun x=>(zJ x.1,())⟩
theorem b2w:aT Tryz.prog 20 c0r:=by
 refine bY (nil0.ad a7e) ⟨[],[],[]⟩ Tryz.func20 rfl (by decide) (fun x=>[]) (fun x hp=>?_)
 obtain⟨f,u⟩:=x
 change List (List aF) at f
 refine dM (let A₁:=(aB f.length<=4);let A₀:=(decide A₁==true);((A₀=true->A₀=true/\(List.length f<=1000000/\∀ (q:List aF),q ∈ f->True)/\True)/\(A₀=true->A₀=true/\True)/\(decide A₁=true->A₀=true)/\True)/\True/\(bif decide A₁ then !List.any f qL else false)=zJ f/\True) (by kernel_rfl) ?_
 have hZ:(⟨false,0,[],[]⟩:aF)=cZ:=rfl
 try simp only[aQ,ay,au]
 try dsimp only[aB,asT,aA,aP,Ty.den,Lf.den] at *
 try simp only[hZ,Int.toNat_natCast,aQ,ay,au,og,ny,jg,jf]
 try simp only[iH,iG,List.all_cons,List.all_nil,qh,jc,jr,je,qo,ne_eq,aj,jo,jm,jv,oh,yw,qp,yx,og,ny,lg,ji,List.length_cons,List.length_nil]
 have e:decide ((f.length:Int)<=4)=decide (f.length<=4):=Ar.mpr (by omega)
 refine⟨⟨fun h=>⟨h,by have:=Bd h;omega⟩,fun h=>xk h⟩,?_⟩
 rw[e];rfl
def nZ (n:Int):Bool:=decide (n > 1048576) || decide (n < -1048576)
abbrev b2B:Ty:=.pair tI (.pair tI .unit)
abbrev KR:Ty:=.pair b2B (.pair b2B .unit)
abbrev dQ:Type:=(Int × Int × Unit) × (Int × Int × Unit) × Unit
def vY:dQ:=(((0:Int),(0:Int),()),((0:Int),(0:Int),()),())
def EJ (p:dQ):Bool:=[p.1.1,p.1.2.1,p.2.1.1,p.2.1.2.1].any nZ
noncomputable def c0g:Ctr:=⟨[tI],[tB],fun x=>True,fun x=>(nZ x.1,())⟩
noncomputable def b8C:Ctr:=⟨[.list tI],[tB],fun x=>(show List Int from x.1).length<=1000000,fun x=>((show List Int from x.1).any nZ,())⟩
theorem a3L:aT Tryz.prog 224 c0g:=by
 refine bY Lib.nil ⟨[],[],[]⟩ Tryz.func224 rfl (by decide) (fun x=>[]) (fun x hp=>?_)
 obtain⟨n,u⟩:=x
 change Int at n
 refine dM ((((decide (n < -1048576)==false)=true->(decide (n < -1048576)==false)=true/\True)/\(decide (n < -1048576)=false->(decide (n < -1048576)==false)=true)/\True)/\True/\(bif decide (n < -1048576) then true else decide (n > 1048576))=nZ n/\True) (by kernel_rfl) ?_
 have hZ:(⟨false,0,[],[]⟩:aF)=cZ:=rfl
 try simp only[aQ,ay,au]
 try dsimp only[aB,asT,aA,aP,Ty.den,Lf.den] at *
 try simp only[hZ,Int.toNat_natCast,aQ,ay,au,og,ny,jg,jf]
 try simp only[iH,iG,List.all_cons,List.all_nil,qh,jc,jr,je,qo,ne_eq,aj,jo,jm,jv,oh,yw,qp,yx,og,ny,lg,ji,List.length_cons,List.length_nil]
 exact⟨fun h=>tq h,Bool.or_comm _ _⟩
theorem a8x:aT Tryz.prog 15 b8C:=by
 refine bY Lib.nil ⟨[],[],[]⟩ Tryz.func15 rfl (by decide) (fun x=>[.inv {k:Nat // k<=(show List Int from x.1).length/\((show List Int from x.1).take k).any nZ=false} (fun k=>[(7,.val tI (k.1:Int))]) (fun k=>[]) (fun k=>(show List Int from x.1).length-k.1) ⟨0,by omega,rfl⟩ (fun _=>[])]) (fun x hp=>?_)
 obtain⟨x,u⟩:=x
 change List Int at x
 refine dM ((asT Int 0=0/\True)/\∀ (i:{ k:Nat // k<=List.length x/\List.any (List.take k x) nZ=false }),let A₀:=(List.getD x (aB (aA i)).toNat 0 > 1048576);asT Bool true=true/\ifB (decide (aB (aA i)<aB x.length)) ((0<=aB (aA i)/\aB (aA i)<aB x.length/\True)/\(((decide A₀==false)=true->(decide A₀==false)=true/\True)/\(decide A₀=false->(decide A₀==false)=true)/\True)/\ifB (bif decide A₀ then true else decide (List.getD x (aB (aA i)).toNat 0 < -1048576)) (True/\true=List.any x nZ/\True) (∃ (i':{ k:Nat // k<=List.length x/\List.any (List.take k x) nZ=false }),List.length x-aA i'<List.length x-aA i/\IntKind.wrap IntKind.i64 (aB (aA i)+1)=aB (aA i')/\True)) (True/\false=List.any x nZ/\True)) (by kernel_rfl) ?_
 have hZ:(⟨false,0,[],[]⟩:aF)=cZ:=rfl
 try simp only[aQ,ay,au]
 try dsimp only[aB,asT,aA,aP,Ty.den,Lf.den] at *
 try simp only[hZ,Int.toNat_natCast,aQ,ay,au,og,ny,jg,jf]
 try simp only[iH,iG,List.all_cons,List.all_nil,qh,jc,jr,je,qo,ne_eq,aj,jo,jm,jv,oh,yw,qp,yx,og,ny,lg,ji,List.length_cons,List.length_nil]
 have hp:x.length<=1000000:=hp
 refine fun i=>⟨fun h1=>⟨⟨by omega,h1⟩,fun h=>tq h,fun h=>?_,fun h=>⟨⟨i.1+1,by omega,?_⟩,by simp only;omega,?_⟩⟩,fun h1=>?_⟩
 ·exact(WV (i:=i.1) (d:=0) (by omega) (by unfold nZ;rcases h with h|h<;>rw[h]<;>simp)).symm
 ·rw[nD (d:=0) (by omega),i.2.2]
  show (false || nZ _)=false
  unfold nZ;rw[h.1,h.2];rfl
 ·rw[cO (by omega) (by omega)];rfl
 ·have h3:=i.2.2
  rw[jh (by omega)] at h3
  exact h3.symm
noncomputable def b8D:Ctr:=⟨[.list tI,.clo 224 .unit],[tI],fun x=>(show List (Int) from x.1).length<=1000000/\∀ q ∈ (show List (Int) from x.1),(fun _=>True) q,fun x=>(mY nZ (show List (Int) from x.1),())⟩
theorem a8g:aT Tryz.prog 218 b8D:=by
 refine bY (nil0.ad a3L) ⟨[],[],[]⟩ Tryz.func218 rfl (by decide) (fun x=>[.inv {k:Nat // k<=(show List (Int) from x.1).length/\((show List (Int) from x.1).take k).any nZ=false} (fun k=>[(8,.val tI (k.1:Int))]) (fun k=>[]) (fun k=>(show List (Int) from x.1).length-k.1) ⟨0,by omega,rfl⟩ (fun _=>[])]) (fun x hp=>?_)
 obtain⟨x,c,u⟩:=x
 change List (Int) at x
 change Unit at c
 refine dM ((asT Int 0=0/\True)/\∀ (i:{ k:Nat // k<=List.length x/\List.any (List.take k x) nZ=false }),asT Bool true=true/\ifB (decide (aB (aA i)<aB x.length)) ((0<=aB (aA i)/\aB (aA i)<aB x.length/\True/\True)/\ifB (nZ (List.getD x (aB (aA i)).toNat 0)) (True/\aB (aA i)=mY nZ x/\True) (∃ (i':{ k:Nat // k<=List.length x/\List.any (List.take k x) nZ=false }),List.length x-aA i'<List.length x-aA i/\IntKind.wrap IntKind.i64 (aB (aA i)+1)=aB (aA i')/\True)) (True/\-1=mY nZ x/\True)) (by kernel_rfl) ?_
 have hZ:(⟨false,0,[],[]⟩:aF)=cZ:=rfl
 try simp only[aQ,ay,au]
 try dsimp only[aB,asT,aA,aP,Ty.den,Lf.den] at *
 try simp only[hZ,Int.toNat_natCast,aQ,ay,au,og,ny,jg,jf]
 try simp only[iH,iG,List.all_cons,List.all_nil,qh,jc,jr,je,qo,ne_eq,aj,jo,jm,jv,oh,yw,qp,yx,og,ny,lg,ji,List.length_cons,List.length_nil]
 have hp:x.length<=1000000/\∀ q ∈ x,(fun _=>True) q:=hp
 obtain⟨hl,hb⟩:=hp
 refine fun i=>⟨fun h1=>⟨(by first|exact⟨by omega,h1,bF hb (by omega)⟩|exact⟨by omega,h1⟩),fun h2=>?_,fun h2=>⟨⟨i.1+1,by omega,?_⟩,by simp only;omega,?_⟩⟩,fun h1=>?_⟩
 ·exact(uZ (d:=0) (by omega) i.2.2 (by first|exact h2|rw[h2];rfl)).symm
 ·rw[nD (d:=0) (by omega),i.2.2,h2];rfl
 ·rw[cO (by omega) (by omega)];rfl
 ·have h3:=i.2.2
  rw[jh (by omega)] at h3
  exact(zW h3).symm
noncomputable def b8t:Ctr:=⟨[.list tI,.clo 224 .unit],[tB],fun x=>(show List (Int) from x.1).length<=1000000/\∀ q ∈ (show List (Int) from x.1),(fun _=>True) q,fun x=>((show List (Int) from x.1).any nZ,())⟩
theorem a7d:aT Tryz.prog 136 b8t:=by
 refine bY ((nil0.ad a3L).ad a8g) ⟨[],[],[]⟩ Tryz.func136 rfl (by decide) (fun x=>[]) (fun x hp=>?_)
 obtain⟨x,c,u⟩:=x
 change List (Int) at x
 change Unit at c
 refine dM (((List.length x<=1000000/\∀ (q:Int),q ∈ x->True)/\True)/\True/\decide (mY nZ x ≥ 0)=List.any x nZ/\True) (by kernel_rfl) ?_
 exact⟨⟨hp,trivial⟩,trivial,vC _ _,trivial⟩
theorem a9i:aT Tryz.prog 144 b8C:=by
 refine bY (nil0.ad a7d) ⟨[],[],[]⟩ Tryz.func144 rfl (by decide) (fun x=>[]) (fun x hp=>?_)
 obtain⟨x,u⟩:=x
 change List Int at x
 refine dM (((List.length x<=1000000/\∀ (q:Int),q ∈ x->True)/\True)/\True/\List.any x nZ=List.any x nZ/\True) (by kernel_rfl) ?_
 exact⟨⟨⟨hp,fun _ _=>trivial⟩,trivial⟩,trivial,rfl,trivial⟩
def vP (l:List dQ):Int:=bif l.any EJ then 2 else 0
noncomputable def b8L:Ctr:=⟨[.list KR],[tI],fun x=>(show List dQ from x.1).length<=1000000,fun x=>(vP x.1,())⟩
theorem a9B:aT Tryz.prog 40 b8L:=by
 refine bY (nil0.ad a8x) ⟨[4],[],[]⟩ Tryz.func40 rfl (by decide) (fun x=>[.inv {k:Nat // k<=(show List dQ from x.1).length/\((show List dQ from x.1).take k).any EJ=false} (fun k=>[(7,.val tI (k.1:Int))]) (fun k=>[]) (fun k=>(show List dQ from x.1).length-k.1) ⟨0,by omega,rfl⟩ (fun _=>[])]) (fun x hp=>?_)
 obtain⟨x,u⟩:=x
 change List dQ at x
 refine dM ((asT Int 0=0/\True)/\∀ (i:{ k:Nat // k<=List.length x/\List.any (List.take k x) EJ=false }),let A₁:=(List.getD x (aB (aA i)).toNat vY);let A₀:=(Prod.fst A₁.1::Prod.fst A₁.1.2::Prod.fst A₁.2.1::Prod.fst A₁.2.1.2::aP Int);asT Bool true=true/\ifB (decide (aB (aA i)<aB x.length)) ((0<=aB (aA i)/\aB (aA i)<aB x.length/\True)/\(List.length A₀<=1000000/\True)/\ifB (List.any A₀ nZ) (True/\2=vP x/\True) (∃ (i':{ k:Nat // k<=List.length x/\List.any (List.take k x) EJ=false }),List.length x-aA i'<List.length x-aA i/\IntKind.wrap IntKind.i64 (aB (aA i)+1)=aB (aA i')/\True)) (True/\0=vP x/\True)) (by kernel_rfl) ?_
 have hZ:(⟨false,0,[],[]⟩:aF)=cZ:=rfl
 try simp only[aQ,ay,au]
 try dsimp only[aB,asT,aA,aP,Ty.den,Lf.den] at *
 try simp only[hZ,Int.toNat_natCast,aQ,ay,au,og,ny,jg,jf]
 try simp only[iH,iG,List.all_cons,List.all_nil,qh,jc,jr,je,qo,ne_eq,aj,jo,jm,jv,oh,yw,qp,yx,og,ny,lg,ji,List.length_cons,List.length_nil]
 have hp:x.length<=1000000:=hp
 refine fun i=>⟨fun h1=>⟨⟨by omega,h1⟩,by omega,fun h=>?_,fun h=>⟨⟨i.1+1,by omega,?_⟩,by simp only;omega,?_⟩⟩,fun h1=>?_⟩
 ·unfold vP;rw[WV (p:=EJ) (i:=i.1) (d:=vY) (by omega) h];rfl
 ·rw[nD (d:=vY) (by omega),i.2.2];exact(Bool.false_or _).trans h
 ·rw[cO (by omega) (by omega)];rfl
 ·have h3:=i.2.2
  rw[jh (by omega)] at h3
  unfold vP;rw[h3];rfl
theorem a6c:aT Tryz.prog 116 b8L:=by
 refine bY (nil0.ad a9i) ⟨[4],[],[]⟩ Tryz.func116 rfl (by decide) (fun x=>[.inv {k:Nat // k<=(show List dQ from x.1).length/\((show List dQ from x.1).take k).any EJ=false} (fun k=>[(7,.val tI (k.1:Int))]) (fun k=>[]) (fun k=>(show List dQ from x.1).length-k.1) ⟨0,by omega,rfl⟩ (fun _=>[])]) (fun x hp=>?_)
 obtain⟨x,u⟩:=x
 change List dQ at x
 refine dM ((asT Int 0=0/\True)/\∀ (i:{ k:Nat // k<=List.length x/\List.any (List.take k x) EJ=false }),let A₁:=(List.getD x (aB (aA i)).toNat vY);let A₀:=(Prod.fst A₁.1::Prod.fst A₁.1.2::Prod.fst A₁.2.1::Prod.fst A₁.2.1.2::aP Int);asT Bool true=true/\ifB (decide (aB (aA i)<aB x.length)) ((0<=aB (aA i)/\aB (aA i)<aB x.length/\True)/\(List.length A₀<=1000000/\True)/\ifB (List.any A₀ nZ) (True/\2=vP x/\True) (∃ (i':{ k:Nat // k<=List.length x/\List.any (List.take k x) EJ=false }),List.length x-aA i'<List.length x-aA i/\IntKind.wrap IntKind.i64 (aB (aA i)+1)=aB (aA i')/\True)) (True/\0=vP x/\True)) (by kernel_rfl) ?_
 have hZ:(⟨false,0,[],[]⟩:aF)=cZ:=rfl
 try simp only[aQ,ay,au]
 try dsimp only[aB,asT,aA,aP,Ty.den,Lf.den] at *
 try simp only[hZ,Int.toNat_natCast,aQ,ay,au,og,ny,jg,jf]
 try simp only[iH,iG,List.all_cons,List.all_nil,qh,jc,jr,je,qo,ne_eq,aj,jo,jm,jv,oh,yw,qp,yx,og,ny,lg,ji,List.length_cons,List.length_nil]
 have hp:x.length<=1000000:=hp
 refine fun i=>⟨fun h1=>⟨⟨by omega,h1⟩,by omega,fun h=>?_,fun h=>⟨⟨i.1+1,by omega,?_⟩,by simp only;omega,?_⟩⟩,fun h1=>?_⟩
 ·unfold vP;rw[WV (p:=EJ) (i:=i.1) (d:=vY) (by omega) h];rfl
 ·rw[nD (d:=vY) (by omega),i.2.2];exact(Bool.false_or _).trans h
 ·rw[cO (by omega) (by omega)];rfl
 ·have h3:=i.2.2
  rw[jh (by omega)] at h3
  unfold vP;rw[h3];rfl
noncomputable def LZ:Lib:=(((((((LCa
 ).add 175 cIZ (b3H fun x w h0 h1=>DK x w h0 h1)
 ).add 213 (cZ2 fun x y=>((Int.gcd x y:Nat):Int)) (XC fun v u x y w h1 h2 l1 l2=>MB v u x y w h1 h2 l1 l2)
 ).add 177 (cZ2 fun x y=>x*y) (XC fun v u x y w h1 h2 l1 l2=>mul_any v u x y w h1 h2 l1 l2)
 ).add 97 (cZ1 fun x=>-x) (b3J fun v x w h1 l1=>tX v x w h1 l1)
 ).add 179 (cZI Int.sign) (b3K fun v x w h1=>vT v x w h1)
 ).add 282 a6T (a5j fun v x w h1=>a6w v x w h1)
 ).add 229 cDiv (b0F fun v u x y w h1 h2 l1 l2 hy=>rP v u x y w h1 h2 l1 l2 hy)
noncomputable def LZb:Lib:=((((LZ
 ).add 183 (cNew 1000000000 14) (b0H (fun v u x y w h1 h2 l1 l2 hy=>a4f v u _ _ x y w h1.QG h2.QG l1 l2 hy) (fun v u x y w h1 h2 hy=>b1L v u _ _ x y w h1.QG h2.QG hy))
 ).add 147 b2N (a6R fun i k w h0 h1 h2 h3 hk=>b1O i k w h0 h1 h2 h3 hk)
 ).add 172 (cQ1 s4 (fun x=>-x)) (a6S fun v x w a h=>a8X v x w a (by have:rsz x<=400000000:=h;omega))
 ).add 176 (cZ2 fun x y=>x+y) (XC fun v u x y w h1 h2 l1 l2=>add_any v u x y w h1 h2 l1 l2)
section
open Go Go.RowKit Go.Lib
set_option maxHeartbeats 4000000
abbrev GX:Value:=.agg #[.bool false,.slice none 0 0,.bool false,.slice none 0 0]
theorem a5K:∃ i,Tryz.prog.info? 47=some i/\i.size=4/\i.bytes<=64/\i.zero=some GX:=by
 have h:(Tryz.prog.info? 47).map (fun i=>(i.size,decide (i.bytes<=64),i.zero))=some (4,true,some GX):=by kernel_rfl
 obtain⟨i,h1,h2⟩:=ig.1 h
 simp only[bf,ay] at h2
 exact⟨i,h1,h2.1,h2.2.1,h2.2.2⟩
theorem a7C (n:Nat) (w:World) (h0:0<n) (hn:n<=1000000000):Calls Tryz.prog 151 #[.slice none 0 0,.int .i64 n] w fun e w'=>∃ c,n<=c/\c<=maxLen/\e=.returned (.slice (some ⟨w.heap.size,0,none⟩) 0 c)/\w'=w.drew.alloc (.cells (#[]++Builtin.zeroCells GX.cells n++Builtin.zeroCells GX.cells (c-n)) 47):=by
 obtain⟨i,hi,hs,hb,hz⟩:=a5K
 have hn1:n*i.bytes<=n*64:=zf _ hb
 have hrz:∀ ty,(Builtin.append_ #[39,3] ty #[.slice none 0 0,.int .i64 (n:Nat)]).run Tryz.prog w=.ok (.slice (some ⟨w.heap.size,0,none⟩) (0+n) (grownCap w (0+n) 0 47)) (w.drew.alloc (.cells (#[]++Builtin.zeroCells GX.cells n++Builtin.zeroCells GX.cells (grownCap w (0+n) 0 47-(0+n))) 47)):=fun ty =>
  run_append_grow_zeros w 39 3 ty 47 i GX .i64 .i64 (by kernel_rfl) (by kernel_rfl) hi hz none 0 0 [] (run_firstCells_none w.drew _ 0 0 0) n h0 (by omega) (by omega) (by omega) (by omega) (growslice_fits (by omega) (by rw[qm];omega))
 have hG:=grownCap_ge w (0+n) 0 47
 have hG2:=grownCap_le_maxLen w (0+n) 0 47 (by unfold maxLen;omega)
 obtain⟨G,hg⟩:∃ G,G=grownCap w (0+n) 0 47:=⟨_,rfl⟩
 rw[<-hg] at hrz hG hG2
 simp only[qm] at hrz hG
 have hG63:G<=9223372036854775807:=by unfold maxLen at hG2;omega
 have h1:¬ ((n:Int)<0):=by omega
 have h4:(n:Int) > 0:=by omega
 clear hg hn1 hi hz hs hb
 go_enter Tryz.func151,Tryz.ntmps151
 go_wp2_with (at_builtin;refine Lib.wpList_append_run _ rfl _ _ _ _ rfl _ _ rfl rfl _ _ (hrz _) ?_)
 go_ret
 exact⟨G,hG,hG2,rfl,rfl⟩
theorem a5D (w:World):Calls Tryz.prog 151 #[.slice none 0 0,.int .i64 0] w fun e w'=>e=.returned (.slice none 0 0)/\w'=w:=by
 go_enter Tryz.func151,Tryz.ntmps151
 go_wp2
 go_ret
 exact⟨rfl,rfl⟩
abbrev LKr:LK:=.row 47 tR
def b2M:mX:=.mk LKr [.nls tR,tI] (fun x=>(show Option (List aF) from x.1)=none/\0<=(show Int from x.2.1)/\(show Int from x.2.1)<=1000000000) (fun _=>([]:List aF))
theorem b2L (z:Array Value) (n:Nat):(Builtin.zeroCells z n).size=n*z.size:=by simp[Builtin.zeroCells]
theorem a4Z:∀ u ∈ GX.cells.toList,bV u=true:=by
 intro u hu
 have hu:u ∈ [Value.bool false,.slice none 0 0,.bool false,.slice none 0 0]:=hu
 simp only[qj,Df,or_false] at hu
 rcases hu with rfl|rfl|rfl|rfl<;>rfl
theorem a7B:NOk Tryz.prog 151 b2M:=by
 intro F w vs y hF hvs hp
 obtain⟨v,vs',rfl,h1,u,vs'',rfl,h2,h3⟩:=hvs
 have h3:vs''=[]:=h3
 subst h3
 obtain⟨p1,p2,p3⟩:=hp
 have hv:v=.slice none 0 0:=by
  obtain⟨cs,rfl,hr⟩:=h1
  rcases hr with⟨_,rfl⟩|⟨ys,b,o,c,ds,e,_⟩
  ·rfl
  ·rw[show y.1=(none:Option (List aF)) from p1] at e;cases e
 subst hv
 obtain⟨n,hn⟩:=uf p2
 have hu:u=.int .i64 (n:Int):=by rw[a0P h2];rw[show y.2.1=(n:Int) from hn]
 subst hu
 have hn9:n<=1000000000:=by rw[hn] at p3;omega
 let E:Env:=⟨fun _=>none,fun _=>undef,fun q=>F q\/w.heap.size<=q,fun _ _=>undef,fun _=>False,fun _=>undef⟩
 have hhas:∀ r j q,¬ E.has r j q:=fun r j q h=>by cases j<;>cases h
 have hM:Mem E (aO []) w w:=⟨⟨rfl,rfl,rfl,ak _,fun _ _ _=>rfl⟩,fun r=>rfl,fun r j r' j' b e=>(hhas r j b e).elim,fun r j b e=>(hhas r j b e).elim,fun q hq=>hq.elim (fun h=>h.elim) .inr,fun r i _=>rfl,fun r k e=>(by cases e),fun b o n h=>h⟩
 have fin:∀ (w':World) (b:Option Nat) (s:Value),Below w.heap.size w w'->(b=none\/b=some w.heap.size)->b=bG s->w'.ownsRow 0 47 4 s 0 []->CAv bV w' s->∃ v E9 ρ q v0,Ending.returned s=.returned v/\Mem E9 ρ w w'/\(∀ q,¬ E9.nP q)/\ρ q=LKr.res ([]:List aF) v0/\v=E9.sl q:=fun w' b s hb hbs hbl ho hc=>by
  have hsl:(E.put 0 b s).sl 0=s:=by show bC E.sl 0 s 0=s;exact aC _ _ _
  obtain⟨m1,m2⟩:=hM.turn (w':=w') 0 (jI.below hb _) b s (.row 47 tR [] 0)
   ⟨by rw[hsl];show bC E.blk 0 _ 0=_;rw[aC];exact hbl,rfl,[],by rw[hsl];exact ho,rfl,by rw[hsl];exact⟨hc,a1d _⟩⟩ (hbs.elim .inl (fun h=>.inr (.inr h))) rfl (fun k e=>by cases e) (fun h=>h.elim) (fun h=>h.elim) (fun v h=>h.elim) (fun v h=>h.elim) (fun v h=>h.elim)
  exact⟨s,_,_,0,0,rfl,m1,fun q h=>h,aC _ _ _,hsl.symm⟩
 by_cases h0:n=0
 ·subst h0
  refine(a5D w).mono ?_
  rintro e w' ⟨rfl,rfl⟩
  obtain⟨v,E9,ρ,q,v0,h⟩:=fin w' none (.slice none 0 0) (bg _ _) (.inl rfl) rfl (Ah _ _ _ _) (fun g hg=>by cases hg)
  exact⟨v,E9,ρ,q,v0,h⟩
 ·refine(a7C n w (by omega) hn9).mono ?_
  rintro e w' ⟨c,c1,c2,rfl,rfl⟩
  have hcell:(w.drew.alloc (.cells (#[]++Builtin.zeroCells GX.cells n++Builtin.zeroCells GX.cells (c-n)) 47)).heap[w.heap.size]?=some (.cells (#[]++Builtin.zeroCells GX.cells n++Builtin.zeroCells GX.cells (c-n)) 47 (0,0)):=Bl w.drew (.cells (#[]++Builtin.zeroCells GX.cells n++Builtin.zeroCells GX.cells (c-n)) 47)
  obtain⟨v,E9,ρ,q,v0,h⟩:=fin _ (some w.heap.size) (.slice (some ⟨w.heap.size,0,none⟩) 0 c) ((bg _ _).drew.alloc (ak _) _) (.inr rfl) rfl ⟨rfl,.inr ⟨w.heap.size,c,_,rfl,qw _,hcell,qw _,c2,by
    simp only[Array.size_append,b2L,Array.size_empty]
    show 0+n*4+(c-n)*4=c*4
    omega,by simp⟩⟩ (fun g hg i x hx=>by
    cases hg
    have hx:=(xg _ w.heap.size i _ _ _ hcell).symm.trans hx
    have hx2:=Array.mem_of_getElem? hx
    simp only[Array.mem_append] at hx2
    rcases hx2 with(hx2|hx2)|hx2
    ·exact absurd hx2 (by simp)
    ·exact xK a4Z _ x (Dt.2 hx2)
    ·exact xK a4Z _ x (Dt.2 hx2))
  exact⟨v,E9,ρ,q,v0,h⟩
end
end Go.Proofs.YtbkocjmmbkifjaaGreat
