/-
  Lemmas for the theorem vmatrices28_holds, part 27 of 33.
-/
import Derived.Lib.AppendZerosOnto
import Derived.Lib.Walk
import Derived.Test.YtbkocjmmbkifjaaGreatQm26
namespace Go.Proofs.YtbkocjmmbkifjaaGreat
open Go Go.RowKit
theorem oq:type_of% @Bool.and_true:=@Bool.and_true
theorem je:type_of% @Bool.and_eq_false_imp:=@Bool.and_eq_false_imp
theorem jl:type_of% @bne_eq_false_iff_eq:=@bne_eq_false_iff_eq
theorem mg:type_of% @Int.natCast_inj:=@Int.natCast_inj
theorem vw:type_of% @imp_self:=@imp_self
theorem qg:type_of% @implies_true:=@implies_true
theorem wu:type_of% @and_self:=@and_self
theorem iy:type_of% @Bool.or_eq_false_iff:=@Bool.or_eq_false_iff
theorem Bz:type_of% @List.not_mem_nil:=@List.not_mem_nil
set_option maxRecDepth 100000
set_option maxHeartbeats 1000000
set_option linter.unusedVariables false
set_option linter.unusedSimpArgs false
theorem fU {a b:Bool}:(bif a then true else b)=(a || b):=by cases a<;>rfl
theorem fQ {a b:Bool}:(bif a then b else false)=(a&&b):=by cases a<;>rfl
def iC (q:aG):Bool:=(decide (q.n<=1)&&decide (q.m<=1))&&((decide (q.n=0) || decide (q.g.getD 0 0<100000))&&(decide (q.m=0) || decide (q.h.getD 0 0<=100)))
noncomputable def c1T:Ctr:=⟨[tR],[tB],fun x=>True,fun x=>(iC x.1,())⟩
theorem b1V:aS Tryz.prog 125 c1T:=by
 refine bH Lib.nil ⟨[],[],[]⟩ Tryz.func125 rfl (by decide) (fun x=>[]) (fun x hp=>?_)
 obtain⟨q,u⟩:=x
 change aG at q
 refine dD (let A₁:=(aG.g q).length;let eU:=((aB A₁==0)==false);let gQ:=(decide (aB A₁ > 1)==false);let jR:=(aG.h q).length;let pY:=(aB (List.getD (aG.g q) 0 0)<100000);let A₀:=(bif aB A₁==0 then true else decide pY);let A₂:=(A₀==true&&(aB jR==0)==false);let iF:=((A₀==true)=true->(A₀==true)=true/\True);let lG:=(gQ=true->gQ=true/\True);let yG:=(eU=true->eU=true/\True);let oO:=(A₂=true->A₂=true/\True);(lG/\lG/\(decide (aB A₁ > 1)=false->gQ=true)/\True)/\ifB (bif decide (aB A₁ > 1) then true else decide (aB jR > 1)) (True/\false=iC q/\True) (((eU=true->eU=true/\asT Int 0<=0/\0<aB A₁/\True)/\yG/\yG/\((aB A₁==0)=false->eU=true)/\iF/\iF/\iF/\(A₂=true->A₂=true/\asT Int 0<=0/\0<aB jR/\True)/\oO/\oO/\((A₀==true)=true->(A₀==true)=true/\((aB jR==0)=false->A₂=true)/\True)/\(A₀=true->(A₀==true)=true)/\True)/\True/\(bif bif aB A₁==0 then true else decide pY then bif aB jR==0 then true else decide (aB (List.getD (aG.h q) 0 0)<=100) else false)=iC q/\True)) (by kernel_rfl) ?_
 have hZ:(⟨false,0,[],[]⟩:aG)=bM:=rfl
 try simp only[aO,ay,ak]
 try dsimp only[aB,asT,aA,aJ,Ty.den,Lf.den] at *
 try simp only[hZ,Int.toNat_natCast,aO,ay,ak,ni,lg,jc,iq]
 try simp only[fU,fQ,List.all_cons,List.all_nil,oq,iw,jo,jh,ql,ne_eq,aj,je,jf,jl,mg,vw,qg,wu,ni,lg,jw,iy,List.length_cons,List.length_nil]
 have h01:∀ n:Nat,(¬ (n:Int) > 1)->decide ((n:Int) > 1)=false:=fun n h=>qw h
 have hd:∀ n:Nat,decide ((n:Int) > 1)=!decide (n<=1):=fun n=>by
  by_cases h:n<=1
  ·rw[wz h,qw (by omega)];rfl
  ·rw[qw h,wz (by omega)];rfl
 have hz:∀ n:Nat,(((n:Nat):Int)==0)=decide (n=0):=fun n=>by
  by_cases h:n=0
  ·rw[h];rfl
  ·rw[qw h];exact jf.mpr (by omega)
 refine⟨h01 _,fun h=>?_,fun h=>⟨⟨fun a=>⟨a,by omega,by omega⟩,fun a=>⟨a,by omega,by omega⟩,fun a=>⟨a,fun b=>⟨a,b⟩⟩⟩,?_⟩⟩
 ·rw[hd,hd] at h
  unfold iC
  have:(decide (q.n<=1)&&decide (q.m<=1))=false:=by
   rcases h with h|h
   ·rw[show decide (q.n<=1)=false by simpa using h];rfl
   ·rw[show decide (q.m<=1)=false by simpa using h,Bool.and_false]
  rw[this];rfl
 ·rw[hd,hd] at h
  unfold iC
  rw[show decide (q.n<=1)=true by simpa using h.1,show decide (q.m<=1)=true by simpa using h.2,hz,hz]
  rw[show decide (((q.g.getD 0 0:Nat):Int)<100000)=decide (q.g.getD 0 0<100000) from Bc.mpr (by omega),show decide (((q.h.getD 0 0:Nat):Int)<=100)=decide (q.h.getD 0 0<=100) from Bc.mpr (by omega)]
  cases (decide (q.g.length=0) || decide (q.g.getD 0 0<100000))<;>rfl
noncomputable def c2j:Ctr:=⟨[tR],[tB],fun x=>True,fun x=>(!iC x.1,())⟩
theorem a5K:aS Tryz.prog 124 c2j:=by
 refine bH (nil0.ad b1V) ⟨[],[],[]⟩ Tryz.func124 rfl (by decide) (fun x=>[]) (fun x hp=>?_)
 obtain⟨q,u⟩:=x
 change aG at q
 refine dD ((True/\True)/\True/\(!iC q)=!iC q/\True) (by kernel_rfl) ?_
 have hZ:(⟨false,0,[],[]⟩:aG)=bM:=rfl
 try simp only[aO,ay,ak]
 try dsimp only[aB,asT,aA,aJ,Ty.den,Lf.den] at *
 try simp only[hZ,Int.toNat_natCast,aO,ay,ak,ni,lg,jc,iq]
 try simp only[fU,fQ,List.all_cons,List.all_nil,oq,iw,jo,jh,ql,ne_eq,aj,je,jf,jl,mg,vw,qg,wu,ni,lg,jw,iy,List.length_cons,List.length_nil]
noncomputable def c0n:Ctr:=⟨[.list tR,.clo 124 .unit],[tI],fun x=>(show List (aG) from x.1).length<=1000000/\∀ q ∈ (show List (aG) from x.1),(fun _=>True) q,fun x=>(nJ (fun q=>!iC q) (show List (aG) from x.1),())⟩
theorem a9q:aS Tryz.prog 211 c0n:=by
 refine bH (nil0.ad a5K) ⟨[],[],[]⟩ Tryz.func211 rfl (by decide) (fun x=>[.inv {k:Nat // k<=(show List (aG) from x.1).length/\((show List (aG) from x.1).take k).any (fun q=>!iC q)=false} (fun k=>[(8,.val tI (k.1:Int))]) (fun k=>[]) (fun k=>(show List (aG) from x.1).length-k.1) ⟨0,by omega,rfl⟩ (fun _=>[])]) (fun x hp=>?_)
 obtain⟨x,c,u⟩:=x
 change List (aG) at x
 change Unit at c
 refine dD ((asT Int 0=0/\True)/\∀ (i:{ k:Nat // k<=List.length x/\(List.any (List.take k x) fun(q:aG)=>!iC q)=false }),asT Bool true=true/\ifB (decide (aB (aA i)<aB x.length)) ((0<=aB (aA i)/\aB (aA i)<aB x.length/\True/\True)/\ifB (!iC (List.getD x (aB (aA i)).toNat bM)) (True/\aB (aA i)=nJ (fun(q:aG)=>!iC q) x/\True) (∃ (i':{ k:Nat // k<=List.length x/\(List.any (List.take k x) fun(q:aG)=>!iC q)=false }),List.length x-aA i'<List.length x-aA i/\IntKind.wrap IntKind.i64 (aB (aA i)+1)=aB (aA i')/\True)) (True/\-1=nJ (fun(q:aG)=>!iC q) x/\True)) (by kernel_rfl) ?_
 have hZ:(⟨false,0,[],[]⟩:aG)=bM:=rfl
 try simp only[aO,ay,ak]
 try dsimp only[aB,asT,aA,aJ,Ty.den,Lf.den] at *
 try simp only[hZ,Int.toNat_natCast,aO,ay,ak,ni,lg,jc,iq]
 try simp only[fU,fQ,List.all_cons,List.all_nil,oq,iw,jo,jh,ql,ne_eq,aj,je,jf,jl,mg,vw,qg,wu,ni,lg,jw,iy,List.length_cons,List.length_nil]
 have hp:x.length<=1000000/\∀ q ∈ x,(fun _=>True) q:=hp
 obtain⟨hl,hb⟩:=hp
 refine fun i=>⟨fun h1=>⟨(by first|exact⟨by omega,h1,aV hb (by omega)⟩|exact⟨by omega,h1⟩),fun h2=>?_,fun h2=>⟨⟨i.1+1,by omega,?_⟩,by simp only;omega,?_⟩⟩,fun h1=>?_⟩
 ·exact(vS (d:=bM) (by omega) i.2.2 (by first|exact h2|rw[h2];rfl)).symm
 ·rw[nM (d:=bM) (by omega),i.2.2,h2];rfl
 ·rw[bI (by omega) (by omega)];rfl
 ·have h3:=i.2.2
  rw[jg (by omega)] at h3
  exact(AZ h3).symm
noncomputable def b9Z:Ctr:=⟨[.list tR,.clo 124 .unit],[tB],fun x=>(show List (aG) from x.1).length<=1000000/\∀ q ∈ (show List (aG) from x.1),(fun _=>True) q,fun x=>((show List (aG) from x.1).any (fun q=>!iC q),())⟩
theorem a8o:aS Tryz.prog 123 b9Z:=by
 refine bH ((nil0.ad a5K).ad a9q) ⟨[],[],[]⟩ Tryz.func123 rfl (by decide) (fun x=>[]) (fun x hp=>?_)
 obtain⟨x,c,u⟩:=x
 change List (aG) at x
 change Unit at c
 refine dD (((List.length x<=1000000/\∀ (q:aG),q ∈ x->True)/\True)/\True/\(decide (nJ (fun(q:aG)=>!iC q) x ≥ 0)=List.any x fun(q:aG)=>!iC q)/\True) (by kernel_rfl) ?_
 exact⟨⟨hp,trivial⟩,trivial,vT _ _,trivial⟩
noncomputable def c2l:Ctr:=⟨[.list tR],[tB],fun x=>(show LR from x.1).length<=1000000,fun x=>((show LR from x.1).all iC,())⟩
theorem b3N:aS Tryz.prog 44 c2l:=by
 refine bH (nil0.ad a8o) ⟨[],[],[]⟩ Tryz.func44 rfl (by decide) (fun x=>[]) (fun x hp=>?_)
 obtain⟨x,u⟩:=x
 change List aG at x
 refine dD (((List.length x<=1000000/\∀ (q:aG),q ∈ x->True)/\True)/\True/\(!List.any x fun(q:aG)=>!iC q)=List.all x iC/\True) (by kernel_rfl) ?_
 have hZ:(⟨false,0,[],[]⟩:aG)=bM:=rfl
 try simp only[aO,ay,ak]
 try dsimp only[aB,asT,aA,aJ,Ty.den,Lf.den] at *
 try simp only[hZ,Int.toNat_natCast,aO,ay,ak,ni,lg,jc,iq]
 try simp only[fU,fQ,List.all_cons,List.all_nil,oq,iw,jo,jh,ql,ne_eq,aj,je,jf,jl,mg,vw,qg,wu,ni,lg,jw,iy,List.length_cons,List.length_nil]
 refine⟨hp,?_⟩
 rw[Bool.eq_iff_iff];simp
theorem YB {α:Type} {p:α->Bool} {xs:List α} {i:Nat} {d:α} (hi:i<xs.length) (h:p (xs.getD i d)=true):xs.any p=true:=by
 rw[dn,dw hi] at h
 exact List.any_eq_true.mpr ⟨_,uw hi,h⟩
def qZ (r:LR):Bool:=decide (r.length > 4) || !r.all iC
def SK (f:MR):Bool:=decide (f.length<=4)&&!f.any qZ
noncomputable def c2h:Ctr:=⟨[.list tR],[tB],fun x=>True,fun x=>(qZ x.1,())⟩
theorem a5I:aS Tryz.prog 83 c2h:=by
 refine bH (nil0.ad b3N) ⟨[],[],[]⟩ Tryz.func83 rfl (by decide) (fun x=>[]) (fun x hp=>?_)
 obtain⟨r,u⟩:=x
 change List aG at r
 refine dD (let A₁:=(aB r.length > 4);let A₀:=(decide A₁==false);((A₀=true->A₀=true/\List.length r<=1000000/\True)/\(A₀=true->A₀=true/\True)/\(decide A₁=false->A₀=true)/\True)/\True/\(bif decide A₁ then true else !List.all r iC)=qZ r/\True) (by kernel_rfl) ?_
 have hZ:(⟨false,0,[],[]⟩:aG)=bM:=rfl
 try simp only[aO,ay,ak]
 try dsimp only[aB,asT,aA,aJ,Ty.den,Lf.den] at *
 try simp only[hZ,Int.toNat_natCast,aO,ay,ak,ni,lg,jc,iq]
 try simp only[fU,fQ,List.all_cons,List.all_nil,oq,iw,jo,jh,ql,ne_eq,aj,je,jf,jl,mg,vw,qg,wu,ni,lg,jw,iy,List.length_cons,List.length_nil]
 have e:decide ((r.length:Int) > 4)=decide (r.length > 4):=Bc.mpr (by omega)
 refine⟨⟨fun h=>⟨h,by have:=of_decide_eq_false h;omega⟩,fun h=>qw h⟩,?_⟩
 rw[e];rfl
noncomputable def c0l:Ctr:=⟨[.list (.list tR),.clo 83 .unit],[tI],fun x=>(show List (List aG) from x.1).length<=1000000/\∀ q ∈ (show List (List aG) from x.1),(fun _=>True) q,fun x=>(nJ qZ (show List (List aG) from x.1),())⟩
theorem a9p:aS Tryz.prog 166 c0l:=by
 refine bH (nil0.ad a5I) ⟨[],[],[]⟩ Tryz.func166 rfl (by decide) (fun x=>[.inv {k:Nat // k<=(show List (List aG) from x.1).length/\((show List (List aG) from x.1).take k).any qZ=false} (fun k=>[(8,.val tI (k.1:Int))]) (fun k=>[]) (fun k=>(show List (List aG) from x.1).length-k.1) ⟨0,by omega,rfl⟩ (fun _=>[])]) (fun x hp=>?_)
 obtain⟨x,c,u⟩:=x
 change List (List aG) at x
 change Unit at c
 refine dD ((asT Int 0=0/\True)/\∀ (i:{ k:Nat // k<=List.length x/\List.any (List.take k x) qZ=false }),asT Bool true=true/\ifB (decide (aB (aA i)<aB x.length)) ((0<=aB (aA i)/\aB (aA i)<aB x.length/\True/\True)/\ifB (qZ (List.getD x (aB (aA i)).toNat (aJ aG))) (True/\aB (aA i)=nJ qZ x/\True) (∃ (i':{ k:Nat // k<=List.length x/\List.any (List.take k x) qZ=false }),List.length x-aA i'<List.length x-aA i/\IntKind.wrap IntKind.i64 (aB (aA i)+1)=aB (aA i')/\True)) (True/\-1=nJ qZ x/\True)) (by kernel_rfl) ?_
 have hZ:(⟨false,0,[],[]⟩:aG)=bM:=rfl
 try simp only[aO,ay,ak]
 try dsimp only[aB,asT,aA,aJ,Ty.den,Lf.den] at *
 try simp only[hZ,Int.toNat_natCast,aO,ay,ak,ni,lg,jc,iq]
 try simp only[fU,fQ,List.all_cons,List.all_nil,oq,iw,jo,jh,ql,ne_eq,aj,je,jf,jl,mg,vw,qg,wu,ni,lg,jw,iy,List.length_cons,List.length_nil]
 have hp:x.length<=1000000/\∀ q ∈ x,(fun _=>True) q:=hp
 obtain⟨hl,hb⟩:=hp
 refine fun i=>⟨fun h1=>⟨(by first|exact⟨by omega,h1,aV hb (by omega)⟩|exact⟨by omega,h1⟩),fun h2=>?_,fun h2=>⟨⟨i.1+1,by omega,?_⟩,by simp only;omega,?_⟩⟩,fun h1=>?_⟩
 ·exact(vS (d:=[]) (by omega) i.2.2 (by first|exact h2|rw[h2];rfl)).symm
 ·rw[nM (d:=[]) (by omega),i.2.2,h2];rfl
 ·rw[bI (by omega) (by omega)];rfl
 ·have h3:=i.2.2
  rw[jg (by omega)] at h3
  exact(AZ h3).symm
noncomputable def b9Y:Ctr:=⟨[.list (.list tR),.clo 83 .unit],[tB],fun x=>(show List (List aG) from x.1).length<=1000000/\∀ q ∈ (show List (List aG) from x.1),(fun _=>True) q,fun x=>((show List (List aG) from x.1).any qZ,())⟩
theorem a8n:aS Tryz.prog 82 b9Y:=by
 refine bH ((nil0.ad a5I).ad a9p) ⟨[],[],[]⟩ Tryz.func82 rfl (by decide) (fun x=>[]) (fun x hp=>?_)
 obtain⟨x,c,u⟩:=x
 change List (List aG) at x
 change Unit at c
 refine dD (((List.length x<=1000000/\∀ (q:List aG),q ∈ x->True)/\True)/\True/\decide (nJ qZ x ≥ 0)=List.any x qZ/\True) (by kernel_rfl) ?_
 exact⟨⟨hp,trivial⟩,trivial,vT _ _,trivial⟩
noncomputable def c2i:Ctr:=⟨[tMR],[tB],fun x=>True,fun x=>(SK x.1,())⟩
theorem b3M:aS Tryz.prog 20 c2i:=by
 refine bH (nil0.ad a8n) ⟨[],[],[]⟩ Tryz.func20 rfl (by decide) (fun x=>[]) (fun x hp=>?_)
 obtain⟨f,u⟩:=x
 change List (List aG) at f
 refine dD (let A₁:=(aB f.length<=4);let A₀:=(decide A₁==true);((A₀=true->A₀=true/\(List.length f<=1000000/\∀ (q:List aG),q ∈ f->True)/\True)/\(A₀=true->A₀=true/\True)/\(decide A₁=true->A₀=true)/\True)/\True/\(bif decide A₁ then !List.any f qZ else false)=SK f/\True) (by kernel_rfl) ?_
 have hZ:(⟨false,0,[],[]⟩:aG)=bM:=rfl
 try simp only[aO,ay,ak]
 try dsimp only[aB,asT,aA,aJ,Ty.den,Lf.den] at *
 try simp only[hZ,Int.toNat_natCast,aO,ay,ak,ni,lg,jc,iq]
 try simp only[fU,fQ,List.all_cons,List.all_nil,oq,iw,jo,jh,ql,ne_eq,aj,je,jf,jl,mg,vw,qg,wu,ni,lg,jw,iy,List.length_cons,List.length_nil]
 have e:decide ((f.length:Int)<=4)=decide (f.length<=4):=Bc.mpr (by omega)
 refine⟨⟨fun h=>⟨h,by have:=Bj h;omega⟩,fun h=>wz h⟩,?_⟩
 rw[e];rfl
def oJ (n:Int):Bool:=decide (n > 1048576) || decide (n < -1048576)
abbrev b3S:Ty:=.pair tI (.pair tI .unit)
abbrev IJ:Ty:=.pair b3S (.pair b3S .unit)
abbrev dZ:Type:=(Int × Int × Unit) × (Int × Int × Unit) × Unit
def XL:dZ:=(((0:Int),(0:Int),()),((0:Int),(0:Int),()),())
def yH (p:dZ):Bool:=[p.1.1,p.1.2.1,p.2.1.1,p.2.1.2.1].any oJ
noncomputable def c2a:Ctr:=⟨[tI],[tB],fun x=>True,fun x=>(oJ x.1,())⟩
noncomputable def c0j:Ctr:=⟨[.list tI],[tB],fun x=>(show List Int from x.1).length<=1000000,fun x=>((show List Int from x.1).any oJ,())⟩
theorem a4K:aS Tryz.prog 224 c2a:=by
 refine bH Lib.nil ⟨[],[],[]⟩ Tryz.func224 rfl (by decide) (fun x=>[]) (fun x hp=>?_)
 obtain⟨n,u⟩:=x
 change Int at n
 refine dD ((((decide (n < -1048576)==false)=true->(decide (n < -1048576)==false)=true/\True)/\(decide (n < -1048576)=false->(decide (n < -1048576)==false)=true)/\True)/\True/\(bif decide (n < -1048576) then true else decide (n > 1048576))=oJ n/\True) (by kernel_rfl) ?_
 have hZ:(⟨false,0,[],[]⟩:aG)=bM:=rfl
 try simp only[aO,ay,ak]
 try dsimp only[aB,asT,aA,aJ,Ty.den,Lf.den] at *
 try simp only[hZ,Int.toNat_natCast,aO,ay,ak,ni,lg,jc,iq]
 try simp only[fU,fQ,List.all_cons,List.all_nil,oq,iw,jo,jh,ql,ne_eq,aj,je,jf,jl,mg,vw,qg,wu,ni,lg,jw,iy,List.length_cons,List.length_nil]
 exact⟨fun h=>qw h,Bool.or_comm _ _⟩
theorem a9F:aS Tryz.prog 15 c0j:=by
 refine bH Lib.nil ⟨[],[],[]⟩ Tryz.func15 rfl (by decide) (fun x=>[.inv {k:Nat // k<=(show List Int from x.1).length/\((show List Int from x.1).take k).any oJ=false} (fun k=>[(7,.val tI (k.1:Int))]) (fun k=>[]) (fun k=>(show List Int from x.1).length-k.1) ⟨0,by omega,rfl⟩ (fun _=>[])]) (fun x hp=>?_)
 obtain⟨x,u⟩:=x
 change List Int at x
 refine dD ((asT Int 0=0/\True)/\∀ (i:{ k:Nat // k<=List.length x/\List.any (List.take k x) oJ=false }),let A₀:=(List.getD x (aB (aA i)).toNat 0 > 1048576);asT Bool true=true/\ifB (decide (aB (aA i)<aB x.length)) ((0<=aB (aA i)/\aB (aA i)<aB x.length/\True)/\(((decide A₀==false)=true->(decide A₀==false)=true/\True)/\(decide A₀=false->(decide A₀==false)=true)/\True)/\ifB (bif decide A₀ then true else decide (List.getD x (aB (aA i)).toNat 0 < -1048576)) (True/\true=List.any x oJ/\True) (∃ (i':{ k:Nat // k<=List.length x/\List.any (List.take k x) oJ=false }),List.length x-aA i'<List.length x-aA i/\IntKind.wrap IntKind.i64 (aB (aA i)+1)=aB (aA i')/\True)) (True/\false=List.any x oJ/\True)) (by kernel_rfl) ?_
 have hZ:(⟨false,0,[],[]⟩:aG)=bM:=rfl
 try simp only[aO,ay,ak]
 try dsimp only[aB,asT,aA,aJ,Ty.den,Lf.den] at *
 try simp only[hZ,Int.toNat_natCast,aO,ay,ak,ni,lg,jc,iq]
 try simp only[fU,fQ,List.all_cons,List.all_nil,oq,iw,jo,jh,ql,ne_eq,aj,je,jf,jl,mg,vw,qg,wu,ni,lg,jw,iy,List.length_cons,List.length_nil]
 have hp:x.length<=1000000:=hp
 refine fun i=>⟨fun h1=>⟨⟨by omega,h1⟩,fun h=>qw h,fun h=>?_,fun h=>⟨⟨i.1+1,by omega,?_⟩,by simp only;omega,?_⟩⟩,fun h1=>?_⟩
 ·exact(YB (i:=i.1) (d:=0) (by omega) (by unfold oJ;rcases h with h|h<;>rw[h]<;>simp)).symm
 ·rw[nM (d:=0) (by omega),i.2.2]
  show (false || oJ _)=false
  unfold oJ;rw[h.1,h.2];rfl
 ·rw[bI (by omega) (by omega)];rfl
 ·have h3:=i.2.2
  rw[jg (by omega)] at h3
  exact h3.symm
noncomputable def c0k:Ctr:=⟨[.list tI,.clo 224 .unit],[tI],fun x=>(show List (Int) from x.1).length<=1000000/\∀ q ∈ (show List (Int) from x.1),(fun _=>True) q,fun x=>(nJ oJ (show List (Int) from x.1),())⟩
theorem a9o:aS Tryz.prog 218 c0k:=by
 refine bH (nil0.ad a4K) ⟨[],[],[]⟩ Tryz.func218 rfl (by decide) (fun x=>[.inv {k:Nat // k<=(show List (Int) from x.1).length/\((show List (Int) from x.1).take k).any oJ=false} (fun k=>[(8,.val tI (k.1:Int))]) (fun k=>[]) (fun k=>(show List (Int) from x.1).length-k.1) ⟨0,by omega,rfl⟩ (fun _=>[])]) (fun x hp=>?_)
 obtain⟨x,c,u⟩:=x
 change List (Int) at x
 change Unit at c
 refine dD ((asT Int 0=0/\True)/\∀ (i:{ k:Nat // k<=List.length x/\List.any (List.take k x) oJ=false }),asT Bool true=true/\ifB (decide (aB (aA i)<aB x.length)) ((0<=aB (aA i)/\aB (aA i)<aB x.length/\True/\True)/\ifB (oJ (List.getD x (aB (aA i)).toNat 0)) (True/\aB (aA i)=nJ oJ x/\True) (∃ (i':{ k:Nat // k<=List.length x/\List.any (List.take k x) oJ=false }),List.length x-aA i'<List.length x-aA i/\IntKind.wrap IntKind.i64 (aB (aA i)+1)=aB (aA i')/\True)) (True/\-1=nJ oJ x/\True)) (by kernel_rfl) ?_
 have hZ:(⟨false,0,[],[]⟩:aG)=bM:=rfl
 try simp only[aO,ay,ak]
 try dsimp only[aB,asT,aA,aJ,Ty.den,Lf.den] at *
 try simp only[hZ,Int.toNat_natCast,aO,ay,ak,ni,lg,jc,iq]
 try simp only[fU,fQ,List.all_cons,List.all_nil,oq,iw,jo,jh,ql,ne_eq,aj,je,jf,jl,mg,vw,qg,wu,ni,lg,jw,iy,List.length_cons,List.length_nil]
 have hp:x.length<=1000000/\∀ q ∈ x,(fun _=>True) q:=hp
 obtain⟨hl,hb⟩:=hp
 refine fun i=>⟨fun h1=>⟨(by first|exact⟨by omega,h1,aV hb (by omega)⟩|exact⟨by omega,h1⟩),fun h2=>?_,fun h2=>⟨⟨i.1+1,by omega,?_⟩,by simp only;omega,?_⟩⟩,fun h1=>?_⟩
 ·exact(vS (d:=0) (by omega) i.2.2 (by first|exact h2|rw[h2];rfl)).symm
 ·rw[nM (d:=0) (by omega),i.2.2,h2];rfl
 ·rw[bI (by omega) (by omega)];rfl
 ·have h3:=i.2.2
  rw[jg (by omega)] at h3
  exact(AZ h3).symm
noncomputable def b9X:Ctr:=⟨[.list tI,.clo 224 .unit],[tB],fun x=>(show List (Int) from x.1).length<=1000000/\∀ q ∈ (show List (Int) from x.1),(fun _=>True) q,fun x=>((show List (Int) from x.1).any oJ,())⟩
theorem a8m:aS Tryz.prog 136 b9X:=by
 refine bH ((nil0.ad a4K).ad a9o) ⟨[],[],[]⟩ Tryz.func136 rfl (by decide) (fun x=>[]) (fun x hp=>?_)
 obtain⟨x,c,u⟩:=x
 change List (Int) at x
 change Unit at c
 refine dD (((List.length x<=1000000/\∀ (q:Int),q ∈ x->True)/\True)/\True/\decide (nJ oJ x ≥ 0)=List.any x oJ/\True) (by kernel_rfl) ?_
 exact⟨⟨hp,trivial⟩,trivial,vT _ _,trivial⟩
theorem b0r:aS Tryz.prog 144 c0j:=by
 refine bH (nil0.ad a8m) ⟨[],[],[]⟩ Tryz.func144 rfl (by decide) (fun x=>[]) (fun x hp=>?_)
 obtain⟨x,u⟩:=x
 change List Int at x
 refine dD (((List.length x<=1000000/\∀ (q:Int),q ∈ x->True)/\True)/\True/\List.any x oJ=List.any x oJ/\True) (by kernel_rfl) ?_
 exact⟨⟨⟨hp,fun _ _=>trivial⟩,trivial⟩,trivial,rfl,trivial⟩
def rJ (l:List dZ):Int:=bif l.any yH then 2 else 0
noncomputable def c0w:Ctr:=⟨[.list IJ],[tI],fun x=>(show List dZ from x.1).length<=1000000,fun x=>(rJ x.1,())⟩
theorem b0L:aS Tryz.prog 40 c0w:=by
 refine bH (nil0.ad a9F) ⟨[4],[],[]⟩ Tryz.func40 rfl (by decide) (fun x=>[.inv {k:Nat // k<=(show List dZ from x.1).length/\((show List dZ from x.1).take k).any yH=false} (fun k=>[(7,.val tI (k.1:Int))]) (fun k=>[]) (fun k=>(show List dZ from x.1).length-k.1) ⟨0,by omega,rfl⟩ (fun _=>[])]) (fun x hp=>?_)
 obtain⟨x,u⟩:=x
 change List dZ at x
 refine dD ((asT Int 0=0/\True)/\∀ (i:{ k:Nat // k<=List.length x/\List.any (List.take k x) yH=false }),let A₁:=(List.getD x (aB (aA i)).toNat XL);let A₀:=(Prod.fst A₁.1::Prod.fst A₁.1.2::Prod.fst A₁.2.1::Prod.fst A₁.2.1.2::aJ Int);asT Bool true=true/\ifB (decide (aB (aA i)<aB x.length)) ((0<=aB (aA i)/\aB (aA i)<aB x.length/\True)/\(List.length A₀<=1000000/\True)/\ifB (List.any A₀ oJ) (True/\2=rJ x/\True) (∃ (i':{ k:Nat // k<=List.length x/\List.any (List.take k x) yH=false }),List.length x-aA i'<List.length x-aA i/\IntKind.wrap IntKind.i64 (aB (aA i)+1)=aB (aA i')/\True)) (True/\0=rJ x/\True)) (by kernel_rfl) ?_
 have hZ:(⟨false,0,[],[]⟩:aG)=bM:=rfl
 try simp only[aO,ay,ak]
 try dsimp only[aB,asT,aA,aJ,Ty.den,Lf.den] at *
 try simp only[hZ,Int.toNat_natCast,aO,ay,ak,ni,lg,jc,iq]
 try simp only[fU,fQ,List.all_cons,List.all_nil,oq,iw,jo,jh,ql,ne_eq,aj,je,jf,jl,mg,vw,qg,wu,ni,lg,jw,iy,List.length_cons,List.length_nil]
 have hp:x.length<=1000000:=hp
 refine fun i=>⟨fun h1=>⟨⟨by omega,h1⟩,by omega,fun h=>?_,fun h=>⟨⟨i.1+1,by omega,?_⟩,by simp only;omega,?_⟩⟩,fun h1=>?_⟩
 ·unfold rJ;rw[YB (p:=yH) (i:=i.1) (d:=XL) (by omega) h];rfl
 ·rw[nM (d:=XL) (by omega),i.2.2];exact(Bool.false_or _).trans h
 ·rw[bI (by omega) (by omega)];rfl
 ·have h3:=i.2.2
  rw[jg (by omega)] at h3
  unfold rJ;rw[h3];rfl
theorem WI:aS Tryz.prog 116 c0w:=by
 refine bH (nil0.ad b0r) ⟨[4],[],[]⟩ Tryz.func116 rfl (by decide) (fun x=>[.inv {k:Nat // k<=(show List dZ from x.1).length/\((show List dZ from x.1).take k).any yH=false} (fun k=>[(7,.val tI (k.1:Int))]) (fun k=>[]) (fun k=>(show List dZ from x.1).length-k.1) ⟨0,by omega,rfl⟩ (fun _=>[])]) (fun x hp=>?_)
 obtain⟨x,u⟩:=x
 change List dZ at x
 refine dD ((asT Int 0=0/\True)/\∀ (i:{ k:Nat // k<=List.length x/\List.any (List.take k x) yH=false }),let A₁:=(List.getD x (aB (aA i)).toNat XL);let A₀:=(Prod.fst A₁.1::Prod.fst A₁.1.2::Prod.fst A₁.2.1::Prod.fst A₁.2.1.2::aJ Int);asT Bool true=true/\ifB (decide (aB (aA i)<aB x.length)) ((0<=aB (aA i)/\aB (aA i)<aB x.length/\True)/\(List.length A₀<=1000000/\True)/\ifB (List.any A₀ oJ) (True/\2=rJ x/\True) (∃ (i':{ k:Nat // k<=List.length x/\List.any (List.take k x) yH=false }),List.length x-aA i'<List.length x-aA i/\IntKind.wrap IntKind.i64 (aB (aA i)+1)=aB (aA i')/\True)) (True/\0=rJ x/\True)) (by kernel_rfl) ?_
 have hZ:(⟨false,0,[],[]⟩:aG)=bM:=rfl
 try simp only[aO,ay,ak]
 try dsimp only[aB,asT,aA,aJ,Ty.den,Lf.den] at *
 try simp only[hZ,Int.toNat_natCast,aO,ay,ak,ni,lg,jc,iq]
 try simp only[fU,fQ,List.all_cons,List.all_nil,oq,iw,jo,jh,ql,ne_eq,aj,je,jf,jl,mg,vw,qg,wu,ni,lg,jw,iy,List.length_cons,List.length_nil]
 have hp:x.length<=1000000:=hp
 refine fun i=>⟨fun h1=>⟨⟨by omega,h1⟩,by omega,fun h=>?_,fun h=>⟨⟨i.1+1,by omega,?_⟩,by simp only;omega,?_⟩⟩,fun h1=>?_⟩
 ·unfold rJ;rw[YB (p:=yH) (i:=i.1) (d:=XL) (by omega) h];rfl
 ·rw[nM (d:=XL) (by omega),i.2.2];exact(Bool.false_or _).trans h
 ·rw[bI (by omega) (by omega)];rfl
 ·have h3:=i.2.2
  rw[jg (by omega)] at h3
  unfold rJ;rw[h3];rfl
theorem b1K:aS Tryz.prog 175 cIZ:=(a2M fun x w h0 h1=>zO x w h0 h1)
theorem b9y:aS Tryz.prog 213 (cZ2 fun x y=>((Int.gcd x y:Nat):Int)):=(DK fun v u x y w h1 h2 l1 l2=>FC v u x y w h1 h2 l1 l2)
theorem b9z:aS Tryz.prog 177 (cZ2 fun x y=>x*y):=(DK fun v u x y w h1 h2 l1 l2=>mul_any v u x y w h1 h2 l1 l2)
theorem b9A:aS Tryz.prog 97 (cZ1 fun x=>-x):=(a2P fun v x w h1 l1=>rF v x w h1 l1)
theorem b9B:aS Tryz.prog 179 (cZI Int.sign):=(a8a fun v x w h1=>tK v x w h1)
theorem b9C:aS Tryz.prog 229 cDiv:=(a4q fun v u x y w h1 h2 l1 l2 hy=>oU v u x y w h1 h2 l1 l2 hy)
noncomputable def LZ:Lib:=(((((((LCa
 ).add 175 cIZ (a2M fun x w h0 h1=>zO x w h0 h1)
 ).add 213 (cZ2 fun x y=>((Int.gcd x y:Nat):Int)) (DK fun v u x y w h1 h2 l1 l2=>FC v u x y w h1 h2 l1 l2)
 ).add 177 (cZ2 fun x y=>x*y) (DK fun v u x y w h1 h2 l1 l2=>mul_any v u x y w h1 h2 l1 l2)
 ).add 97 (cZ1 fun x=>-x) (a2P fun v x w h1 l1=>rF v x w h1 l1)
 ).add 179 (cZI Int.sign) (a8a fun v x w h1=>tK v x w h1)
 ).add 282 a7Z (a6i fun v x w h1=>a7z v x w h1)
 ).add 229 cDiv (a4q fun v u x y w h1 h2 l1 l2 hy=>oU v u x y w h1 h2 l1 l2 hy)
theorem b9G:aS Tryz.prog 183 (cNew 1000000000 14):=(a4r (fun v u x y w h1 h2 l1 l2 hy=>a0d v u _ _ x y w h1.EF h2.EF l1 l2 hy) (fun v u x y w h1 h2 hy=>a5f v u _ _ x y w h1.EF h2.EF hy))
noncomputable def LZb:Lib:=((((LZ
 ).add 183 (cNew 1000000000 14) (a4r (fun v u x y w h1 h2 l1 l2 hy=>a0d v u _ _ x y w h1.EF h2.EF l1 l2 hy) (fun v u x y w h1 h2 hy=>a5f v u _ _ x y w h1.EF h2.EF hy))
 ).add 147 b4e (a7X fun i k w h0 h1 h2 h3 hk=>b3b i k w h0 h1 h2 h3 hk)
 ).add 172 (cQ1 s4 (fun x=>-x)) (a7Y fun v x w a h=>b0g v x w a (by have:rsz x<=400000000:=h;omega))
 ).add 176 (cZ2 fun x y=>x+y) (DK fun v u x y w h1 h2 l1 l2=>add_any v u x y w h1 h2 l1 l2)
section
open Go Go.RowKit Go.Lib
set_option maxHeartbeats 4000000
abbrev IZ:Value:=.agg #[.bool false,.slice none 0 0,.bool false,.slice none 0 0]
theorem a6L:∃ i,Tryz.prog.info? 47=some i/\i.size=4/\i.bytes<=64/\i.zero=some IZ:=by
 have h:(Tryz.prog.info? 47).map (fun i=>(i.size,decide (i.bytes<=64),i.zero))=some (4,true,some IZ):=by kernel_rfl
 obtain⟨i,h1,h2⟩:=jd.1 h
 simp only[bf,ay] at h2
 exact⟨i,h1,h2.1,h2.2.1,h2.2.2⟩
theorem a8K (n:Nat) (w:World) (h0:0<n) (hn:n<=1000000000):Calls Tryz.prog 151 #[.slice none 0 0,.int .i64 n] w fun e w'=>∃ c,n<=c/\c<=maxLen/\e=.returned (.slice (some ⟨w.heap.size,0,none⟩) 0 c)/\w'=w.drew.alloc (.cells (#[]++Builtin.zeroCells IZ.cells n++Builtin.zeroCells IZ.cells (c-n)) 47):=by
 obtain⟨i,hi,hs,hb,hz⟩:=a6L
 have hn1:n*i.bytes<=n*64:=zk _ hb
 have hrz:∀ ty,(Builtin.append_ #[39,3] ty #[.slice none 0 0,.int .i64 (n:Nat)]).run Tryz.prog w=.ok (.slice (some ⟨w.heap.size,0,none⟩) (0+n) (grownCap w (0+n) 0 47)) (w.drew.alloc (.cells (#[]++Builtin.zeroCells IZ.cells n++Builtin.zeroCells IZ.cells (grownCap w (0+n) 0 47-(0+n))) 47)):=fun ty =>
  run_append_grow_zeros w 39 3 ty 47 i IZ .i64 .i64 (by kernel_rfl) (by kernel_rfl) hi hz none 0 0 [] (run_firstCells_none w.drew _ 0 0 0) n h0 (by omega) (by omega) (by omega) (by omega) (growslice_fits (by omega) (by rw[qp];omega))
 have hG:=grownCap_ge w (0+n) 0 47
 have hG2:=grownCap_le_maxLen w (0+n) 0 47 (by unfold maxLen;omega)
 obtain⟨G,hg⟩:∃ G,G=grownCap w (0+n) 0 47:=⟨_,rfl⟩
 rw[<-hg] at hrz hG hG2
 simp only[qp] at hrz hG
 have hG63:G<=9223372036854775807:=by unfold maxLen at hG2;omega
 have h1:¬ ((n:Int)<0):=by omega
 have h4:(n:Int) > 0:=by omega
 clear hg hn1 hi hz hs hb
 go_enter Tryz.func151,Tryz.ntmps151
 go_wp2_with (at_builtin;refine Lib.wpList_append_run _ rfl _ _ _ _ rfl _ _ rfl rfl _ _ (hrz _) ?_)
 go_ret
 exact⟨G,hG,hG2,rfl,rfl⟩
theorem a6E (w:World):Calls Tryz.prog 151 #[.slice none 0 0,.int .i64 0] w fun e w'=>e=.returned (.slice none 0 0)/\w'=w:=by
 go_enter Tryz.func151,Tryz.ntmps151
 go_wp2
 go_ret
 exact⟨rfl,rfl⟩
abbrev LKr:LK:=.row 47 tR
def b4d:nI:=.mk LKr [.nls tR,tI] (fun x=>(show Option (List aG) from x.1)=none/\0<=(show Int from x.2.1)/\(show Int from x.2.1)<=1000000000) (fun _=>([]:List aG))
theorem b4b (z:Array Value) (n:Nat):(Builtin.zeroCells z n).size=n*z.size:=by simp[Builtin.zeroCells]
theorem a6b:∀ u ∈ IZ.cells.toList,bZ u=true:=by
 intro u hu
 have hu:u ∈ [Value.bool false,.slice none 0 0,.bool false,.slice none 0 0]:=hu
 simp only[qm,Bz,or_false] at hu
 rcases hu with rfl|rfl|rfl|rfl<;>rfl
theorem a8J:NOk Tryz.prog 151 b4d:=by
 intro F w vs y hF hvs hp
 obtain⟨v,vs',rfl,h1,u,vs'',rfl,h2,h3⟩:=hvs
 have h3:vs''=[]:=h3
 subst h3
 obtain⟨p1,p2,p3⟩:=hp
 have hv:v=.slice none 0 0:=by
  obtain⟨cs,rfl,hr⟩:=h1
  rcases hr with⟨_,rfl⟩|⟨ys,b,o,c,ds,e,_⟩
  ·rfl
  ·rw[show y.1=(none:Option (List aG)) from p1] at e;cases e
 subst hv
 obtain⟨n,hn⟩:=uf p2
 have hu:u=.int .i64 (n:Int):=by rw[a1E h2];rw[show y.2.1=(n:Int) from hn]
 subst hu
 have hn9:n<=1000000000:=by rw[hn] at p3;omega
 let E:Env:=⟨fun _=>none,fun _=>undef,fun q=>F q\/w.heap.size<=q,fun _ _=>undef,fun _=>False,fun _=>undef⟩
 have hhas:∀ r j q,¬ E.has r j q:=fun r j q h=>by cases j<;>cases h
 have hM:Mem E (aQ []) w w:=⟨⟨rfl,rfl,rfl,au _,fun _ _ _=>rfl⟩,fun r=>rfl,fun r j r' j' b e=>(hhas r j b e).elim,fun r j b e=>(hhas r j b e).elim,fun q hq=>hq.elim (fun h=>h.elim) .inr,fun r i _=>rfl,fun r k e=>(by cases e),fun b o n h=>h⟩
 have fin:∀ (w':World) (b:Option Nat) (s:Value),Below w.heap.size w w'->(b=none\/b=some w.heap.size)->b=bG s->w'.ownsRow 0 47 4 s 0 []->CAv bZ w' s->∃ v E9 ρ q v0,Ending.returned s=.returned v/\Mem E9 ρ w w'/\(∀ q,¬ E9.nY q)/\ρ q=LKr.res ([]:List aG) v0/\v=E9.sl q:=fun w' b s hb hbs hbl ho hc=>by
  have hsl:(E.put 0 b s).sl 0=s:=by show bF E.sl 0 s 0=s;exact aC _ _ _
  obtain⟨m1,m2⟩:=hM.turn (w':=w') 0 (jL.below hb _) b s (.row 47 tR [] 0)
   ⟨by rw[hsl];show bF E.blk 0 _ 0=_;rw[aC];exact hbl,rfl,[],by rw[hsl];exact ho,rfl,by rw[hsl];exact⟨hc,a1V _⟩⟩ (hbs.elim .inl (fun h=>.inr (.inr h))) rfl (fun k e=>by cases e) (fun h=>h.elim) (fun h=>h.elim) (fun v h=>h.elim) (fun v h=>h.elim) (fun v h=>h.elim)
  exact⟨s,_,_,0,0,rfl,m1,fun q h=>h,aC _ _ _,hsl.symm⟩
 by_cases h0:n=0
 ·subst h0
  refine(a6E w).mono ?_
  rintro e w' ⟨rfl,rfl⟩
  obtain⟨v,E9,ρ,q,v0,h⟩:=fin w' none (.slice none 0 0) (bg _ _) (.inl rfl) rfl (Aj _ _ _ _) (fun g hg=>by cases hg)
  exact⟨v,E9,ρ,q,v0,h⟩
 ·refine(a8K n w (by omega) hn9).mono ?_
  rintro e w' ⟨c,c1,c2,rfl,rfl⟩
  have hcell:(w.drew.alloc (.cells (#[]++Builtin.zeroCells IZ.cells n++Builtin.zeroCells IZ.cells (c-n)) 47)).heap[w.heap.size]?=some (.cells (#[]++Builtin.zeroCells IZ.cells n++Builtin.zeroCells IZ.cells (c-n)) 47 (0,0)):=Ce w.drew (.cells (#[]++Builtin.zeroCells IZ.cells n++Builtin.zeroCells IZ.cells (c-n)) 47)
  obtain⟨v,E9,ρ,q,v0,h⟩:=fin _ (some w.heap.size) (.slice (some ⟨w.heap.size,0,none⟩) 0 c) ((bg _ _).drew.alloc (au _) _) (.inr rfl) rfl ⟨rfl,.inr ⟨w.heap.size,c,_,rfl,um _,hcell,um _,c2,by
    simp only[Array.size_append,b4b,Array.size_empty]
    show 0+n*4+(c-n)*4=c*4
    omega,by simp⟩⟩ (fun g hg i x hx=>by
    cases hg
    have hx:=(xu _ w.heap.size i _ _ _ hcell).symm.trans hx
    have hx2:=Array.mem_of_getElem? hx
    simp only[Array.mem_append] at hx2
    rcases hx2 with(hx2|hx2)|hx2
    ·exact absurd hx2 (by simp)
    ·exact yB a6b _ x (Dw.2 hx2)
    ·exact yB a6b _ x (Dw.2 hx2))
  exact⟨v,E9,ρ,q,v0,h⟩
end
end Go.Proofs.YtbkocjmmbkifjaaGreat
