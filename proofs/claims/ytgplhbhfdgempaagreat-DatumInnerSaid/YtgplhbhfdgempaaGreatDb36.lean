/-
  Lemmas for the statements about datums, part 36 of 37.
-/
import Derived.Lib.SmallJoins
import Derived.OpenShut
import Derived.Test.YtgplhbhfdgempaaGreatRows
import Derived.Test.YtgplhbhfdgempaaGreatDb35
namespace Go.Proofs.YtgplhbhfdgempaaGreat
open Go Go.RowKit
set_option maxRecDepth 100000
set_option maxHeartbeats 1000000
set_option linter.unusedVariables false
set_option linter.unusedSimpArgs false
def c4v:Ctr:=⟨[tR],[tI],fun x=>True,fun x=>(IntKind.wrap .i64 (((show aF from x.1).n:Int)+((show aF from x.1).m:Int)),())⟩
theorem b4n:aY Tryz.prog 86 c4v:=by
 refine bH nil0 ⟨[],[],[]⟩ Tryz.func86 rfl (by decide) (fun x=>[]) (fun x hp=>?_)
 obtain⟨q,u⟩:=x
 change aF at q
 refine bP (True/\IntKind.wrap IntKind.i64 (aA (aF.g q).length+aA (aF.h q).length)=IntKind.wrap IntKind.i64 (aA (aF.n q)+aA (aF.m q))/\True) (by kernel_rfl) ?_
 exact⟨trivial,rfl,trivial⟩
def mV (q:aF):Bool:=(decide (q.n<=1)&&decide (q.m<=1))&&((decide (q.n=0) || decide (q.g.getD 0 0<100000))&&(decide (q.m=0) || decide (q.h.getD 0 0<=100)))
def c4p:Ctr:=⟨[tR],[tB],fun x=>True,fun x=>(mV x.1,())⟩
theorem b3W:aY Tryz.prog 87 c4p:=by
 refine bH nil0 ⟨[],[],[]⟩ Tryz.func87 rfl (by decide) (fun x=>[]) (fun x hp=>?_)
 obtain⟨q,u⟩:=x
 change aF at q
 refine bP (let A₀:=(aF.g q).length;let A₁:=(List.getD (aF.g q) 0 0);let A₂:=(aF.h q).length;(((decide (aA A₀ > 1)==false)=true->(decide (aA A₀ > 1)==false)=true/\True)/\((decide (aA A₀ > 1)==false)=true->(decide (aA A₀ > 1)==false)=true/\True)/\(decide (aA A₀ > 1)=false->(decide (aA A₀ > 1)==false)=true)/\True)/\ifB (bif decide (aA A₀ > 1) then true else decide (aA A₂ > 1)) (True/\false=mV q/\True) (((((aA A₀==0)==false)=true->((aA A₀==0)==false)=true/\asT Int 0<=0/\0<aA A₀/\True)/\(((aA A₀==0)==false)=true->((aA A₀==0)==false)=true/\True)/\(((aA A₀==0)==false)=true->((aA A₀==0)==false)=true/\True)/\((aA A₀==0)=false->((aA A₀==0)==false)=true)/\(((bif aA A₀==0 then true else decide (aA A₁<100000))==true)=true->((bif aA A₀==0 then true else decide (aA A₁<100000))==true)=true/\True)/\(((bif aA A₀==0 then true else decide (aA A₁<100000))==true)=true->((bif aA A₀==0 then true else decide (aA A₁<100000))==true)=true/\True)/\(((bif aA A₀==0 then true else decide (aA A₁<100000))==true)=true->((bif aA A₀==0 then true else decide (aA A₁<100000))==true)=true/\True)/\(((bif aA A₀==0 then true else decide (aA A₁<100000))==true&&(aA A₂==0)==false)=true->((bif aA A₀==0 then true else decide (aA A₁<100000))==true&&(aA A₂==0)==false)=true/\asT Int 0<=0/\0<aA A₂/\True)/\(((bif aA A₀==0 then true else decide (aA A₁<100000))==true&&(aA A₂==0)==false)=true->((bif aA A₀==0 then true else decide (aA A₁<100000))==true&&(aA A₂==0)==false)=true/\True)/\(((bif aA A₀==0 then true else decide (aA A₁<100000))==true&&(aA A₂==0)==false)=true->((bif aA A₀==0 then true else decide (aA A₁<100000))==true&&(aA A₂==0)==false)=true/\True)/\(((bif aA A₀==0 then true else decide (aA A₁<100000))==true)=true->((bif aA A₀==0 then true else decide (aA A₁<100000))==true)=true/\((aA A₂==0)=false->((bif aA A₀==0 then true else decide (aA A₁<100000))==true&&(aA A₂==0)==false)=true)/\True)/\((bif aA A₀==0 then true else decide (aA A₁<100000))=true->((bif aA A₀==0 then true else decide (aA A₁<100000))==true)=true)/\True)/\True/\(bif bif aA A₀==0 then true else decide (aA A₁<100000) then bif aA A₂==0 then true else decide (aA (List.getD (aF.h q) 0 0)<=100) else false)=mV q/\True)) (by kernel_rfl) ?_
 try simp only[aJ,dh,bn]
 try dsimp only[Ty.den,Lf.den,asT] at *
 try simp only[uF,uD,trF,uG]
 have hZ:(⟨false,0,[],[]⟩:aF)=bV:=rfl
 try dsimp only[aA,asT,aB,aC,Ty.den,Lf.den] at *
 try simp only[hZ,Int.toNat_natCast,aJ,dh,bn,mg,mW,aH,nameAt,aX,aN,aZ,rowAt,iw,gJ]
 try simp only[jK,List.all_cons,List.all_nil,yx,nI,qw,jd,uy,ne_eq,ak,qg,nS,tC,xk,imp_self,AO,and_self,mg,mW,iD,qZ,qO,List.length_cons,List.length_nil]
 try simp only[wdF,iT,jA]
 have h01:∀ n:Nat,(¬ (n:Int) > 1)->decide ((n:Int) > 1)=false:=fun n h=>jq h
 have hd:∀ n:Nat,decide ((n:Int) > 1)=!decide (n<=1):=fun n=>by
  by_cases h:n<=1
  ·rw[jw h,jq (by omega)];rfl
  ·rw[jq h,jw (by omega)];rfl
 have hz:∀ n:Nat,(((n:Nat):Int)==0)=decide (n=0):=fun n=>by
  by_cases h:n=0
  ·rw[h];rfl
  ·rw[jq h];exact nS.mpr (by omega)
 refine⟨h01 _,fun h=>?_,fun h=>⟨⟨fun a=>⟨a,by omega,by omega⟩,fun a=>⟨a,by omega,by omega⟩,fun a=>⟨a,fun b=>⟨a,b⟩⟩⟩,?_⟩⟩
 ·rw[hd,hd] at h
  unfold mV
  have:(decide (q.n<=1)&&decide (q.m<=1))=false:=by
   rcases h with h|h
   ·rw[show decide (q.n<=1)=false by simpa using h];rfl
   ·rw[show decide (q.m<=1)=false by simpa using h,Bool.and_false]
  rw[this];rfl
 ·rw[hd,hd] at h
  unfold mV
  rw[show decide (q.n<=1)=true by simpa using h.1,show decide (q.m<=1)=true by simpa using h.2,hz,hz]
  rw[show decide (((q.g.getD 0 0:Nat):Int)<100000)=decide (q.g.getD 0 0<100000) from yj.mpr (by omega),show decide (((q.h.getD 0 0:Nat):Int)<=100)=decide (q.h.getD 0 0<=100) from yj.mpr (by omega)]
  cases (decide (q.g.length=0) || decide (q.g.getD 0 0<100000))<;>rfl
def brL (l:LR) (m:Nat):Bool:=decide (l.length<=m)&&l.all mV
theorem vI {q:aF} (h:mV q=true):q.n<=1/\q.m<=1:=by
 unfold mV at h
 rw[ak,ak] at h
 exact⟨oz h.1.1,oz h.1.2⟩
def c4H:Ctr:=⟨[.list tR,tI,tI],[tB],fun x=>(∃ m:Nat,(show Int from x.2.1)=m/\m<=1000)/\(show Int from x.2.2.1)=6,fun x=>(brL x.1 (show Int from x.2.1).toNat,())⟩
theorem a2k:aY Tryz.prog 48 c4H:=by
 refine bH ((nil0.ad b4n).ad b3W) ⟨[],[],[]⟩ Tryz.func48 rfl (by decide) (fun x=>[.inv {k:Nat // k<=(show LR from x.1).length/\((show LR from x.1).take k).all mV=true} (fun k=>[(7,.val tI (k.1:Int))]) (fun k=>[]) (fun k=>(show LR from x.1).length-k.1) ⟨0,by omega,rfl⟩ (fun _=>[])]) (fun x hp=>?_)
 obtain⟨l,m,k,u⟩:=x
 change List aF at l
 change Int at m
 change Int at k
 refine bP (ifB (decide (aA l.length > m)) (True/\false=brL l m.toNat/\True) ((asT Int 0=0/\True)/\∀ (i:{ k:Nat // k<=List.length l/\List.all (List.take k l) mV=true }),let A₁:=(List.getD l (aA (aB i)).toNat bV);let A₀:=(IntKind.wrap IntKind.i64 (aA (aF.n A₁)+aA (aF.m A₁)) > k);asT Bool true=true/\ifB (decide (aA (aB i)<aA l.length)) ((0<=aA (aB i)/\aA (aB i)<aA l.length/\True/\((decide A₀==false)=true->(decide A₀==false)=true/\True)/\((decide A₀==false)=true->(decide A₀==false)=true/\True)/\((decide A₀==false&&decide (k<=6)==true)=true->(decide A₀==false&&decide (k<=6)==true)=true/\(decide A₀==false&&decide (k<=6)==true)=true/\0<=aA (aB i)/\aA (aB i)<aA l.length/\True)/\((decide A₀==false&&decide (k<=6)==true)=true->(decide A₀==false&&decide (k<=6)==true)=true/\True)/\((decide A₀==false&&decide (k<=6)==true)=true->(decide A₀==false&&decide (k<=6)==true)=true/\True/\True)/\((decide A₀==false&&decide (k<=6)==true)=true->(decide A₀==false&&decide (k<=6)==true)=true/\True)/\((decide A₀==false)=true->(decide A₀==false)=true/\(decide (k<=6)=true->(decide A₀==false&&decide (k<=6)==true)=true)/\True)/\(decide A₀=false->(decide A₀==false)=true)/\True)/\ifB (bif decide A₀ then true else bif decide (k<=6) then !mV A₁ else false) (True/\false=brL l m.toNat/\True) (∃ (i':{ k:Nat // k<=List.length l/\List.all (List.take k l) mV=true }),List.length l-aB i'<List.length l-aB i/\IntKind.wrap IntKind.i64 (aA (aB i)+1)=aA (aB i')/\True)) (True/\true=brL l m.toNat/\True))) (by kernel_rfl) ?_
 try simp only[aJ,dh,bn]
 try dsimp only[Ty.den,Lf.den,asT] at *
 try simp only[uF,uD,trF,uG]
 have hZ:(⟨false,0,[],[]⟩:aF)=bV:=rfl
 try dsimp only[aA,asT,aB,aC,Ty.den,Lf.den] at *
 try simp only[hZ,Int.toNat_natCast,aJ,dh,bn,mg,mW,aH,nameAt,aX,aN,aZ,rowAt,iw,gJ]
 try simp only[jK,List.all_cons,List.all_nil,yx,nI,qw,jd,uy,ne_eq,ak,qg,nS,tC,xk,imp_self,AO,and_self,mg,mW,iD,qZ,qO,List.length_cons,List.length_nil]
 try simp only[wdF,iT,jA]
 obtain⟨⟨M,hM,c5y⟩,hk⟩:=hp
 change m=(M:Int) at hM
 change k=6 at hk
 subst hM hk
 rw[Int.toNat_natCast]
 refine⟨fun h=>?_,fun h i=>⟨fun h1=>⟨⟨by omega,h1,fun a=>⟨a,a,by omega,h1⟩,fun a=>⟨a,fun b=>⟨a,jw b⟩⟩,fun a=>jq a⟩,fun h2=>?_,fun h2=>⟨⟨i.1+1,by omega,?_⟩,by simp only;omega,?_⟩⟩,fun h1=>?_⟩⟩
 ·unfold brL;rw[jq (by omega)];rfl
 ·have hi:i.1<l.length:=by omega
  have hb:mV (l.getD i.1 bV)=false:=by
   cases e:mV (l.getD i.1 bV)
   ·rfl
   ·exfalso
    rw[e] at h2
    obtain⟨n1,m1⟩:=vI e
    rcases h2 with h2|h2
    ·have h2:=oz h2
     rw[bF (by omega) (by omega)] at h2
     omega
    ·exact absurd h2 (by decide)
  unfold brL
  rw[show l.all mV=false from List.all_eq_false.mpr ⟨l.getD i.1 bV,by rw[ay,dn hi];exact jm hi,by rw[hb];decide⟩,Bool.and_false]
 ·have hb:mV (l.getD i.1 bV)=true:=by
   have:=h2.2
   revert this
   cases mV (l.getD i.1 bV)<;>decide
  rw[TT (d:=bV) (by omega),i.2.2,hb];rfl
 ·rw[bF (by omega) (by omega)];rfl
 ·have h3:=i.2.2
  rw[jG (by omega)] at h3
  unfold brL;rw[h3,jw (by omega)];rfl
def yJ (a:MR):Bool:=decide (a.length<=7)&&a.all (fun r=>brL r 7)
def c4x:Ctr:=⟨[.list tMR],[tB],fun x=>(show ML from x.1).length<=100,fun x=>((show ML from x.1).all yJ,())⟩
theorem a1o:aY Tryz.prog 10 c4x:=by
 refine bH (nil0.ad a2k) ⟨[],[],[]⟩ Tryz.func10 rfl (by decide) (fun x=>[.inv {k:Nat // k<=(show ML from x.1).length/\((show ML from x.1).take k).all yJ=true} (fun k=>[(9,.val tI (k.1:Int))]) (fun k=>[]) (fun k=>(show ML from x.1).length-k.1) ⟨0,by omega,rfl⟩ (fun k=>[
  .inv {c:Nat // c<=((show ML from x.1).getD k.1 []).length/\(((show ML from x.1).getD k.1 []).take c).all (fun r=>brL r 7)=true} (fun c=>[(18,.val tI (c.1:Int))]) (fun c=>[]) (fun c=>((show ML from x.1).getD k.1 []).length-c.1) ⟨0,by omega,rfl⟩ (fun _=>[])])]) (fun x hp=>?_)
 obtain⟨x,u⟩:=x
 change List (List (List aF)) at x
 refine bP ((asT Int 0=0/\True)/\∀ (i:{ k:Nat // k<=List.length x/\List.all (List.take k x) yJ=true }),let A₀:=(List.getD x (aB i) (aC (List aF)));let A₁:=(List.getD x (aA (aB i)).toNat (aC (List aF)));asT Bool true=true/\ifB (decide (aA (aB i)<aA x.length)) ((0<=aA (aB i)/\aA (aB i)<aA x.length/\True)/\ifB (decide (aA A₁.length > 7)) (True/\false=List.all x yJ/\True) ((asT Int 0=0/\True)/\∀ (i_1:{ c:Nat // c<=List.length A₀/\(List.all (List.take c A₀) fun(r:List aF)=>brL r 7)=true }),asT Bool true=true/\ifB (decide (aA (aB i_1)<aA A₁.length)) ((0<=aA (aB i_1)/\aA (aB i_1)<aA A₁.length/\True)/\(((∃ (m:Nat),7=aA m/\m<=1000)/\asT Int 6=6)/\True)/\ifB (!brL (List.getD A₁ (aA (aB i_1)).toNat (aC aF)) 7) (True/\false=List.all x yJ/\True) (∃ (i':{ c:Nat // c<=List.length A₀/\(List.all (List.take c A₀) fun(r:List aF)=>brL r 7)=true }),List.length A₀-aB i'<List.length A₀-aB i_1/\IntKind.wrap IntKind.i64 (aA (aB i_1)+1)=aA (aB i')/\True)) (∃ (i':{ k:Nat // k<=List.length x/\List.all (List.take k x) yJ=true }),List.length x-aB i'<List.length x-aB i/\IntKind.wrap IntKind.i64 (aA (aB i)+1)=aA (aB i')/\True))) (True/\true=List.all x yJ/\True)) (by kernel_rfl) ?_
 try simp only[aJ,dh,bn]
 try dsimp only[Ty.den,Lf.den,asT] at *
 try simp only[uF,uD,trF,uG]
 have hZ:(⟨false,0,[],[]⟩:aF)=bV:=rfl
 try dsimp only[aA,asT,aB,aC,Ty.den,Lf.den] at *
 try simp only[hZ,Int.toNat_natCast,aJ,dh,bn,mg,mW,aH,nameAt,aX,aN,aZ,rowAt,iw,gJ]
 try simp only[jK,List.all_cons,List.all_nil,yx,nI,qw,jd,uy,ne_eq,ak,qg,nS,tC,xk,imp_self,AO,and_self,mg,mW,iD,qZ,qO,List.length_cons,List.length_nil]
 try simp only[wdF,iT,jA]
 have hp:x.length<=100:=hp
 refine fun i=>⟨fun h1=>⟨⟨by omega,h1⟩,fun h2=>?_,fun h2 c=>⟨fun h3=>⟨⟨by omega,h3⟩,⟨7,rfl,by omega⟩,fun h4=>?_,fun h4=>⟨⟨c.1+1,by omega,?_⟩,by simp only;omega,?_⟩⟩,fun h3=>⟨⟨i.1+1,by omega,?_⟩,by simp only;omega,?_⟩⟩⟩,fun h1=>?_⟩
 ·have hi:i.1<x.length:=by omega
  refine(List.all_eq_false.mpr ⟨x.getD i.1 [],by rw[ay,dn hi];exact jm hi,?_⟩).symm
  unfold yJ;rw[jq (by omega),Bool.false_and];decide
 ·have hi:i.1<x.length:=by omega
  have hc:c.1<(x.getD i.1 []).length:=by omega
  refine(List.all_eq_false.mpr ⟨x.getD i.1 [],by rw[ay,dn hi];exact jm hi,?_⟩).symm
  unfold yJ
  rw[show (x.getD i.1 []).all (fun r=>brL r 7)=false from List.all_eq_false.mpr ⟨(x.getD i.1 []).getD c.1 [],by rw[ay (l:=x.getD i.1 []),dn hc];exact jm hc,by rw[h4];decide⟩,Bool.and_false]
  decide
 ·rw[TT (d:=[]) (by omega),c.2.2]
  show (true&&brL ((x.getD i.1 []).getD c.1 []) 7)=true
  rw[h4];rfl
 ·rw[bF (by omega) (by omega)];rfl
 ·rw[TT (d:=[]) (by omega),i.2.2]
  have h4:=c.2.2
  rw[jG (by omega)] at h4
  unfold yJ;rw[h4,jw (by omega)];rfl
 ·rw[bF (by omega) (by omega)];rfl
 ·have h3:=i.2.2
  rw[jG (by omega)] at h3
  exact h3.symm
def c4O:Ctr:=⟨[.list tI],[.list tQ],fun x=>(show List Int from x.1).length<=1000/\∀ i ∈ (show List Int from x.1),gZ i,fun x=>((show List Int from x.1).map (fun i=>dD i),())⟩
def c2o:Ctr:=⟨[.list tMR],[tI],fun x=>(show ML from x.1).length<=1000000/\∀ a ∈ (show ML from x.1),dV a,fun x=>(gW x.1,())⟩
theorem b6a:aY Tryz.prog 47 c4O:=by
 refine bH (nil0.ad a2y) ⟨[],[],[]⟩ Tryz.func47 rfl (by decide) (fun x=>[.inv {k:Nat // k<=(show List Int from x.1).length} (fun k=>[(9,.val tI (k.1:Int)),(3,.own 6 0),(6,.any)]) (fun k=>[(6,.row 64 tQ (((show List Int from x.1).take k.1).map (fun i=>dD i)) 0)]) (fun k=>(show List Int from x.1).length-k.1) ⟨0,by omega⟩ (fun _=>[])]) (fun x hp=>?_)
 obtain⟨x,u⟩:=x
 change List Int at x
 refine bP ((asT Int 0=0/\asT (List Rat) (aC Rat)=aC Rat/\True)/\∀ (i:{ k:Nat // k<=List.length x }),asT Bool true=true/\ifB (decide (aA (aB i)<aA x.length)) ((0<=aA (aB i)/\aA (aB i)<aA x.length/\True)/\(gZ (List.getD x (aA (aB i)).toNat 0)/\List.length (List.map (fun(i:Int)=>dD i) (List.take (aB i) x))+List.length (dD (List.getD x (aA (aB i)).toNat 0)::aC Rat)<=1000000000/\True)/\∃ (i':{ k:Nat // k<=List.length x }),List.length x-aB i'<List.length x-aB i/\IntKind.wrap IntKind.i64 (aA (aB i)+1)=aA (aB i')/\List.map (fun(i:Int)=>dD i) (List.take (aB i) x)++dD (List.getD x (aA (aB i)).toNat 0)::aC Rat=List.map (fun(i:Int)=>dD i) (List.take (aB i') x)/\True) (True/\List.map (fun(i:Int)=>dD i) (List.take (aB i) x)=List.map (fun(i:Int)=>dD i) x/\True)) (by kernel_rfl) ?_
 try simp only[aJ,dh,bn]
 try dsimp only[Ty.den,Lf.den,asT] at *
 try simp only[uF,uD,trF,uG]
 have hZ:(⟨false,0,[],[]⟩:aF)=bV:=rfl
 try dsimp only[aA,asT,aB,aC,Ty.den,Lf.den] at *
 try simp only[hZ,Int.toNat_natCast,aJ,dh,bn,mg,mW,aH,nameAt,aX,aN,aZ,rowAt,iw,gJ]
 try simp only[jK,List.all_cons,List.all_nil,yx,nI,qw,jd,uy,ne_eq,ak,qg,nS,tC,xk,imp_self,AO,and_self,mg,mW,iD,qZ,qO,List.length_cons,List.length_nil]
 try simp only[wdF,iT,jA]
 have hp:x.length<=1000/\∀ i ∈ x,gZ i:=hp
 refine fun i=>⟨fun h1=>⟨⟨by omega,h1⟩,⟨fA hp.2 (by omega),by rw[ny,jg];omega⟩,⟨i.1+1,by omega⟩,by simp only;omega,by rw[bF (by omega) (by omega)];rfl,?_⟩,fun h1=>by rw[jG (by omega)]⟩
 have hi:i.1<x.length:=by omega
 show _=List.map (fun i=>dD i) (List.take (i.1+1) x)
 rw[Ak,List.map_append,dn hi,ay,dn hi];rfl
theorem WQ:aY Tryz.prog 12 c2o:=by
 refine bH (nil0.ad a3X) ⟨[],[],[]⟩ Tryz.func12 rfl (by decide) (fun x=>[.inv {k:Nat // k<=(show ML from x.1).length/\((show ML from x.1).take k).any (fun a=>bW a != 0)=false} (fun k=>[(7,.val tI (k.1:Int))]) (fun k=>[]) (fun k=>(show ML from x.1).length-k.1) ⟨0,by omega,rfl⟩ (fun _=>[])]) (fun x hp=>?_)
 obtain⟨x,u⟩:=x
 change List (List (List aF)) at x
 refine bP ((asT Int 0=0/\True)/\∀ (i:{ k:Nat // k<=List.length x/\(List.any (List.take k x) fun(a:List (List aF))=>bW a != 0)=false }),asT Bool true=true/\ifB (decide (aA (aB i)<aA x.length)) ((0<=aA (aB i)/\aA (aB i)<aA x.length/\True)/\(dV (List.getD x (aA (aB i)).toNat (aC (List aF)))/\True)/\ifB (bW (List.getD x (aA (aB i)).toNat (aC (List aF))) != 0) (True/\1=gW x/\True) (∃ (i':{ k:Nat // k<=List.length x/\(List.any (List.take k x) fun(a:List (List aF))=>bW a != 0)=false }),List.length x-aB i'<List.length x-aB i/\IntKind.wrap IntKind.i64 (aA (aB i)+1)=aA (aB i')/\True)) (True/\0=gW x/\True)) (by kernel_rfl) ?_
 try simp only[aJ,dh,bn]
 try dsimp only[Ty.den,Lf.den,asT] at *
 try simp only[uF,uD,trF,uG]
 have hZ:(⟨false,0,[],[]⟩:aF)=bV:=rfl
 try dsimp only[aA,asT,aB,aC,Ty.den,Lf.den] at *
 try simp only[hZ,Int.toNat_natCast,aJ,dh,bn,mg,mW,aH,nameAt,aX,aN,aZ,rowAt,iw,gJ]
 try simp only[jK,List.all_cons,List.all_nil,yx,nI,qw,jd,uy,ne_eq,ak,qg,nS,tC,xk,imp_self,AO,and_self,mg,mW,iD,qZ,qO,List.length_cons,List.length_nil]
 try simp only[wdF,iT,jA]
 have hp:x.length<=1000000/\∀ a ∈ x,dV a:=hp
 obtain⟨hl,hb⟩:=hp
 refine fun i=>⟨fun h1=>⟨⟨by omega,h1⟩,fA hb (by omega),fun h2=>?_,fun h2=>⟨⟨i.1+1,by omega,?_⟩,by simp only;omega,?_⟩⟩,fun h1=>?_⟩
 ·have hi:i.1<x.length:=by omega
  have h3:x.any (fun a=>bW a != 0)=true:=tY.mpr ⟨x.getD i.1 [],by rw[ay,dn hi];exact jm hi,uy.mpr h2⟩
  unfold gW;rw[h3];rfl
 ·rw[mM (d:=[]) (by omega),i.2.2,h2];rfl
 ·rw[bF (by omega) (by omega)];rfl
 ·have h3:=i.2.2
  rw[jG (by omega)] at h3
  unfold gW;rw[h3];rfl
theorem b5x {a:MQ} {n:Nat} (h:isM a n n):kR a=decide (rkM a=a.length):=by
 have h1:=(iL n (ent a) n).inj
 have h2:=a4b h
 have h3:rkM a=(red n (ent a) n).2.length:=h.rk
 cases e:kR a
 ·refine(jq fun h4=>?_).symm
  rw[h3,h.len] at h4
  have:=h2.mpr (h1.mp h4)
  rw[e] at this;cases this
 ·refine(jw ?_).symm
  rw[h3,h.len]
  exact h1.mpr (h2.mp e)
def c4G:Ctr:=⟨[tM,tM],[tB],fun x=>yZ x.1 x.2.1,fun x=>(kR (bgM x.1 x.2.1),())⟩
theorem a1Z:aY Tryz.prog 37 c4G:=by
 refine bH (((nil0.ad zD).ad NR).ad QA) ⟨[],[],[]⟩ Tryz.func37 rfl (by decide) (fun x=>[]) (fun x hp=>?_)
 obtain⟨g,b,u⟩:=x
 change List (List Rat) at g
 change List (List Rat) at b
 refine bP ((okM b/\(okM (trM b)/\okM g/\wdM (trM b)=List.length g/\szM (trM b) 1000000/\szM g 1000000)/\True)/\(okE (mulM (trM b) g)/\True)/\True/\(aA (rkM (mulM (trM b) g))==aA (mulM (trM b) g).length)=kR (bgM g b)/\True) (by kernel_rfl) ?_
 try simp only[aJ,dh,bn]
 try dsimp only[Ty.den,Lf.den,asT] at *
 try simp only[uF,uD,trF,uG]
 have hZ:(⟨false,0,[],[]⟩:aF)=bV:=rfl
 try dsimp only[aA,asT,aB,aC,Ty.den,Lf.den] at *
 try simp only[hZ,Int.toNat_natCast,aJ,dh,bn,mg,mW,aH,nameAt,aX,aN,aZ,rowAt,iw,gJ]
 try simp only[jK,List.all_cons,List.all_nil,yx,nI,qw,jd,uy,ne_eq,ak,qg,nS,tC,xk,imp_self,AO,and_self,mg,mW,iD,qZ,qO,List.length_cons,List.length_nil]
 try simp only[wdF,iT,jA]
 have F:=a3S (show yZ g b from hp)
 rw[show mulM (trM b) g=bgM g b from rfl]
 refine⟨⟨F.b2.ok F.b1 (by omega),F.t2.ok F.t1 (by omega),F.g2.ok F.g1 (by omega),F.t1.wd,F.t2.sz (by omega),F.g2.sz (by omega)⟩,PU F.m1 F.c7 F.m2 (by omega),?_⟩
 rw[b5x F.m1]
 cases e:decide (rkM (bgM g b)=List.length (bgM g b))
 ·have:=zy e
  exact nS.mpr (by omega)
 ·have:=oz e
  rw[this];exact beq_self_eq_true _
def n0:MQ:=[[dD 1,dD (-1),dD 0],[dD (-1),dD 2,dD (-1)],[dD 0,dD (-1),dD 1]]
def g0:MQ:=[[dD 1],[dD 1],[dD 1]]
def b0:MQ:=[[dD 1],[dD 0],[dD 0]]
def r0:LQ':=[dD 1,dD 0,dD (-1)]
def y0:LQ':=[dD 0,dD (-1),dD (-2)]
def c0:MQ:=[[dD 0,dD 0,dD 0],[dD 0,dD 1,dD 1],[dD 0,dD 1,dD 2]]
abbrev a0a (l:LQ'):LR:=List.map (fun x=>dS x) l
theorem c3w:CU (liftM n0)=((g0,()),0,()):=by decide +kernel
theorem c3u:UE (liftM n0) (liftM g0)=0:=by decide +kernel
theorem c3x:oW (liftM n0) (liftM g0) (liftM b0) (a0a r0)=(y0,0,()):=by decide +kernel
theorem c3v:zO (liftM n0) (liftM g0) (liftM b0)=(c0,0,()):=by decide +kernel
theorem LH {P:Program} {f:FuncId} {c:Ctr} (h:aY P f c) {pre:(nest c.args).den->Prop} {fn:(nest c.args).den->(nest c.res).den} (h1:∀ x,pre x->c.pre x) (h2:∀ x,pre x->fn x=c.fn x):aY P f ⟨c.args,c.res,pre,fn⟩:=fun F w vs x a b hp=>by
 have t:=h F w vs x a b (h1 x hp)
 rw[<-h2 x hp] at t
 exact t
theorem a4s {a:MQ} {K:Nat} (h:okM a) (h7:a.length<=7) (w7:wdM a<=7) (C:CdM a K):smK K (liftM a):=⟨h.short,fun _=>by rw[PO,WI,a7A];exact⟨h7,w7,C⟩⟩
theorem a2l {a:MQ} {R C K:Nat} (h:isM a R C) (h7:R<=7) (w7:C<=7) (hs:szM a 1) (hK:58<=K):smK K (liftM a):=by
 have h1:=a9W h hs
 have h2:R*(C+1)<=7*8:=oh h7 (by omega)
 have h3:CdM a K:=h1.mono (by omega)
 exact a4s (CdM.ok h1 h (by omega)) (by rw[h.len];exact h7) (by rw[h.wd];exact w7) h3
theorem a1C {a:MQ} {R C:Nat} (h:decide (a.length=R/\a.all (fun r=>r.length==C)=true/\1<=R/\R<=64/\1<=C/\C<=64)=true):isM a R C:=by
 have h:=oz h
 exact⟨h.1,fun r hr=>by simpa using ql.mp h.2.1 r hr,h.2.2⟩
theorem a7D:smK 100 (liftM n0):=a2l (R:=3) (C:=3) (a1C (by decide +kernel)) (by omega) (by omega) (by unfold szM;decide +kernel) (by omega)
theorem b1d:smK 100 (liftM g0):=a2l (R:=3) (C:=1) (a1C (by decide +kernel)) (by omega) (by omega) (by unfold szM;decide +kernel) (by omega)
theorem b6d:smK 100 (liftM b0):=a2l (R:=3) (C:=1) (a1C (by decide +kernel)) (by omega) (by omega) (by unfold szM;decide +kernel) (by omega)
theorem smK.mono {K L:Nat} {a:MR} (H:smK K a) (h:K<=L):smK L a:=⟨H.1,fun c=>⟨(H.2 c).1,(H.2 c).2.1,(H.2 c).2.2.mono h⟩⟩
theorem c3I:smL 1 (a0a r0):=⟨⟨by decide +kernel,by unfold uU;decide +kernel⟩,fun _=>by decide +kernel⟩
def c2r:Ctr:=⟨[tMR],[.pair tM .unit,tI],fun x=>(show MR from x.1)=liftM n0,fun _=>((g0,()),(0:Int),())⟩
def c1T:Ctr:=⟨[tMR,.pair tMR .unit],[tI],fun x=>(show MR from x.1)=liftM n0/\(show MR from x.2.1.1)=liftM g0,fun _=>((0:Int),())⟩
def c2y:Ctr:=⟨[tMR,.pair tMR .unit,tMR,.list tR],[.list tQ,tI],fun x=>(show MR from x.1)=liftM n0/\(show MR from x.2.1.1)=liftM g0/\(show MR from x.2.2.1)=liftM b0/\(show LR from x.2.2.2.1)=a0a r0,fun _=>(y0,(0:Int),())⟩
def c1W:Ctr:=⟨[tMR,.pair tMR .unit,tMR],[tM,tI],fun x=>(show MR from x.1)=liftM n0/\(show MR from x.2.1.1)=liftM g0/\(show MR from x.2.2.1)=liftM b0,fun _=>(c0,(0:Int),())⟩
theorem b2o:aY Tryz.prog 11 c2r:=LH (c:=b0l) ZA (fun x (h:(show MR from x.1)=_)=>by show smK 100 x.1;rw[show x.1=liftM n0 from h];exact a7D) (fun x (h:(show MR from x.1)=_)=>by show _=CU x.1;rw[show x.1=liftM n0 from h];exact c3w.symm)
theorem b0y:aY Tryz.prog 18 c1T:=LH (c:=b6f) a2Q (fun x (h:(show MR from x.1)=_/\(show MR from x.2.1.1)=_)=>by show smK 100 x.1/\smK 13000 x.2.1.1;rw[show x.1=liftM n0 from h.1,show x.2.1.1=liftM g0 from h.2];exact⟨a7D,b1d.mono (by omega)⟩) (fun x (h:(show MR from x.1)=_/\(show MR from x.2.1.1)=_)=>by show _=(UE x.1 x.2.1.1,());rw[show x.1=liftM n0 from h.1,show x.2.1.1=liftM g0 from h.2,c3u];rfl)
theorem b3h:aY Tryz.prog 20 c2y:=LH (c:=b6h) UW (fun x (h:(show MR from x.1)=_/\(show MR from x.2.1.1)=_/\(show MR from x.2.2.1)=_/\(show LR from x.2.2.2.1)=_)=>by show b5J x.1 x.2.1.1 x.2.2.1 x.2.2.2.1;rw[show x.1=liftM n0 from h.1,show x.2.1.1=liftM g0 from h.2.1,show x.2.2.1=liftM b0 from h.2.2.1,show x.2.2.2.1=a0a r0 from h.2.2.2];exact⟨a7D,b1d,b6d,c3I⟩) (fun x (h:(show MR from x.1)=_/\(show MR from x.2.1.1)=_/\(show MR from x.2.2.1)=_/\(show LR from x.2.2.2.1)=_)=>by show _=oW x.1 x.2.1.1 x.2.2.1 x.2.2.2.1;rw[show x.1=liftM n0 from h.1,show x.2.1.1=liftM g0 from h.2.1,show x.2.2.1=liftM b0 from h.2.2.1,show x.2.2.2.1=a0a r0 from h.2.2.2];exact c3x.symm)
theorem b0D:aY Tryz.prog 24 c1W:=LH (c:=b6g) UL (fun x (h:(show MR from x.1)=_/\(show MR from x.2.1.1)=_/\(show MR from x.2.2.1)=_)=>by show smK 100 x.1/\smK 100 x.2.1.1/\smK 100 x.2.2.1;rw[show x.1=liftM n0 from h.1,show x.2.1.1=liftM g0 from h.2.1,show x.2.2.1=liftM b0 from h.2.2];exact⟨a7D,b1d,b6d⟩) (fun x (h:(show MR from x.1)=_/\(show MR from x.2.1.1)=_/\(show MR from x.2.2.1)=_)=>by show _=zO x.1 x.2.1.1 x.2.2.1;rw[show x.1=liftM n0 from h.1,show x.2.1.1=liftM g0 from h.2.1,show x.2.2.1=liftM b0 from h.2.2];exact c3v.symm)
def c4F:Ctr:=⟨[],[tB],fun _=>True,fun _=>(true,())⟩
theorem a1G:aY Tryz.prog 9 c4F:=by
 refine bH (((((((((((nil0.ad XJ).ad FN).ad ZA).ad a2Q).ad UW).ad UL).ad b6a).ad b2o).ad b0y).ad b3h).ad b0D) ⟨[2],[],[]⟩ Tryz.func9 rfl (by decide) (fun x=>[]) (fun x hp=>?_)
 refine bP (let aV:=(Ty.list (Ty.lf Lf.rat));let A₀:=(List.map (fun(xs:Ty.den aV)=>List.map (fun(x:Ty.den (Ty.lf Lf.rat))=>dS x) xs) ((dD 1::dD (-1)::dD 0::aC Rat)::(dD (-1)::dD 2::dD (-1)::aC Rat)::(dD 0::dD (-1)::dD 1::aC Rat)::aC (List Rat)));let A₁:=(List.map (fun(xs:Ty.den aV)=>List.map (fun(x:Ty.den (Ty.lf Lf.rat))=>dS x) xs) ((dD 1::aC Rat)::(dD 1::aC Rat)::(dD 1::aC Rat)::aC (List Rat)));let A₂:=(List.map (fun(xs:Ty.den aV)=>List.map (fun(x:Ty.den (Ty.lf Lf.rat))=>dS x) xs) ((dD 1::aC Rat)::(dD 0::aC Rat)::(dD 0::aC Rat)::aC (List Rat)));((List.length (1::-1::0::aC Int)<=1000/\∀ (i:Int),i ∈ 1::-1::0::aC Int->gZ i)/\(List.length (-1::2::-1::aC Int)<=1000/\∀ (i:Int),i ∈ -1::2::-1::aC Int->gZ i)/\(List.length (0::-1::1::aC Int)<=1000/\∀ (i:Int),i ∈ 0::-1::1::aC Int->gZ i)/\True)/\((((True/\True/\True/\True)/\True)/\((True/\True/\True/\True)/\True)/\((True/\True/\True/\True)/\True)/\True)/\asT (List (List aF)) A₀=liftM n0/\True)/\((List.length (1::aC Int)<=1000/\∀ (i:Int),i ∈ 1::aC Int->gZ i)/\(List.length (0::aC Int)<=1000/\∀ (i:Int),i ∈ 0::aC Int->gZ i)/\(List.length (0::aC Int)<=1000/\∀ (i:Int),i ∈ 0::aC Int->gZ i)/\True)/\((List.length (1::0::-1::aC Int)<=1000/\∀ (i:Int),i ∈ 1::0::-1::aC Int->gZ i)/\(((True/\True/\True/\True)/\True)/\((True/\True/\True/\True)/\True)/\((True/\True/\True/\True)/\True)/\True)/\(((True/\True)/\True)/\((True/\True)/\True)/\((True/\True)/\True)/\True)/\(((True/\True)/\True)/\((True/\True)/\True)/\((True/\True)/\True)/\True)/\(True/\True/\True/\True)/\(asT (List (List aF)) A₀=liftM n0/\asT (List (List aF)) A₁=liftM g0/\asT (List (List aF)) A₂=liftM b0/\asT (List aF) (List.map (fun(x:Ty.den (Ty.lf Lf.rat))=>dS x) (dD 1::dD 0::dD (-1)::aC Rat))=a0a r0)/\True)/\((((True/\True/\True/\True)/\True)/\((True/\True/\True/\True)/\True)/\((True/\True/\True/\True)/\True)/\True)/\(((True/\True)/\True)/\((True/\True)/\True)/\((True/\True)/\True)/\True)/\(((True/\True)/\True)/\((True/\True)/\True)/\((True/\True)/\True)/\True)/\(asT (List (List aF)) A₀=liftM n0/\asT (List (List aF)) A₁=liftM g0/\asT (List (List aF)) A₂=liftM b0)/\True)/\((asT Bool true=true->asT Bool true=true/\True)/\(asT Bool true=true->asT Bool true=true)/\(asT Bool true=true->asT Bool true=true/\True)/\(asT Bool true=true->asT Bool true=true)/\(asT Bool true=true->asT Bool true=true/\True)/\(asT Bool true=true->asT Bool true=true/\(List.length (1::aC Int)<=1000/\∀ (i:Int),i ∈ 1::aC Int->gZ i)/\True)/\(asT Bool true=true->asT Bool true=true/\(List.length (1::aC Int)<=1000/\∀ (i:Int),i ∈ 1::aC Int->gZ i)/\True)/\(asT Bool true=true->asT Bool true=true/\(List.length (1::aC Int)<=1000/\∀ (i:Int),i ∈ 1::aC Int->gZ i)/\True)/\(asT Bool true=true->asT Bool true=true/\asT Bool true=true/\asT Bool true=true/\True)/\(asT Bool true=true->asT Bool true=true/\asT Bool true=true/\(oP ((dD 1::aC Rat)::(dD 1::aC Rat)::(dD 1::aC Rat)::aC (List Rat))/\oP ((dD 1::aC Rat)::(dD 1::aC Rat)::(dD 1::aC Rat)::aC (List Rat)))/\True)/\(asT Bool true=true->asT Bool true=true)/\(asT Bool true=true->asT Bool true=true/\(List.length (0::-1::-2::aC Int)<=1000/\∀ (i:Int),i ∈ 0::-1::-2::aC Int->gZ i)/\True)/\(asT Bool true=true->asT Bool true=true/\asT Bool true=true/\(szL (dD 0::dD (-1)::dD (-2)::aC Rat)/\szL (dD 0::dD (-1)::dD (-2)::aC Rat))/\True)/\(asT Bool true=true->asT Bool true=true)/\(asT Bool true=true->asT Bool true=true/\(List.length (0::0::0::aC Int)<=1000/\∀ (i:Int),i ∈ 0::0::0::aC Int->gZ i)/\True)/\(asT Bool true=true->asT Bool true=true/\(List.length (0::1::1::aC Int)<=1000/\∀ (i:Int),i ∈ 0::1::1::aC Int->gZ i)/\True)/\(asT Bool true=true->asT Bool true=true/\(List.length (0::1::2::aC Int)<=1000/\∀ (i:Int),i ∈ 0::1::2::aC Int->gZ i)/\True)/\(asT Bool true=true->asT Bool true=true/\asT Bool true=true/\asT Bool true=true/\True)/\(asT Bool true=true->asT Bool true=true/\asT Bool true=true/\(oP ((dD 0::dD 0::dD 0::aC Rat)::(dD 0::dD 1::dD 1::aC Rat)::(dD 0::dD 1::dD 2::aC Rat)::aC (List Rat))/\oP ((dD 0::dD 0::dD 0::aC Rat)::(dD 0::dD 1::dD 1::aC Rat)::(dD 0::dD 1::dD 2::aC Rat)::aC (List Rat)))/\True)/\(asT Bool true=true->asT Bool true=true)/\(asT Bool true=true->asT Bool true=true/\asT Bool true=true/\(((True/\True/\True/\True)/\True)/\((True/\True/\True/\True)/\True)/\((True/\True/\True/\True)/\True)/\True)/\(((True/\True)/\True)/\((True/\True)/\True)/\((True/\True)/\True)/\True)/\(asT (List (List aF)) A₀=liftM n0/\asT (List (List aF)) A₁=liftM g0)/\True)/\(asT Bool true=true->asT Bool true=true/\True)/\(asT Bool true=true->asT Bool true=true)/\True)/\True/\asT Bool (bif bif bif bif bif bif asT Int 0==0 then asT Int 0==0 else false then asT Int 0==0 else false then decide (asT (List (List Rat)) ((dD 1::aC Rat)::(dD 1::aC Rat)::(dD 1::aC Rat)::aC (List Rat))=(dD 1::aC Rat)::(dD 1::aC Rat)::(dD 1::aC Rat)::aC (List Rat)) else false then decide (asT (List Rat) (dD 0::dD (-1)::dD (-2)::aC Rat)=dD 0::dD (-1)::dD (-2)::aC Rat) else false then decide (asT (List (List Rat)) ((dD 0::dD 0::dD 0::aC Rat)::(dD 0::dD 1::dD 1::aC Rat)::(dD 0::dD 1::dD 2::aC Rat)::aC (List Rat))=(dD 0::dD 0::dD 0::aC Rat)::(dD 0::dD 1::dD 1::aC Rat)::(dD 0::dD 1::dD 2::aC Rat)::aC (List Rat)) else false then asT Int 0==0 else false)=true/\True) (by kernel_rfl) ?_
 have hw:∀ l:List Int,l.all (fun i=>decide (-2<=i)&&decide (i<=2))=true->∀ i ∈ l,gZ i:=fun l h i hi=>by
  have:=ql.mp h i hi
  rw[ak] at this
  have h1:=oz this.1
  have h2:=oz this.2
  unfold gZ;omega
 repeat' first
  |exact trivial
  |exact rfl
  |exact hw _ (by decide)
  | (unfold oP szL;decide +kernel)
  | (unfold szL;decide +kernel)
  | decide
  |apply And.intro
  |intro _
section
open Go Go.ChangeShapes Go.WideShapes Go.ChangeAt Go.RowKit Go.Joins
theorem own:ownKnob Tryz.prog.godebug=none:=by kernel_rfl
section
variable {H:Type} {enc:TypeId × Value->H} {W:World} {base:Nat}
end
end
end Go.Proofs.YtgplhbhfdgempaaGreat
