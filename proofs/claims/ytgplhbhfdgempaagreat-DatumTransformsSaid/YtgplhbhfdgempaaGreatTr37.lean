/-
  Lemmas for the theorem vtransforms_holds, part 37 of 39.
-/
import Derived.Lib.SmallJoins
import Derived.OpenShut
import Derived.Test.YtgplhbhfdgempaaGreatRows
import Derived.Test.YtgplhbhfdgempaaGreatTr34
import Derived.Test.YtgplhbhfdgempaaGreatTr36
namespace Go.Proofs.YtgplhbhfdgempaaGreat
open Go Go.RowKit
set_option maxRecDepth 100000
set_option maxHeartbeats 1000000
set_option linter.unusedVariables false
set_option linter.unusedSimpArgs false
def c3e:Ctr:=⟨[tR],[tI],fun x=>True,fun x=>(IntKind.wrap .i64 (((show aF from x.1).n:Int)+((show aF from x.1).m:Int)),())⟩
theorem b2K:aW Tryz.prog 86 c3e:=by
 refine bH nil0 ⟨[],[],[]⟩ Tryz.func86 rfl (by decide) (fun x=>[]) (fun x hp=>?_)
 obtain⟨q,u⟩:=x
 change aF at q
 refine bM (True/\IntKind.wrap IntKind.i64 (aB (aF.g q).length+aB (aF.h q).length)=IntKind.wrap IntKind.i64 (aB (aF.n q)+aB (aF.m q))/\True) (by kernel_rfl) ?_
 exact⟨trivial,rfl,trivial⟩
def lU (q:aF):Bool:=(decide (q.n<=1)&&decide (q.m<=1))&&((decide (q.n=0) || decide (q.g.getD 0 0<100000))&&(decide (q.m=0) || decide (q.h.getD 0 0<=100)))
def c2X:Ctr:=⟨[tR],[tB],fun x=>True,fun x=>(lU x.1,())⟩
theorem b2u:aW Tryz.prog 87 c2X:=by
 refine bH nil0 ⟨[],[],[]⟩ Tryz.func87 rfl (by decide) (fun x=>[]) (fun x hp=>?_)
 obtain⟨q,u⟩:=x
 change aF at q
 refine bM (let A₁:=(aF.g q).length;let aQ:=((aB A₁==0)==false);let bJ:=(decide (aB A₁ > 1)==false);let dJ:=(aF.h q).length;let dU:=(aB (List.getD (aF.g q) 0 0)<100000);let A₀:=(bif aB A₁==0 then true else decide dU);let A₂:=(A₀==true&&(aB dJ==0)==false);let dA:=((A₀==true)=true->(A₀==true)=true/\True);let fP:=(bJ=true->bJ=true/\True);let gQ:=(aQ=true->aQ=true/\True);let fQ:=(A₂=true->A₂=true/\True);(fP/\fP/\(decide (aB A₁ > 1)=false->bJ=true)/\True)/\ifB (bif decide (aB A₁ > 1) then true else decide (aB dJ > 1)) (True/\false=lU q/\True) (((aQ=true->aQ=true/\asT Int 0<=0/\0<aB A₁/\True)/\gQ/\gQ/\((aB A₁==0)=false->aQ=true)/\dA/\dA/\dA/\(A₂=true->A₂=true/\asT Int 0<=0/\0<aB dJ/\True)/\fQ/\fQ/\((A₀==true)=true->(A₀==true)=true/\((aB dJ==0)=false->A₂=true)/\True)/\(A₀=true->(A₀==true)=true)/\True)/\True/\(bif bif aB A₁==0 then true else decide dU then bif aB dJ==0 then true else decide (aB (List.getD (aF.h q) 0 0)<=100) else false)=lU q/\True)) (by kernel_rfl) ?_
 try simp only[aU,ay,au]
 try dsimp only[Ty.den,Lf.den,asT] at *
 try simp only[yX,yU,trF,yY]
 have hZ:(⟨false,0,[],[]⟩:aF)=cO:=rfl
 try dsimp only[aB,asT,aA,aC,Ty.den,Lf.den] at *
 try simp only[hZ,Int.toNat_natCast,aU,ay,au,ni,mg,aH,nameAt,aV,aS,bF,rowAt,iy,iq]
 try simp only[lD,List.all_cons,List.all_nil,xw,ny,uj,ji,vk,ne_eq,ak,qo,jv,ug,vg,Cm,zh,Dc,ni,mg,jJ,tu,qm,List.length_cons,List.length_nil]
 try simp only[wdF,kN,lI]
 have h01:∀ n:Nat,(¬ (n:Int) > 1)->decide ((n:Int) > 1)=false:=fun n h=>jy h
 have hd:∀ n:Nat,decide ((n:Int) > 1)=!decide (n<=1):=fun n=>by
  by_cases h:n<=1
  ·rw[pz h,jy (by omega)];rfl
  ·rw[jy h,pz (by omega)];rfl
 have hz:∀ n:Nat,(((n:Nat):Int)==0)=decide (n=0):=fun n=>by
  by_cases h:n=0
  ·rw[h];rfl
  ·rw[jy h];exact jv.mpr (by omega)
 refine⟨h01 _,fun h=>?_,fun h=>⟨⟨fun a=>⟨a,by omega,by omega⟩,fun a=>⟨a,by omega,by omega⟩,fun a=>⟨a,fun b=>⟨a,b⟩⟩⟩,?_⟩⟩
 ·rw[hd,hd] at h
  unfold lU
  have:(decide (q.n<=1)&&decide (q.m<=1))=false:=by
   rcases h with h|h
   ·rw[show decide (q.n<=1)=false by simpa using h];rfl
   ·rw[show decide (q.m<=1)=false by simpa using h,Bool.and_false]
  rw[this];rfl
 ·rw[hd,hd] at h
  unfold lU
  rw[show decide (q.n<=1)=true by simpa using h.1,show decide (q.m<=1)=true by simpa using h.2,hz,hz]
  rw[show decide (((q.g.getD 0 0:Nat):Int)<100000)=decide (q.g.getD 0 0<100000) from Bh.mpr (by omega),show decide (((q.h.getD 0 0:Nat):Int)<=100)=decide (q.h.getD 0 0<=100) from Bh.mpr (by omega)]
  cases (decide (q.g.length=0) || decide (q.g.getD 0 0<100000))<;>rfl
def brL (l:LR) (m:Nat):Bool:=decide (l.length<=m)&&l.all lU
theorem wU {q:aF} (h:lU q=true):q.n<=1/\q.m<=1:=by
 unfold lU at h
 rw[ak,ak] at h
 exact⟨ql h.1.1,ql h.1.2⟩
def c3q:Ctr:=⟨[.list tR,tI,tI],[tB],fun x=>(∃ m:Nat,(show Int from x.2.1)=m/\m<=1000)/\(show Int from x.2.2.1)=6,fun x=>(brL x.1 (show Int from x.2.1).toNat,())⟩
theorem a6A:aW Tryz.prog 48 c3q:=by
 refine bH ((nil0.ad b2K).ad b2u) ⟨[],[],[]⟩ Tryz.func48 rfl (by decide) (fun x=>[.inv {k:Nat // k<=(show LR from x.1).length/\((show LR from x.1).take k).all lU=true} (fun k=>[(7,.val tI (k.1:Int))]) (fun k=>[]) (fun k=>(show LR from x.1).length-k.1) ⟨0,by omega,rfl⟩ (fun _=>[])]) (fun x hp=>?_)
 obtain⟨l,m,k,u⟩:=x
 change List aF at l
 change Int at m
 change Int at k
 refine bM (let A₀:=(True/\false=brL l m.toNat/\True);ifB (decide (aB l.length > m)) A₀ ((asT Int 0=0/\True)/\∀ (i:{ k:Nat // k<=List.length l/\List.all (List.take k l) lU=true }),let aQ:=(List.getD l (aB (aA i)).toNat cO);let A₁:=(IntKind.wrap IntKind.i64 (aB (aF.n aQ)+aB (aF.m aQ)) > k);let A₂:=(decide A₁==false&&decide (k<=6)==true);let bJ:=((decide A₁==false)=true->(decide A₁==false)=true/\True);let dA:=(A₂=true->A₂=true/\True);asT Bool true=true/\ifB (decide (aB (aA i)<aB l.length)) ((0<=aB (aA i)/\aB (aA i)<aB l.length/\True/\bJ/\bJ/\(A₂=true->A₂=true/\A₂=true/\0<=aB (aA i)/\aB (aA i)<aB l.length/\True)/\dA/\(A₂=true->A₂=true/\True/\True)/\dA/\((decide A₁==false)=true->(decide A₁==false)=true/\(decide (k<=6)=true->A₂=true)/\True)/\(decide A₁=false->(decide A₁==false)=true)/\True)/\ifB (bif decide A₁ then true else bif decide (k<=6) then !lU aQ else false) A₀ (∃ (i':{ k:Nat // k<=List.length l/\List.all (List.take k l) lU=true }),List.length l-aA i'<List.length l-aA i/\IntKind.wrap IntKind.i64 (aB (aA i)+1)=aB (aA i')/\True)) (True/\true=brL l m.toNat/\True))) (by kernel_rfl) ?_
 try simp only[aU,ay,au]
 try dsimp only[Ty.den,Lf.den,asT] at *
 try simp only[yX,yU,trF,yY]
 have hZ:(⟨false,0,[],[]⟩:aF)=cO:=rfl
 try dsimp only[aB,asT,aA,aC,Ty.den,Lf.den] at *
 try simp only[hZ,Int.toNat_natCast,aU,ay,au,ni,mg,aH,nameAt,aV,aS,bF,rowAt,iy,iq]
 try simp only[lD,List.all_cons,List.all_nil,xw,ny,uj,ji,vk,ne_eq,ak,qo,jv,ug,vg,Cm,zh,Dc,ni,mg,jJ,tu,qm,List.length_cons,List.length_nil]
 try simp only[wdF,kN,lI]
 obtain⟨⟨M,hM,c4l⟩,hk⟩:=hp
 change m=(M:Int) at hM
 change k=6 at hk
 subst hM hk
 rw[Int.toNat_natCast]
 refine⟨fun h=>?_,fun h i=>⟨fun h1=>⟨⟨by omega,h1,fun a=>⟨a,a,by omega,h1⟩,fun a=>⟨a,fun b=>⟨a,pz b⟩⟩,fun a=>jy a⟩,fun h2=>?_,fun h2=>⟨⟨i.1+1,by omega,?_⟩,by simp only;omega,?_⟩⟩,fun h1=>?_⟩⟩
 ·unfold brL;rw[jy (by omega)];rfl
 ·have hi:i.1<l.length:=by omega
  have hb:lU (l.getD i.1 cO)=false:=by
   cases e:lU (l.getD i.1 cO)
   ·rfl
   ·exfalso
    rw[e] at h2
    obtain⟨n1,m1⟩:=wU e
    rcases h2 with h2|h2
    ·have h2:=ql h2
     rw[aZ (by omega) (by omega)] at h2
     omega
    ·exact absurd h2 (by decide)
  unfold brL
  rw[show l.all lU=false from List.all_eq_false.mpr ⟨l.getD i.1 cO,by rw[bf,dw hi];exact oh hi,by rw[hb];decide⟩,Bool.and_false]
 ·have hb:lU (l.getD i.1 cO)=true:=by
   have:=h2.2
   revert this
   cases lU (l.getD i.1 cO)<;>decide
  rw[QU (d:=cO) (by omega),i.2.2,hb];rfl
 ·rw[aZ (by omega) (by omega)];rfl
 ·have h3:=i.2.2
  rw[jd (by omega)] at h3
  unfold brL;rw[h3,pz (by omega)];rfl
def IB (a:MR):Bool:=decide (a.length<=7)&&a.all (fun r=>brL r 7)
def c3g:Ctr:=⟨[.list tMR],[tB],fun x=>(show ML from x.1).length<=100,fun x=>((show ML from x.1).all IB,())⟩
def c0Q:Ctr:=⟨[.list tR],[tB],fun x=>True,fun x=>(brL x.1 10,())⟩
theorem b2Q:aW Tryz.prog 10 c3g:=by
 refine bH (nil0.ad a6A) ⟨[],[],[]⟩ Tryz.func10 rfl (by decide) (fun x=>[.inv {k:Nat // k<=(show ML from x.1).length/\((show ML from x.1).take k).all IB=true} (fun k=>[(9,.val tI (k.1:Int))]) (fun k=>[]) (fun k=>(show ML from x.1).length-k.1) ⟨0,by omega,rfl⟩ (fun k=>[
  .inv {c:Nat // c<=((show ML from x.1).getD k.1 []).length/\(((show ML from x.1).getD k.1 []).take c).all (fun r=>brL r 7)=true} (fun c=>[(18,.val tI (c.1:Int))]) (fun c=>[]) (fun c=>((show ML from x.1).getD k.1 []).length-c.1) ⟨0,by omega,rfl⟩ (fun _=>[])])]) (fun x hp=>?_)
 obtain⟨x,u⟩:=x
 change List (List (List aF)) at x
 refine bM (let A₀:=(True/\false=List.all x IB/\True);(asT Int 0=0/\True)/\∀ (i:{ k:Nat // k<=List.length x/\List.all (List.take k x) IB=true }),let A₁:=(List.getD x (aA i) (aC (List aF)));let A₂:=(List.getD x (aB (aA i)).toNat (aC (List aF)));asT Bool true=true/\ifB (decide (aB (aA i)<aB x.length)) ((0<=aB (aA i)/\aB (aA i)<aB x.length/\True)/\ifB (decide (aB A₂.length > 7)) A₀ ((asT Int 0=0/\True)/\∀ (i_1:{ c:Nat // c<=List.length A₁/\(List.all (List.take c A₁) fun(r:List aF)=>brL r 7)=true }),asT Bool true=true/\ifB (decide (aB (aA i_1)<aB A₂.length)) ((0<=aB (aA i_1)/\aB (aA i_1)<aB A₂.length/\True)/\(((∃ (m:Nat),7=aB m/\m<=1000)/\asT Int 6=6)/\True)/\ifB (!brL (List.getD A₂ (aB (aA i_1)).toNat (aC aF)) 7) A₀ (∃ (i':{ c:Nat // c<=List.length A₁/\(List.all (List.take c A₁) fun(r:List aF)=>brL r 7)=true }),List.length A₁-aA i'<List.length A₁-aA i_1/\IntKind.wrap IntKind.i64 (aB (aA i_1)+1)=aB (aA i')/\True)) (∃ (i':{ k:Nat // k<=List.length x/\List.all (List.take k x) IB=true }),List.length x-aA i'<List.length x-aA i/\IntKind.wrap IntKind.i64 (aB (aA i)+1)=aB (aA i')/\True))) (True/\true=List.all x IB/\True)) (by kernel_rfl) ?_
 try simp only[aU,ay,au]
 try dsimp only[Ty.den,Lf.den,asT] at *
 try simp only[yX,yU,trF,yY]
 have hZ:(⟨false,0,[],[]⟩:aF)=cO:=rfl
 try dsimp only[aB,asT,aA,aC,Ty.den,Lf.den] at *
 try simp only[hZ,Int.toNat_natCast,aU,ay,au,ni,mg,aH,nameAt,aV,aS,bF,rowAt,iy,iq]
 try simp only[lD,List.all_cons,List.all_nil,xw,ny,uj,ji,vk,ne_eq,ak,qo,jv,ug,vg,Cm,zh,Dc,ni,mg,jJ,tu,qm,List.length_cons,List.length_nil]
 try simp only[wdF,kN,lI]
 have hp:x.length<=100:=hp
 refine fun i=>⟨fun h1=>⟨⟨by omega,h1⟩,fun h2=>?_,fun h2 c=>⟨fun h3=>⟨⟨by omega,h3⟩,⟨7,rfl,by omega⟩,fun h4=>?_,fun h4=>⟨⟨c.1+1,by omega,?_⟩,by simp only;omega,?_⟩⟩,fun h3=>⟨⟨i.1+1,by omega,?_⟩,by simp only;omega,?_⟩⟩⟩,fun h1=>?_⟩
 ·have hi:i.1<x.length:=by omega
  refine(List.all_eq_false.mpr ⟨x.getD i.1 [],by rw[bf,dw hi];exact oh hi,?_⟩).symm
  unfold IB;rw[jy (by omega),Bool.false_and];decide
 ·have hi:i.1<x.length:=by omega
  have hc:c.1<(x.getD i.1 []).length:=by omega
  refine(List.all_eq_false.mpr ⟨x.getD i.1 [],by rw[bf,dw hi];exact oh hi,?_⟩).symm
  unfold IB
  rw[show (x.getD i.1 []).all (fun r=>brL r 7)=false from List.all_eq_false.mpr ⟨(x.getD i.1 []).getD c.1 [],by rw[bf (l:=x.getD i.1 []),dw hc];exact oh hc,by rw[h4];decide⟩,Bool.and_false]
  decide
 ·rw[QU (d:=[]) (by omega),c.2.2]
  show (true&&brL ((x.getD i.1 []).getD c.1 []) 7)=true
  rw[h4];rfl
 ·rw[aZ (by omega) (by omega)];rfl
 ·rw[QU (d:=[]) (by omega),i.2.2]
  have h4:=c.2.2
  rw[jd (by omega)] at h4
  unfold IB;rw[h4,pz (by omega)];rfl
 ·rw[aZ (by omega) (by omega)];rfl
 ·have h3:=i.2.2
  rw[jd (by omega)] at h3
  exact h3.symm
theorem b0i:aW Tryz.prog 19 c0Q:=by
 refine bH (nil0.ad a6A) ⟨[],[],[]⟩ Tryz.func19 rfl (by decide) (fun x=>[]) (fun x hp=>?_)
 obtain⟨x,u⟩:=x
 change List aF at x
 refine bM ((((∃ (m:Nat),10=aB m/\m<=1000)/\asT Int 6=6)/\True)/\True/\brL x 10=brL x 10/\True) (by kernel_rfl) ?_
 try simp only[aU,ay,au]
 try dsimp only[Ty.den,Lf.den,asT] at *
 try simp only[yX,yU,trF,yY]
 have hZ:(⟨false,0,[],[]⟩:aF)=cO:=rfl
 try dsimp only[aB,asT,aA,aC,Ty.den,Lf.den] at *
 try simp only[hZ,Int.toNat_natCast,aU,ay,au,ni,mg,aH,nameAt,aV,aS,bF,rowAt,iy,iq]
 try simp only[lD,List.all_cons,List.all_nil,xw,ny,uj,ji,vk,ne_eq,ak,qo,jv,ug,vg,Cm,zh,Dc,ni,mg,jJ,tu,qm,List.length_cons,List.length_nil]
 try simp only[wdF,kN,lI]
 exact⟨10,rfl,by omega⟩
def c3w:Ctr:=⟨[.list tI],[.list tQ],fun x=>(show List Int from x.1).length<=1000/\∀ i ∈ (show List Int from x.1),iY i,fun x=>((show List Int from x.1).map (fun i=>eP i),())⟩
def c0T:Ctr:=⟨[.list tMR],[tI],fun x=>(show ML from x.1).length<=1000000/\∀ a ∈ (show ML from x.1),fV a,fun x=>(jC x.1,())⟩
theorem b4B:aW Tryz.prog 47 c3w:=by
 refine bH (nil0.ad a5f) ⟨[],[],[]⟩ Tryz.func47 rfl (by decide) (fun x=>[.inv {k:Nat // k<=(show List Int from x.1).length} (fun k=>[(9,.val tI (k.1:Int)),(3,.own 6 0),(6,.any)]) (fun k=>[(6,.row 64 tQ (((show List Int from x.1).take k.1).map (fun i=>eP i)) 0)]) (fun k=>(show List Int from x.1).length-k.1) ⟨0,by omega⟩ (fun _=>[])]) (fun x hp=>?_)
 obtain⟨x,u⟩:=x
 change List Int at x
 refine bM ((asT Int 0=0/\asT (List Rat) (aC Rat)=aC Rat/\True)/\∀ (i:{ k:Nat // k<=List.length x }),let A₀:=(fun(i:Int)=>eP i);let A₁:=(List.getD x (aB (aA i)).toNat 0);let A₂:=(List.take (aA i) x);asT Bool true=true/\ifB (decide (aB (aA i)<aB x.length)) ((0<=aB (aA i)/\aB (aA i)<aB x.length/\True)/\(iY A₁/\List.length (List.map A₀ A₂)+List.length (eP A₁::aC Rat)<=1000000000/\True)/\∃ (i':{ k:Nat // k<=List.length x }),List.length x-aA i'<List.length x-aA i/\IntKind.wrap IntKind.i64 (aB (aA i)+1)=aB (aA i')/\List.map A₀ A₂++eP A₁::aC Rat=List.map A₀ (List.take (aA i') x)/\True) (True/\List.map A₀ A₂=List.map A₀ x/\True)) (by kernel_rfl) ?_
 try simp only[aU,ay,au]
 try dsimp only[Ty.den,Lf.den,asT] at *
 try simp only[yX,yU,trF,yY]
 have hZ:(⟨false,0,[],[]⟩:aF)=cO:=rfl
 try dsimp only[aB,asT,aA,aC,Ty.den,Lf.den] at *
 try simp only[hZ,Int.toNat_natCast,aU,ay,au,ni,mg,aH,nameAt,aV,aS,bF,rowAt,iy,iq]
 try simp only[lD,List.all_cons,List.all_nil,xw,ny,uj,ji,vk,ne_eq,ak,qo,jv,ug,vg,Cm,zh,Dc,ni,mg,jJ,tu,qm,List.length_cons,List.length_nil]
 try simp only[wdF,kN,lI]
 have hp:x.length<=1000/\∀ i ∈ x,iY i:=hp
 refine fun i=>⟨fun h1=>⟨⟨by omega,h1⟩,⟨eX hp.2 (by omega),by rw[qw,jm];omega⟩,⟨i.1+1,by omega⟩,by simp only;omega,by rw[aZ (by omega) (by omega)];rfl,?_⟩,fun h1=>by rw[jd (by omega)]⟩
 have hi:i.1<x.length:=by omega
 show _=List.map (fun i=>eP i) (List.take (i.1+1) x)
 rw[Ba,List.map_append,dw hi,bf,dw hi];rfl
theorem a2y:aW Tryz.prog 12 c0T:=by
 refine bH (nil0.ad b0X) ⟨[],[],[]⟩ Tryz.func12 rfl (by decide) (fun x=>[.inv {k:Nat // k<=(show ML from x.1).length/\((show ML from x.1).take k).any (fun a=>dK a != 0)=false} (fun k=>[(7,.val tI (k.1:Int))]) (fun k=>[]) (fun k=>(show ML from x.1).length-k.1) ⟨0,by omega,rfl⟩ (fun _=>[])]) (fun x hp=>?_)
 obtain⟨x,u⟩:=x
 change List (List (List aF)) at x
 refine bM ((asT Int 0=0/\True)/\∀ (i:{ k:Nat // k<=List.length x/\(List.any (List.take k x) fun(a:List (List aF))=>dK a != 0)=false }),asT Bool true=true/\ifB (decide (aB (aA i)<aB x.length)) ((0<=aB (aA i)/\aB (aA i)<aB x.length/\True)/\(fV (List.getD x (aB (aA i)).toNat (aC (List aF)))/\True)/\ifB (dK (List.getD x (aB (aA i)).toNat (aC (List aF))) != 0) (True/\1=jC x/\True) (∃ (i':{ k:Nat // k<=List.length x/\(List.any (List.take k x) fun(a:List (List aF))=>dK a != 0)=false }),List.length x-aA i'<List.length x-aA i/\IntKind.wrap IntKind.i64 (aB (aA i)+1)=aB (aA i')/\True)) (True/\0=jC x/\True)) (by kernel_rfl) ?_
 try simp only[aU,ay,au]
 try dsimp only[Ty.den,Lf.den,asT] at *
 try simp only[yX,yU,trF,yY]
 have hZ:(⟨false,0,[],[]⟩:aF)=cO:=rfl
 try dsimp only[aB,asT,aA,aC,Ty.den,Lf.den] at *
 try simp only[hZ,Int.toNat_natCast,aU,ay,au,ni,mg,aH,nameAt,aV,aS,bF,rowAt,iy,iq]
 try simp only[lD,List.all_cons,List.all_nil,xw,ny,uj,ji,vk,ne_eq,ak,qo,jv,ug,vg,Cm,zh,Dc,ni,mg,jJ,tu,qm,List.length_cons,List.length_nil]
 try simp only[wdF,kN,lI]
 have hp:x.length<=1000000/\∀ a ∈ x,fV a:=hp
 obtain⟨hl,hb⟩:=hp
 refine fun i=>⟨fun h1=>⟨⟨by omega,h1⟩,eX hb (by omega),fun h2=>?_,fun h2=>⟨⟨i.1+1,by omega,?_⟩,by simp only;omega,?_⟩⟩,fun h1=>?_⟩
 ·have hi:i.1<x.length:=by omega
  have h3:x.any (fun a=>dK a != 0)=true:=yc.mpr ⟨x.getD i.1 [],by rw[bf,dw hi];exact oh hi,vk.mpr h2⟩
  unfold jC;rw[h3];rfl
 ·rw[lQ (d:=[]) (by omega),i.2.2,h2];rfl
 ·rw[aZ (by omega) (by omega)];rfl
 ·have h3:=i.2.2
  rw[jd (by omega)] at h3
  unfold jC;rw[h3];rfl
theorem b4a {a:MQ} {n:Nat} (h:isM a n n):jF a=decide (rkM a=a.length):=by
 have h1:=(iL n (ent a) n).inj
 have h2:=a2O h
 have h3:rkM a=(red n (ent a) n).2.length:=h.rk
 cases e:jF a
 ·refine(jy fun h4=>?_).symm
  rw[h3,h.len] at h4
  have:=h2.mpr (h1.mp h4)
  rw[e] at this;cases this
 ·refine(pz ?_).symm
  rw[h3,h.len]
  exact h1.mpr (h2.mp e)
def c3o:Ctr:=⟨[tM,tM],[tB],fun x=>vN x.1 x.2.1,fun x=>(jF (bgM x.1 x.2.1),())⟩
theorem b3X:aW Tryz.prog 37 c3o:=by
 refine bH (((nil0.ad FD).ad a0R).ad a8a) ⟨[],[],[]⟩ Tryz.func37 rfl (by decide) (fun x=>[]) (fun x hp=>?_)
 obtain⟨g,b,u⟩:=x
 change List (List Rat) at g
 change List (List Rat) at b
 refine bM ((okM b/\(okM (trM b)/\okM g/\wdM (trM b)=List.length g/\szM (trM b) 1000000/\szM g 1000000)/\True)/\(okE (mulM (trM b) g)/\True)/\True/\(aB (rkM (mulM (trM b) g))==aB (mulM (trM b) g).length)=jF (bgM g b)/\True) (by kernel_rfl) ?_
 try simp only[aU,ay,au]
 try dsimp only[Ty.den,Lf.den,asT] at *
 try simp only[yX,yU,trF,yY]
 have hZ:(⟨false,0,[],[]⟩:aF)=cO:=rfl
 try dsimp only[aB,asT,aA,aC,Ty.den,Lf.den] at *
 try simp only[hZ,Int.toNat_natCast,aU,ay,au,ni,mg,aH,nameAt,aV,aS,bF,rowAt,iy,iq]
 try simp only[lD,List.all_cons,List.all_nil,xw,ny,uj,ji,vk,ne_eq,ak,qo,jv,ug,vg,Cm,zh,Dc,ni,mg,jJ,tu,qm,List.length_cons,List.length_nil]
 try simp only[wdF,kN,lI]
 have F:=WG (show vN g b from hp)
 rw[show mulM (trM b) g=bgM g b from rfl]
 refine⟨⟨F.b2.ok F.b1 (by omega),F.t2.ok F.t1 (by omega),F.g2.ok F.g1 (by omega),F.t1.wd,F.t2.sz (by omega),F.g2.sz (by omega)⟩,MZ F.m1 F.c7 F.m2 (by omega),?_⟩
 rw[b4a F.m1]
 cases e:decide (rkM (bgM g b)=List.length (bgM g b))
 ·have:=Ai e
  exact jv.mpr (by omega)
 ·have:=ql e
  rw[this];exact beq_self_eq_true _
def c3p:Ctr:=⟨[tM,tM],[tM],fun x=>vN x.1 x.2.1/\jF (bgM x.1 x.2.1)=true,fun x=>(sM x.1 x.2.1,())⟩
theorem b4k:aW Tryz.prog 38 c3p:=by
 refine bH ((((((nil0.ad a5f).an b1f).ad b1q).ad FD).ad a0R).ad b1g) ⟨[],[],[]⟩ Tryz.func38 rfl (by decide) (fun x=>[]) (fun x hp=>?_)
 obtain⟨g,b,u⟩:=x
 change List (List Rat) at g
 change List (List Rat) at b
 refine bM (let A₀:=(AA (mulM (trM b) g)).1;let A₁:=(idM (aB g.length).toNat);let A₂:=(mulM g (mulM A₀ (trM b)));let aQ:=(List.length (mulM (trM b) g)+List.length (mulM (trM b) g));let bJ:=(mulM (trM b) g).length;(okM b/\True)/\((okM (trM b)/\okM g/\wdM (trM b)=List.length g/\szM (trM b) 1000000/\szM g 1000000)/\(okM (mulM (trM b) g)/\wdM (mulM (trM b) g)=List.length (mulM (trM b) g)/\List.length (mulM (trM b) g)<=32/\zA bJ aQ (gG bJ (ent (mulM (trM b) g)) idm) aQ)/\True)/\((0<=aB g.length/\aB g.length<=1000)/\(okM A₀/\okM (trM b)/\wdM A₀=List.length (trM b)/\szM A₀ 1000000/\szM (trM b) 1000000)/\(okM g/\okM (mulM A₀ (trM b))/\wdM g=List.length (mulM A₀ (trM b))/\szM g 1000000/\szM (mulM A₀ (trM b)) 1000000)/\iY (-1)/\(okM A₁/\okM A₂/\List.length A₁=List.length A₂/\wdM A₁=wdM A₂/\rsz (eP (-1))<=1000)/\True)/\True/\b4p A₁ A₂ (eP (-1))=sM g b/\True) (by kernel_rfl) ?_
 try simp only[aU,ay,au]
 try dsimp only[Ty.den,Lf.den,asT] at *
 try simp only[yX,yU,trF,yY]
 have hZ:(⟨false,0,[],[]⟩:aF)=cO:=rfl
 try dsimp only[aB,asT,aA,aC,Ty.den,Lf.den] at *
 try simp only[hZ,Int.toNat_natCast,aU,ay,au,ni,mg,aH,nameAt,aV,aS,bF,rowAt,iy,iq]
 try simp only[lD,List.all_cons,List.all_nil,xw,ny,uj,ji,vk,ne_eq,ak,qo,jv,ug,vg,Cm,zh,Dc,ni,mg,jJ,tu,qm,List.length_cons,List.length_nil]
 try simp only[wdF,kN,lI]
 obtain⟨hP,hR⟩:=hp
 change vN g b at hP
 change jF (bgM g b)=true at hR
 have F:=WG hP
 rw[show mulM (trM b) g=bgM g b from rfl]
 have l1:=F.m1.len
 have w1:=F.m1.wd
 have hg:=F.g1.2.2.1
 have h64:=F.n7
 have h7:=F.c7
 have e2:AA (bgM g b)=(lZ (bgM g b),true,()):=by unfold AA;rw[hR];rfl
 rw[e2]
 have dI:=yS hg (show g.length<=64 by omega)
 refine⟨F.b2.ok F.b1 (by omega),⟨⟨F.t2.ok F.t1 (by omega),F.g2.ok F.g1 (by omega),F.t1.wd,F.t2.sz (by omega),F.g2.sz (by omega)⟩,F.m2.ok F.m1 (by omega),by rw[l1,w1],by omega,?_⟩,⟨⟨by omega,by omega⟩,⟨F.i2.ok F.i1 (by omega),F.t2.ok F.t1 (by omega),F.i1.wd.trans F.t1.len.symm,F.i2.sz (by omega),F.t2.sz (by omega)⟩,⟨F.g2.ok F.g1 (by omega),F.p2.ok F.p1 (by omega),F.p1.len.symm,F.g2.sz (by omega),F.p2.sz (by omega)⟩,by unfold iY;omega,(QL hg).ok dI (by omega),F.q2.ok F.q1 (by omega),?_,?_,by decide +kernel⟩,?_⟩
 ·rw[l1]
  have h3:2 ^ (wdM g+wdM g)<=2 ^ 14:=wz (by omega) (by omega)
  have h4:2 ^ (wdM g+wdM g)*(207+1+1)<=2 ^ 14*209:=uf h3 (aj _)
  exact KO (F.m2.CS F.m1) (by omega) (by omega)
 ·rw[F.q1.len];exact dI.len
 ·rw[F.q1.wd];exact dI.wd
 ·unfold sM VB b4p
  refine fB fun i hi j hj=>?_
  show ent (idM g.length) i j+(((-1:Int):Rat))*_=ent (idM g.length) i j-_
  rw[show (((-1:Int):Rat))=-1 from rfl];grind
def n0:MQ:=[[eP 1,eP (-1),eP 0],[eP (-1),eP 2,eP (-1)],[eP 0,eP (-1),eP 1]]
def g0:MQ:=[[eP 1],[eP 1],[eP 1]]
def b0:MQ:=[[eP 1],[eP 0],[eP 0]]
def r0:LQ':=[eP 1,eP 0,eP (-1)]
def y0:LQ':=[eP 0,eP (-1),eP (-2)]
def c0:MQ:=[[eP 0,eP 0,eP 0],[eP 0,eP 1,eP 1],[eP 0,eP 1,eP 2]]
abbrev xJ (l:LQ'):LR:=List.map (fun x=>eU x) l
theorem c1W:AV (liftM n0)=((g0,()),0,()):=by decide +kernel
theorem c1T:RF (liftM n0) (liftM g0)=0:=by decide +kernel
theorem c1X:sV (liftM n0) (liftM g0) (liftM b0) (xJ r0)=(y0,0,()):=by decide +kernel
theorem c1V:JJ (liftM n0) (liftM g0) (liftM b0)=(c0,0,()):=by decide +kernel
theorem JL {P:Program} {f:FuncId} {c:Ctr} (h:aW P f c) {pre:(nest c.args).den->Prop} {fn:(nest c.args).den->(nest c.res).den} (h1:∀ x,pre x->c.pre x) (h2:∀ x,pre x->fn x=c.fn x):aW P f ⟨c.args,c.res,pre,fn⟩:=fun F w vs x a b hp=>by
 have t:=h F w vs x a b (h1 x hp)
 rw[<-h2 x hp] at t
 exact t
theorem b1D {a:MQ} {K:Nat} (h:okM a) (h7:a.length<=7) (w7:wdM a<=7) (C:CdM a K):smK K (liftM a):=⟨h.short,fun _=>by rw[XT,a2r,b3x];exact⟨h7,w7,C⟩⟩
theorem a0Z {a:MQ} {R C K:Nat} (h:isM a R C) (h7:R<=7) (w7:C<=7) (hs:szM a 1) (hK:58<=K):smK K (liftM a):=by
 have h1:=a8t h hs
 have h2:R*(C+1)<=7*8:=uf h7 (by omega)
 have h3:CdM a K:=h1.mono (by omega)
 exact b1D (CdM.ok h1 h (by omega)) (by rw[h.len];exact h7) (by rw[h.wd];exact w7) h3
theorem a0u {a:MQ} {R C:Nat} (h:decide (a.length=R/\a.all (fun r=>r.length==C)=true/\1<=R/\R<=64/\1<=C/\C<=64)=true):isM a R C:=by
 have h:=ql h
 exact⟨h.1,fun r hr=>by simpa using xk.mp h.2.1 r hr,h.2.2⟩
theorem a6a:smK 100 (liftM n0):=a0Z (R:=3) (C:=3) (a0u (by decide +kernel)) (by omega) (by omega) (by unfold szM;decide +kernel) (by omega)
theorem a9u:smK 100 (liftM g0):=a0Z (R:=3) (C:=1) (a0u (by decide +kernel)) (by omega) (by omega) (by unfold szM;decide +kernel) (by omega)
theorem b4E:smK 100 (liftM b0):=a0Z (R:=3) (C:=1) (a0u (by decide +kernel)) (by omega) (by omega) (by unfold szM;decide +kernel) (by omega)
theorem smK.mono {K L:Nat} {a:MR} (H:smK K a) (h:K<=L):smK L a:=⟨H.1,fun c=>⟨(H.2 c).1,(H.2 c).2.1,(H.2 c).2.2.mono h⟩⟩
theorem c2h:smL 1 (xJ r0):=⟨⟨by decide +kernel,by unfold sU;decide +kernel⟩,fun _=>by decide +kernel⟩
def c0V:Ctr:=⟨[tMR],[.pair tM .unit,tI],fun x=>(show MR from x.1)=liftM n0,fun _=>((g0,()),(0:Int),())⟩
def c0y:Ctr:=⟨[tMR,.pair tMR .unit],[tI],fun x=>(show MR from x.1)=liftM n0/\(show MR from x.2.1.1)=liftM g0,fun _=>((0:Int),())⟩
def c1d:Ctr:=⟨[tMR,.pair tMR .unit,tMR,.list tR],[.list tQ,tI],fun x=>(show MR from x.1)=liftM n0/\(show MR from x.2.1.1)=liftM g0/\(show MR from x.2.2.1)=liftM b0/\(show LR from x.2.2.2.1)=xJ r0,fun _=>(y0,(0:Int),())⟩
def c0A:Ctr:=⟨[tMR,.pair tMR .unit,tMR],[tM,tI],fun x=>(show MR from x.1)=liftM n0/\(show MR from x.2.1.1)=liftM g0/\(show MR from x.2.2.1)=liftM b0,fun _=>(c0,(0:Int),())⟩
theorem b0F:aW Tryz.prog 11 c0V:=JL (c:=a8E) WV (fun x (h:(show MR from x.1)=_)=>by show smK 100 x.1;rw[show x.1=liftM n0 from h];exact a6a) (fun x (h:(show MR from x.1)=_)=>by show _=AV x.1;rw[show x.1=liftM n0 from h];exact c1W.symm)
theorem a8O:aW Tryz.prog 18 c0y:=JL (c:=b4G) a1E (fun x (h:(show MR from x.1)=_/\(show MR from x.2.1.1)=_)=>by show smK 100 x.1/\smK 13000 x.2.1.1;rw[show x.1=liftM n0 from h.1,show x.2.1.1=liftM g0 from h.2];exact⟨a6a,a9u.mono (by omega)⟩) (fun x (h:(show MR from x.1)=_/\(show MR from x.2.1.1)=_)=>by show _=(RF x.1 x.2.1.1,());rw[show x.1=liftM n0 from h.1,show x.2.1.1=liftM g0 from h.2,c1T];rfl)
theorem b1G:aW Tryz.prog 20 c1d:=JL (c:=b4I) a1I (fun x (h:(show MR from x.1)=_/\(show MR from x.2.1.1)=_/\(show MR from x.2.2.1)=_/\(show LR from x.2.2.2.1)=_)=>by show b9G x.1 x.2.1.1 x.2.2.1 x.2.2.2.1;rw[show x.1=liftM n0 from h.1,show x.2.1.1=liftM g0 from h.2.1,show x.2.2.1=liftM b0 from h.2.2.1,show x.2.2.2.1=xJ r0 from h.2.2.2];exact⟨a6a,a9u,b4E,c2h⟩) (fun x (h:(show MR from x.1)=_/\(show MR from x.2.1.1)=_/\(show MR from x.2.2.1)=_/\(show LR from x.2.2.2.1)=_)=>by show _=sV x.1 x.2.1.1 x.2.2.1 x.2.2.2.1;rw[show x.1=liftM n0 from h.1,show x.2.1.1=liftM g0 from h.2.1,show x.2.2.1=liftM b0 from h.2.2.1,show x.2.2.2.1=xJ r0 from h.2.2.2];exact c1X.symm)
theorem a8V:aW Tryz.prog 24 c0A:=JL (c:=b4H) a1F (fun x (h:(show MR from x.1)=_/\(show MR from x.2.1.1)=_/\(show MR from x.2.2.1)=_)=>by show smK 100 x.1/\smK 100 x.2.1.1/\smK 100 x.2.2.1;rw[show x.1=liftM n0 from h.1,show x.2.1.1=liftM g0 from h.2.1,show x.2.2.1=liftM b0 from h.2.2];exact⟨a6a,a9u,b4E⟩) (fun x (h:(show MR from x.1)=_/\(show MR from x.2.1.1)=_/\(show MR from x.2.2.1)=_)=>by show _=JJ x.1 x.2.1.1 x.2.2.1;rw[show x.1=liftM n0 from h.1,show x.2.1.1=liftM g0 from h.2.1,show x.2.2.1=liftM b0 from h.2.2];exact c1V.symm)
def c3n:Ctr:=⟨[],[tB],fun _=>True,fun _=>(true,())⟩
theorem b3k:aW Tryz.prog 9 c3n:=by
 refine bH (((((((((((nil0.ad UW).ad a2V).ad WV).ad a1E).ad a1I).ad a1F).ad b4B).ad b0F).ad a8O).ad b1G).ad a8V) ⟨[2],[],[]⟩ Tryz.func9 rfl (by decide) (fun x=>[]) (fun x hp=>?_)
 refine bM (let A₂:=((eP 1::aC Rat)::(eP 1::aC Rat)::(eP 1::aC Rat)::aC (List Rat));let aQ:=((True/\True/\True/\True)/\True);let dU:=(asT Bool true=true->asT Bool true=true);let fP:=(asT Bool true=true->asT Bool true=true/\True);let fQ:=(asT Bool true=true->asT Bool true=true/\asT Bool true=true/\asT Bool true=true/\True);let jU:=(eP 0::eP (-1)::eP (-2)::aC Rat);let jX:=(List.length (1::aC Int)<=1000/\∀ (i:Int),i ∈ 1::aC Int->iY i);let dJ:=(asT Bool true=true->asT Bool true=true/\jX/\True);let oK:=(List.length (0::aC Int)<=1000/\∀ (i:Int),i ∈ 0::aC Int->iY i);let kU:=(fun(x:Ty.den (Ty.lf Lf.rat))=>eU x);let A₁:=(fun(xs:Ty.den (Ty.list (Ty.lf Lf.rat)))=>List.map kU xs);let A₀:=(List.map A₁ ((eP 1::eP (-1)::eP 0::aC Rat)::(eP (-1)::eP 2::eP (-1)::aC Rat)::(eP 0::eP (-1)::eP 1::aC Rat)::aC (List Rat)));let gQ:=(List.map A₁ ((eP 1::aC Rat)::(eP 0::aC Rat)::(eP 0::aC Rat)::aC (List Rat)));let pI:=((True/\True)/\True);let bJ:=(pI/\pI/\pI/\True);let qI:=(eP 0::eP 0::eP 0::aC Rat);let nS:=(eP 0::eP 1::eP 1::aC Rat);let fU:=(eP 0::eP 1::eP 2::aC Rat);let dA:=(qI::nS::fU::aC (List Rat));((List.length (1::-1::0::aC Int)<=1000/\∀ (i:Int),i ∈ 1::-1::0::aC Int->iY i)/\(List.length (-1::2::-1::aC Int)<=1000/\∀ (i:Int),i ∈ -1::2::-1::aC Int->iY i)/\(List.length (0::-1::1::aC Int)<=1000/\∀ (i:Int),i ∈ 0::-1::1::aC Int->iY i)/\True)/\((aQ/\aQ/\aQ/\True)/\asT (List (List aF)) A₀=liftM n0/\True)/\(jX/\oK/\oK/\True)/\((List.length (1::0::-1::aC Int)<=1000/\∀ (i:Int),i ∈ 1::0::-1::aC Int->iY i)/\(aQ/\aQ/\aQ/\True)/\bJ/\bJ/\(True/\True/\True/\True)/\(asT (List (List aF)) A₀=liftM n0/\asT (List (List aF)) (List.map A₁ A₂)=liftM g0/\asT (List (List aF)) gQ=liftM b0/\asT (List aF) (List.map kU (eP 1::eP 0::eP (-1)::aC Rat))=xJ r0)/\True)/\((aQ/\aQ/\aQ/\True)/\bJ/\bJ/\(asT (List (List aF)) A₀=liftM n0/\asT (List (List aF)) (List.map A₁ A₂)=liftM g0/\asT (List (List aF)) gQ=liftM b0)/\True)/\(fP/\dU/\fP/\dU/\fP/\dJ/\dJ/\dJ/\fQ/\(asT Bool true=true->asT Bool true=true/\asT Bool true=true/\(IZ A₂/\IZ A₂)/\True)/\dU/\(asT Bool true=true->asT Bool true=true/\(List.length (0::-1::-2::aC Int)<=1000/\∀ (i:Int),i ∈ 0::-1::-2::aC Int->iY i)/\True)/\(asT Bool true=true->asT Bool true=true/\asT Bool true=true/\(szL jU/\szL jU)/\True)/\dU/\(asT Bool true=true->asT Bool true=true/\(List.length (0::0::0::aC Int)<=1000/\∀ (i:Int),i ∈ 0::0::0::aC Int->iY i)/\True)/\(asT Bool true=true->asT Bool true=true/\(List.length (0::1::1::aC Int)<=1000/\∀ (i:Int),i ∈ 0::1::1::aC Int->iY i)/\True)/\(asT Bool true=true->asT Bool true=true/\(List.length (0::1::2::aC Int)<=1000/\∀ (i:Int),i ∈ 0::1::2::aC Int->iY i)/\True)/\fQ/\(asT Bool true=true->asT Bool true=true/\asT Bool true=true/\(IZ dA/\IZ dA)/\True)/\dU/\(asT Bool true=true->asT Bool true=true/\asT Bool true=true/\(aQ/\aQ/\aQ/\True)/\bJ/\(asT (List (List aF)) A₀=liftM n0/\asT (List (List aF)) (List.map A₁ A₂)=liftM g0)/\True)/\fP/\dU/\True)/\True/\asT Bool (bif bif bif bif bif bif asT Int 0==0 then asT Int 0==0 else false then asT Int 0==0 else false then decide (asT (List (List Rat)) A₂=(eP 1::aC Rat)::(eP 1::aC Rat)::(eP 1::aC Rat)::aC (List Rat)) else false then decide (asT (List Rat) jU=eP 0::eP (-1)::eP (-2)::aC Rat) else false then decide (asT (List (List Rat)) dA=qI::nS::fU::aC (List Rat)) else false then asT Int 0==0 else false)=true/\True) (by kernel_rfl) ?_
 have hw:∀ l:List Int,l.all (fun i=>decide (-2<=i)&&decide (i<=2))=true->∀ i ∈ l,iY i:=fun l h i hi=>by
  have:=xk.mp h i hi
  rw[ak] at this
  have h1:=ql this.1
  have h2:=ql this.2
  unfold iY;omega
 repeat' first
  |exact trivial
  |exact rfl
  |exact hw _ (by decide)
  | (unfold IZ szL;decide +kernel)
  | (unfold szL;decide +kernel)
  | decide
  |apply And.intro
  |intro _
section
open Go Go.ChangeShapes Go.WideShapes Go.ChangeAt Go.RowKit Go.Joins
theorem own:ownKnob Tryz.prog.godebug=none:=by kernel_rfl
section
variable {H:Type} {enc:TypeId × Value->H} {W:World} {base:Nat}
end
end
end Go.Proofs.YtgplhbhfdgempaaGreat
