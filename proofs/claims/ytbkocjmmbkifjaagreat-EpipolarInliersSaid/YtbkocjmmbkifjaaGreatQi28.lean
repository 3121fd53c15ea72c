/-
  Lemmas for the theorem vinliers_holds, part 28 of 32.
-/
import Derived.Test.YtbkocjmmbkifjaaGreatQi27
namespace Go.Proofs.YtbkocjmmbkifjaaGreat
open Go Go.RowKit
set_option maxRecDepth 100000
set_option maxHeartbeats 1000000
set_option linter.unusedVariables false
set_option linter.unusedSimpArgs false
def nzQ (q:aF):Bool:=decide (q.x≠0)
def smQ (q:aF):Prop:=q.n<=1/\q.m<=1/\(q.ok=true->rsz q.x<=1)
def okQ (q:aF):Prop:=q.ok=true/\rsz q.x<=1
def JO (f:MR):Prop:=f.length<=4/\∀ r ∈ f,r.length<=4/\∀ q ∈ r,smQ q
theorem b7R (x:Rat):(sgn x.num != 0)=decide (x≠0):=by
 by_cases h:x=0
 ·subst h;rfl
 ·rw[xk h,qo]
  exact QU fun e=>h (Rat.num_eq_zero.mp e)
theorem b9H (x:Rat):(sgn x.num=0)↔x=0:=⟨fun h=>Rat.num_eq_zero.mp (Du.1 h),fun h=>by rw[h];rfl⟩
theorem LX {α:Type} {K:Nat}:∀ {x:List (List α)},(∀ r ∈ x,r.length<=K)->x.flatten.length<=K*x.length
 | [],_=>by simp
 | r::x,h=>by
  have h1:=h r (jl ..)
  have h2:=LX fun s hs=>h s (iy _ hs)
  rw[List.flatten_cons,dw,List.length_cons,Nat.mul_succ]
  omega
theorem IJ {α:Type} {x:List (List α)} {i:Nat} (hi:i<x.length):(x.take (i+1)).flatten=(x.take i).flatten++x.getD i []:=by
 rw[Dq,List.flatten_append,dh,dn hi];simp
noncomputable def c0y:Ctr:=⟨[tR],[tB],fun x=>okQ x.1,fun x=>(nzQ x.1,())⟩
theorem a4V:aT Tryz.prog 168 c0y:=by
 refine bY (nil0.ad b0t) ⟨[],[],[]⟩ Tryz.func168 rfl (by decide) (fun x=>[]) (fun x hp=>?_)
 obtain⟨q,u⟩:=x
 change aF at q
 refine dM ((aF.ok q=true/\rsz (aF.x q)<=1000000000/\True)/\True/\(sgn (Rat.num (aF.x q)) != 0)=nzQ q/\True) (by kernel_rfl) ?_
 have hZ:(⟨false,0,[],[]⟩:aF)=cZ:=rfl
 try simp only[aQ,ay,au]
 try dsimp only[aB,asT,aA,aP,Ty.den,Lf.den] at *
 try simp only[hZ,Int.toNat_natCast,aQ,ay,au,og,ny,jg,jf]
 try simp only[iH,iG,List.all_cons,List.all_nil,qh,jc,jr,je,qo,ne_eq,aj,jo,jm,jv,oh,yw,qp,yx,og,ny,lg,ji,List.length_cons,List.length_nil]
 exact⟨⟨hp.1,iq hp.2 (by omega)⟩,b7R _⟩
noncomputable def b8G:Ctr:=⟨[.list tR,.clo 168 .unit],[tI],fun x=>(show List (aF) from x.1).length<=1000000/\∀ q ∈ (show List (aF) from x.1),okQ q,fun x=>(mY nzQ (show List (aF) from x.1),())⟩
theorem a8j:aT Tryz.prog 211 b8G:=by
 refine bY (nil0.ad a4V) ⟨[],[],[]⟩ Tryz.func211 rfl (by decide) (fun x=>[.inv {k:Nat // k<=(show List (aF) from x.1).length/\((show List (aF) from x.1).take k).any nzQ=false} (fun k=>[(8,.val tI (k.1:Int))]) (fun k=>[]) (fun k=>(show List (aF) from x.1).length-k.1) ⟨0,by omega,rfl⟩ (fun _=>[])]) (fun x hp=>?_)
 obtain⟨x,c,u⟩:=x
 change List (aF) at x
 change Unit at c
 refine dM ((asT Int 0=0/\True)/\∀ (i:{ k:Nat // k<=List.length x/\List.any (List.take k x) nzQ=false }),asT Bool true=true/\ifB (decide (aB (aA i)<aB x.length)) ((0<=aB (aA i)/\aB (aA i)<aB x.length/\okQ (List.getD x (aB (aA i)).toNat cZ)/\True)/\ifB (nzQ (List.getD x (aB (aA i)).toNat cZ)) (True/\aB (aA i)=mY nzQ x/\True) (∃ (i':{ k:Nat // k<=List.length x/\List.any (List.take k x) nzQ=false }),List.length x-aA i'<List.length x-aA i/\IntKind.wrap IntKind.i64 (aB (aA i)+1)=aB (aA i')/\True)) (True/\-1=mY nzQ x/\True)) (by kernel_rfl) ?_
 have hZ:(⟨false,0,[],[]⟩:aF)=cZ:=rfl
 try simp only[aQ,ay,au]
 try dsimp only[aB,asT,aA,aP,Ty.den,Lf.den] at *
 try simp only[hZ,Int.toNat_natCast,aQ,ay,au,og,ny,jg,jf]
 try simp only[iH,iG,List.all_cons,List.all_nil,qh,jc,jr,je,qo,ne_eq,aj,jo,jm,jv,oh,yw,qp,yx,og,ny,lg,ji,List.length_cons,List.length_nil]
 have hp:x.length<=1000000/\∀ q ∈ x,okQ q:=hp
 obtain⟨hl,hb⟩:=hp
 refine fun i=>⟨fun h1=>⟨(by first|exact⟨by omega,h1,bF hb (by omega)⟩|exact⟨by omega,h1⟩),fun h2=>?_,fun h2=>⟨⟨i.1+1,by omega,?_⟩,by simp only;omega,?_⟩⟩,fun h1=>?_⟩
 ·exact(uZ (d:=cZ) (by omega) i.2.2 (by first|exact h2|rw[h2];rfl)).symm
 ·rw[nD (d:=cZ) (by omega),i.2.2,h2];rfl
 ·rw[cO (by omega) (by omega)];rfl
 ·have h3:=i.2.2
  rw[jh (by omega)] at h3
  exact(zW h3).symm
noncomputable def b8w:Ctr:=⟨[.list tR,.clo 168 .unit],[tB],fun x=>(show List (aF) from x.1).length<=1000000/\∀ q ∈ (show List (aF) from x.1),okQ q,fun x=>((show List (aF) from x.1).any nzQ,())⟩
theorem a7g:aT Tryz.prog 123 b8w:=by
 refine bY ((nil0.ad a4V).ad a8j) ⟨[],[],[]⟩ Tryz.func123 rfl (by decide) (fun x=>[]) (fun x hp=>?_)
 obtain⟨x,c,u⟩:=x
 change List (aF) at x
 change Unit at c
 refine dM (((List.length x<=1000000/\∀ (q:aF),q ∈ x->okQ q)/\True)/\True/\decide (mY nzQ x ≥ 0)=List.any x nzQ/\True) (by kernel_rfl) ?_
 exact⟨⟨hp,trivial⟩,trivial,vC _ _,trivial⟩
noncomputable def b8x:Ctr:=⟨[.list (.list tR)],[.list tR],fun x=>(show MR from x.1).length<=1000/\∀ r ∈ (show MR from x.1),r.length<=1000,fun x=>((show MR from x.1).flatten,())⟩
theorem a7i:aT Tryz.prog 63 b8x:=by
 refine bY (nil0.an a7B) ⟨[],[],[]⟩ Tryz.func63 rfl (by decide) (fun x=>[.inv {k:Nat // k<=(show MR from x.1).length} (fun k=>[(11,.val tI (k.1:Int)),(3,.val tI (((show MR from x.1).take k.1).flatten.length:Int))]) (fun k=>[]) (fun k=>(show MR from x.1).length-k.1) ⟨0,by omega⟩ (fun _=>[]),
  .inv {k:Nat // k<=(show MR from x.1).length} (fun k=>[(27,.val tI (k.1:Int)),(6,.own 24 0),(24,.any)]) (fun k=>[(24,.row 47 tR (((show MR from x.1).take k.1).flatten) 0)]) (fun k=>(show MR from x.1).length-k.1) ⟨0,by omega⟩ (fun _=>[])]) (fun x hp=>?_)
 obtain⟨x,u⟩:=x
 change List (List aF) at x
 refine dM ((asT Int 0=0/\0=aB (List.flatten (List.take 0 x)).length/\True)/\∀ (i:{ k:Nat // k<=List.length x }),let A₀:=(List.flatten (List.take (aA i) x)).length;let A₁:=(aB A₀+aB (List.getD x (aB (aA i)).toNat (aP aF)).length);asT Bool true=true/\ifB (decide (aB (aA i)<aB x.length)) ((0<=aB (aA i)/\aB (aA i)<aB x.length/\True)/\ifB (decide (IntKind.wrap IntKind.i64 A₁<0)) False (∃ (i':{ k:Nat // k<=List.length x }),List.length x-aA i'<List.length x-aA i/\IntKind.wrap IntKind.i64 (aB (aA i)+1)=aB (aA i')/\IntKind.wrap IntKind.i64 A₁=aB (List.flatten (List.take (aA i') x)).length/\True)) (((asT (Option (List aF)) none=none/\0<=aB A₀/\aB A₀<=1000000000)/\True)/\(asT Int 0=0/\asT (List aF) (aP aF)=aP aF/\True)/\∀ (i:{ k:Nat // k<=List.length x }),let A₂:=(List.take (aA i) x);asT Bool true=true/\ifB (decide (aB (aA i)<aB x.length)) ((0<=aB (aA i)/\aB (aA i)<aB x.length/\True)/\(List.length (List.flatten A₂)+List.length (List.getD x (aB (aA i)).toNat (aP aF))<=1000000000/\True)/\∃ (i':{ k:Nat // k<=List.length x }),List.length x-aA i'<List.length x-aA i/\IntKind.wrap IntKind.i64 (aB (aA i)+1)=aB (aA i')/\List.flatten A₂++List.getD x (aB (aA i)).toNat (aP aF)=List.flatten (List.take (aA i') x)/\True) (True/\List.flatten A₂=List.flatten x/\True))) (by kernel_rfl) ?_
 have hZ:(⟨false,0,[],[]⟩:aF)=cZ:=rfl
 try simp only[aQ,ay,au]
 try dsimp only[aB,asT,aA,aP,Ty.den,Lf.den] at *
 try simp only[hZ,Int.toNat_natCast,aQ,ay,au,og,ny,jg,jf]
 try simp only[iH,iG,List.all_cons,List.all_nil,qh,jc,jr,je,qo,ne_eq,aj,jo,jm,jv,oh,yw,qp,yx,og,ny,lg,ji,List.length_cons,List.length_nil]
 obtain⟨hl,hr⟩:x.length<=1000/\∀ r ∈ x,r.length<=1000:=hp
 have hf:∀ k,(x.take k).flatten.length<=1000000:=fun k=>by
  have h1:=LX (K:=1000) (x:=x.take k) fun r h=>hr r (Aw h)
  have h2:(x.take k).length<=1000:=by rw[jy];omega
  omega
 have hg:∀ k,(x.getD k []).length<=1000:=fun k=>by
  by_cases h:k<x.length
  ·exact bF hr h
  ·rw[dh,uy (by omega)];simp
 refine⟨rfl,fun i=>⟨fun h1=>?_,fun h1=>⟨⟨by omega,by have:=hf i.1;omega⟩,fun j=>⟨fun h2=>⟨⟨by omega,h2⟩,by have:=hf j.1;have:=hg j.1;omega,⟨j.1+1,by omega⟩,by simp only;omega,by rw[cO (by omega) (by omega)];rfl,(IJ (by omega)).symm⟩,fun h2=>by rw[jh (by omega)]⟩⟩⟩⟩
 have e1:=hf i.1
 have e2:=hg i.1
 rw[cO (n:=((x.take i.1).flatten.length:Int)+((x.getD i.1 []).length:Int)) (by omega) (by omega)]
 refine⟨⟨by omega,h1⟩,fun h=>by omega,fun h=>⟨⟨i.1+1,by omega⟩,by simp only;omega,by rw[cO (by omega) (by omega)];rfl,?_⟩⟩
 show _=(((x.take (i.1+1)).flatten.length:Nat):Int)
 rw[IJ (by omega),dw];omega
def oZ (f:MR):Bool:=(decide (f.length=3)&&decide (uX f=0)&&decide (wdM f=3))&&f.flatten.any nzQ
def LD (r:LR):Bool:=decide (r.length=3)&&r.all (fun q=>q.ok)
def GY (r:LR):Bool:=r.all (fun q=>decide (q.x=0))
theorem vG {r:LR}:LD r=true↔r.length=3/\∀ q ∈ r,q.ok=true:=by
 unfold LD
 rw[aj,ay,uz]
theorem b8Q {f:MR} (h:f.length=3):(uX f=0/\wdM f=3)↔f.all LD=true:=by
 have h0:f.getD 0 [] ∈ f:=by rw[dh,dn (by omega)];exact um _
 constructor
 ·rintro⟨hc,hw⟩
  unfold uX at hc
  split at hc
  ·next hh =>
   refine uz.mpr fun r hr=>?_
   have:=Bc.mp hh.2.2.2.2 r hr
   unfold badR at this
   rw[hw] at this
   rw[vG]
   simpa using this
  ·cases hc
 ·intro hf
  have hr:∀ r ∈ f,r.length=3/\∀ q ∈ r,q.ok=true:=fun r hr=>vG.mp (uz.mp hf r hr)
  have hw:wdM f=3:=(hr _ h0).1
  refine⟨?_,hw⟩
  unfold uX
  rw[jq]
  refine⟨by omega,by omega,by omega,by omega,Bc.mpr fun r h=>?_⟩
  unfold badR
  have:=hr r h
  rw[hw]
  simpa using this
theorem b3E (f:MR):f.flatten.any nzQ=!f.all GY:=by
 rw[Bool.eq_iff_iff]
 unfold GY nzQ
 simp
theorem ZR (f:MR):oZ f=(decide (f.length=3)&&f.all LD&&!f.all GY):=by
 unfold oZ
 rw[b3E]
 by_cases h:f.length=3
 ·have e:(decide (uX f=0)&&decide (wdM f=3))=f.all LD:=by
   rw[Bool.eq_iff_iff,<-b8Q h,aj,ay,ay]
  rw[xk h,Bool.true_and,Bool.true_and,e]
 ·rw[tq h];rfl
theorem JO.short {f:MR} (h:JO f):JM f:=⟨by have:=h.1;omega,fun r hr=>⟨by have:=(h.2 r hr).1;omega,fun q hq=>⟨by have:=((h.2 r hr).2 q hq).1;omega,by have:=((h.2 r hr).2 q hq).2.1;omega⟩⟩⟩
noncomputable def c0z:Ctr:=⟨[tMR],[tB],fun x=>JO x.1,fun x=>(oZ x.1,())⟩
theorem b2I:aT Tryz.prog 84 c0z:=by
 refine bY (((nil0.ad DJ).ad a7i).ad a7g) ⟨[],[],[]⟩ Tryz.func84 rfl (by decide) (fun x=>[]) (fun x hp=>?_)
 obtain⟨f,u⟩:=x
 change List (List aF) at f
 refine dM (let A₁:=((aB f.length != 3)==false);let A₂:=(bif aB f.length != 3 then true else uX f != 0);let A₀:=(A₂==false);let fO:=(A₀=true->A₀=true/\True);((A₁=true->A₁=true/\JM f/\True)/\(A₁=true->A₁=true/\True)/\((aB f.length != 3)=false->A₁=true)/\(A₀=true->A₀=true/\asT Int 0<=0/\0<aB f.length/\True)/\fO/\fO/\fO/\(A₂=false->A₀=true)/\True)/\ifB (bif bif aB f.length != 3 then true else uX f != 0 then true else aB (List.getD f 0 (aP aF)).length != 3) (True/\false=oZ f/\True) (((List.length f<=1000/\∀ (r:List aF),r ∈ f->List.length r<=1000)/\(List.length (List.flatten f)<=1000000/\∀ (q:aF),q ∈ List.flatten f->okQ q)/\True)/\True/\List.any (List.flatten f) nzQ=oZ f/\True)) (by kernel_rfl) ?_
 have hZ:(⟨false,0,[],[]⟩:aF)=cZ:=rfl
 try simp only[aQ,ay,au]
 try dsimp only[aB,asT,aA,aP,Ty.den,Lf.den] at *
 try simp only[hZ,Int.toNat_natCast,aQ,ay,au,og,ny,jg,jf]
 try simp only[iH,iG,List.all_cons,List.all_nil,qh,jc,jr,je,qo,ne_eq,aj,jo,jm,jv,oh,yw,qp,yx,og,ny,lg,ji,List.length_cons,List.length_nil]
 have hp:JO f:=hp
 have h4:=hp.1
 refine⟨⟨fun h=>⟨h,hp.short⟩,fun h=>⟨h,by omega,by omega⟩⟩,fun h=>?_,fun h=>⟨⟨⟨by omega,fun r hr=>by have:=(hp.2 r hr).1;omega⟩,?_,fun q hq=>?_⟩,?_⟩⟩
 ·have e:(decide (f.length=3)&&decide (uX f=0)&&decide (wdM f=3))=false:=by
   rcases h with(h|h)|h
   ·rw[tq (show ¬ f.length=3 by omega)];rfl
   ·rw[tq h];simp
   ·rw[tq (show ¬ wdM f=3 by unfold wdM;omega)];simp
  unfold oZ
  rw[e];rfl
 ·have:=LX (K:=4) (x:=f) fun r hr=>(hp.2 r hr).1
  omega
 ·obtain⟨r,hr,hq⟩:=List.mem_flatten.mp hq
  have h2:=(b8Q (f:=f) (by omega)).mp ⟨h.1.2,by unfold wdM;omega⟩
  have h3:=(vG.mp (uz.mp h2 r hr)).2 q hq
  exact⟨h3,((hp.2 r hr).2 q hq).2.2 h3⟩
 ·unfold oZ
  rw[xk (show f.length=3 by omega),xk h.1.2,xk (show wdM f=3 by unfold wdM;omega)];rfl
theorem WT {α:Type} {p:α->Bool} {xs:List α} {i:Nat} {d:α} (hi:i<xs.length):(xs.take (i+1)).all p=((xs.take i).all p&&p (xs.getD i d)):=by
 rw[Dq,List.all_append,dh,dn hi]
 simp
theorem mM {α:Type} {xs:List α} {i:Nat} {d:α} (hi:i<xs.length):xs.getD i d ∈ xs:=by
 rw[dh,dn hi];exact um hi
theorem a1K {f:MR} {i:Nat} (hi:i<f.length) (h:LD (f.getD i [])=false):oZ f=false:=by
 rw[ZR,show f.all LD=false from List.all_eq_false.mpr ⟨_,mM hi,by rw[h];decide⟩];simp
theorem b7S (x:Rat):(sgn x.num==0)=decide (x=0):=by
 by_cases h:x=0
 ·subst h;rfl
 ·rw[tq h]
  exact jm.mpr fun e=>h ((b9H x).mp e)
noncomputable def c0h:Ctr:=⟨[tMR],[tB],fun x=>JO x.1,fun x=>(oZ x.1,())⟩
theorem b1c:aT Tryz.prog 38 c0h:=by
 refine bY ((nil0.ad b3x).ad b3y) ⟨[7],[],[]⟩ Tryz.func38 rfl (by decide) (fun x=>[.inv {k:Nat // k<=(show MR from x.1).length/\((show MR from x.1).take k).all LD=true} (fun k=>[(10,.val tI (k.1:Int)),(3,.val tB (((show MR from x.1).take k.1).all GY))]) (fun k=>[]) (fun k=>(show MR from x.1).length-k.1) ⟨0,by omega,rfl⟩ (fun k=>[
  .inv {c:Nat // c<=((show MR from x.1).getD k.1 []).length/\(((show MR from x.1).getD k.1 []).take c).all (fun q=>q.ok)=true} (fun c=>[(19,.val tI (c.1:Int)),(3,.val tB (((show MR from x.1).take k.1).all GY&&(((show MR from x.1).getD k.1 []).take c.1).all (fun q=>decide (q.x=0))))]) (fun c=>[]) (fun c=>((show MR from x.1).getD k.1 []).length-c.1) ⟨0,by omega,rfl⟩ (fun _=>[])])]) (fun x hp=>?_)
 obtain⟨f,u⟩:=x
 change List (List aF) at f
 refine dM (let A₀:=(aB f.length==3);let A₁:=(True/\false=oZ f/\True);(asT Int 0=0/\true=List.all (List.take 0 f) GY/\True)/\∀ (i:{ k:Nat // k<=List.length f/\List.all (List.take k f) LD=true }),let A₂:=(List.getD f (aA i) (aP aF));let fO:=(List.getD f (aB (aA i)).toNat (aP aF));let jX:=(List.take (aA i) f);asT Bool true=true/\ifB (decide (aB (aA i)<aB f.length)) ((0<=aB (aA i)/\aB (aA i)<aB f.length/\True)/\ifB (aB fO.length != 3) A₁ ((asT Int 0=0/\List.all jX GY=(List.all jX GY&&List.all (List.take 0 A₂) fun(q:aF)=>decide (aF.x q=0))/\True)/\∀ (i_1:{ c:Nat // c<=List.length A₂/\(List.all (List.take c A₂) fun(q:aF)=>aF.ok q)=true }),let jQ:=(List.all jX GY&&List.all (List.take (aA i_1) A₂) fun(q:aF)=>decide (aF.x q=0));let pI:=(List.getD fO (aB (aA i_1)).toNat cZ);asT Bool true=true/\ifB (decide (aB (aA i_1)<aB fO.length)) ((0<=aB (aA i_1)/\aB (aA i_1)<aB fO.length/\True)/\((aF.n pI<=999999999/\aF.m pI<=999999999)/\True)/\ifB (!aF.ok pI) A₁ ((((jQ==true)=true->(jQ==true)=true/\aF.ok pI=true/\rsz (aF.x pI)<=190000000/\True)/\((jQ==true)=true->(jQ==true)=true/\True)/\(jQ=true->(jQ==true)=true)/\True)/\∃ (i':{ c:Nat // c<=List.length A₂/\(List.all (List.take c A₂) fun(q:aF)=>aF.ok q)=true }),List.length A₂-aA i'<List.length A₂-aA i_1/\IntKind.wrap IntKind.i64 (aB (aA i_1)+1)=aB (aA i')/\(bif List.all jX GY&&List.all (List.take (aA i_1) A₂) fun(q:aF)=>decide (aF.x q=0) then sgn (Rat.num (aF.x pI))==0 else false)=(List.all jX GY&&List.all (List.take (aA i') A₂) fun(q:aF)=>decide (aF.x q=0))/\True)) (∃ (i':{ k:Nat // k<=List.length f/\List.all (List.take k f) LD=true }),List.length f-aA i'<List.length f-aA i/\IntKind.wrap IntKind.i64 (aB (aA i)+1)=aB (aA i')/\jQ=List.all (List.take (aA i') f) GY/\True))) ((((A₀==true)=true->(A₀==true)=true/\True)/\(A₀=true->(A₀==true)=true)/\True)/\True/\(bif aB f.length==3 then !List.all jX GY else false)=oZ f/\True)) (by kernel_rfl) ?_
 have hZ:(⟨false,0,[],[]⟩:aF)=cZ:=rfl
 try simp only[aQ,ay,au]
 try dsimp only[aB,asT,aA,aP,Ty.den,Lf.den] at *
 try simp only[hZ,Int.toNat_natCast,aQ,ay,au,og,ny,jg,jf]
 try simp only[iH,iG,List.all_cons,List.all_nil,qh,jc,jr,je,qo,ne_eq,aj,jo,jm,jv,oh,yw,qp,yx,og,ny,lg,ji,List.length_cons,List.length_nil]
 have hp:JO f:=hp
 have h4:=hp.1
 refine⟨rfl,fun i=>⟨fun h1=>?_,fun h1=>?_⟩⟩
 ·have hi:i.1<f.length:=by omega
  have hr:f.getD i.1 [] ∈ f:=mM hi
  have hr4:=(hp.2 _ hr).1
  refine⟨⟨by omega,h1⟩,fun h=>(a1K hi ?_).symm,fun h=>⟨by simp,fun c=>⟨fun h2=>?_,fun h2=>⟨⟨i.1+1,by omega,?_⟩,by simp only;omega,by rw[cO (by omega) (by omega)];rfl,?_⟩⟩⟩⟩
  ·unfold LD
   rw[tq (by omega)];rfl
  ·have hc:c.1<(f.getD i.1 []).length:=by omega
   have hq:(f.getD i.1 []).getD c.1 cZ ∈ f.getD i.1 []:=mM hc
   have hs:=(hp.2 _ hr).2 _ hq
   refine⟨⟨by omega,h2⟩,⟨by have:=hs.1;omega,by have:=hs.2.1;omega⟩,fun h3=>(a1K hi ?_).symm,fun h3=>⟨fun h4=>⟨h4,h3,by have:=hs.2.2 h3;omega⟩,⟨c.1+1,by omega,?_⟩,by simp only;omega,by rw[cO (by omega) (by omega)];rfl,?_⟩⟩
   ·cases e:LD (f.getD i.1 [])
    ·rfl
    ·have:=(vG.mp e).2 _ hq
     rw[h3] at this;cases this
   ·rw[WT (d:=cZ) hc,c.2.2,h3];rfl
   ·show _=(_&&(List.take (c.1+1) (f.getD i.1 [])).all _)
    rw[WT (d:=cZ) hc,b7S,Bool.and_assoc]
  ·have hc:=c.2.2
   rw[jh (by omega)] at hc
   rw[WT (d:=[]) hi,i.2.2]
   exact(Bool.true_and _).trans (vG.mpr ⟨by omega,fun q hq=>uz.mp hc q hq⟩)
  ·show _=(List.take (i.1+1) f).all GY
   rw[WT (d:=[]) hi,jh (l:=f.getD i.1 []) (by omega)];rfl
 ·have h3:=i.2.2
  rw[jh (by omega)] at h3
  rw[jh (by omega),ZR,h3,qh]
  by_cases h:f.length=3
  ·rw[xk h,h];rfl
  ·rw[tq h,show (((f.length:Nat):Int)==3)=false from jm.mpr (by omega)]
abbrev MQ:Type:=List (List Rat)
abbrev ent (a:MQ) (i j:Nat):Rat:=(a.getD i []).getD j 0
def tab (R C:Nat) (f:Nat->Nat->Rat):MQ:=(List.range R).map fun i=>(List.range C).map fun j=>f i j
def iK (R C:Nat) (f:Nat->Nat->Rat):MR:=(List.range R).map fun i=>(List.range C).map fun j=>kL (f i j)
def isM (a:MQ) (R C:Nat):Prop:=a.length=R/\(∀ r ∈ a,r.length=C)/\1<=R/\R<=64/\1<=C/\C<=64
theorem jV (R C:Nat) (f:Nat->Nat->Rat):(iK R C f).length=R:=by simp[iK]
theorem a8K {α:Type} (X:List (List α)) (Z:List α) {k:Nat} (hk:k<X.length):List.map (fun i=>(X++[Z]).getD i []) ((List.range X.length).set k X.length)=X.set k Z:=by
 apply List.ext_getElem
 ·simp
 ·intro i h1 h2
  have hi:i<X.length:=by simpa using h2
  rw[List.getElem_map,List.getElem_set,List.getElem_set]
  split
  ·simp
  ·rw[List.getElem_range,dh,zq hi,dn hi];rfl
theorem b1D (n k:Nat):((List.range n).set k n).Nodup:=by
 refine List.nodup_iff_pairwise_ne.mpr (List.pairwise_iff_getElem.mpr fun i j hi hj h=>?_)
 have h1:i<n:=by simpa using hi
 have h2:j<n:=by simpa using hj
 rw[List.getElem_set,List.getElem_set]
 split<;>split<;>simp<;>omega
theorem a8L {α:Type} {H:List (List α)} {k R:Nat} (hH:H.length=k) (hk:k<R) (Z:List α):(H++List.replicate (R-k) []).set k Z=H++[Z]++List.replicate (R-k-1) []:=by
 obtain⟨d,rfl⟩:∃ d,R=k+d+1:=⟨R-k-1,by omega⟩
 subst hH
 rw[show H.length+d+1-H.length=d+1 by omega,show d+1-1=d by omega,List.set_append_right _ _ (ak _),Nat.sub_self,List.replicate_succ,List.set_cons_zero]
 simp
theorem a3Z {α:Type} {H T:List (List α)} {k:Nat} (hH:H.length=k) (Z:List α):rowAt (H++[Z]++T) k=Z:=by
 subst hH;unfold rowAt;simp
theorem a8N {α:Type} {H T:List (List α)} {k:Nat} (hH:H.length=k) (Z Y:List α):(H++[Z]++T).set k Y=H++[Y]++T:=by
 subst hH;simp
theorem a8M {α:Type} (g:Nat->α) (z:α) {q C:Nat} (h:q<C):(List.map g (List.range q)++List.replicate (C-q) z).set q (g q)=List.map g (List.range (q+1))++List.replicate (C-(q+1)) z:=by
 obtain⟨d,rfl⟩:∃ d,C=q+d+1:=⟨C-q-1,by omega⟩
 rw[show q+d+1-q=d+1 by omega,show q+d+1-(q+1)=d by omega,List.set_append_right _ _ (by simp),Dn]
 simp[List.replicate_succ]
theorem a6z (k C:Nat) (f:Nat->Nat->Rat):iK (k+1) C f=iK k C f++[List.map (fun j=>kL (f k j)) (List.range C)]:=by unfold iK;rw[Dn];simp
theorem mZ {α:Type} {p:α->Prop}:∀ {xs:List α},qO p xs↔∀ x ∈ xs,p x
 | []=>by simp[qO]
 | x::xs=>by simp[qO,mZ (xs:=xs)]
theorem b2C (R C:Nat) (f:Nat->Nat->Rat):qO (fun x=>dR [qO (fun x=>dR [aF.ok x=true]) x]) (iK R C f):=by
 refine mZ.mpr fun r hr=>⟨mZ.mpr fun q hq=>⟨?_,trivial⟩,trivial⟩
 obtain⟨i,_,rfl⟩:=uq.mp hr
 obtain⟨j,_,rfl⟩:=uq.mp hq
 rfl
theorem b7W (R C:Nat) (f:Nat->Nat->Rat):List.map (fun xs=>List.map (fun x=>aF.x x) xs) (iK R C f)=tab R C f:=by
 unfold iK tab;simp[kL,Function.comp_def]
instance c1g (n:Nat):OfNat (Ty.den tI) n:=inferInstanceAs (OfNat Int n)
abbrev LQ':Type:=List Rat
abbrev lv (l:LQ') (i:Nat):Rat:=l.getD i 0
theorem lT {R C:Nat} {f:Nat->Nat->Rat}:(tab R C f).length=R:=by simp[tab]
theorem GI {R C:Nat} {f:Nat->Nat->Rat} {i:Nat} (h:i<R):(tab R C f).getD i []=(List.range C).map (f i):=by
 simp[tab,dh,h]
theorem a3I {R C:Nat} {f:Nat->Nat->Rat} {i j:Nat} (h1:i<R) (h2:j<C):ent (tab R C f) i j=f i j:=by
 show ((tab R C f).getD i []).getD j 0=_
 rw[GI h1];simp[dh,h2]
theorem b0h {R C:Nat} {f:Nat->Nat->Rat}:∀ r ∈ tab R C f,r.length=C:=by
 intro r hr;obtain⟨i,_,rfl⟩:=uq.mp hr;simp
theorem GH {R C:Nat} {f:Nat->Nat->Rat} (r1:1<=R) (r2:R<=64) (c1:1<=C) (c2:C<=64):isM (tab R C f) R C:=⟨lT,b0h,r1,r2,c1,c2⟩
theorem isM.wd {a:MQ} {R C:Nat} (h:isM a R C):wdM a=C:=bF (p:=fun r:List Rat=>r.length=C) h.2.1 (by have:=h.1;have:=h.2.2.1;omega)
theorem isM.row {a:MQ} {R C:Nat} (h:isM a R C) {i:Nat} (hi:i<R):(a.getD i []).length=C:=bF (p:=fun r:List Rat=>r.length=C) h.2.1 (by have:=h.1;omega)
theorem AX {R C:Nat} {f g:Nat->Nat->Rat} (h:∀ i,i<R->∀ j,j<C->f i j=g i j):tab R C f=tab R C g:=by
 unfold tab
 refine Ci fun i hi=>Ci fun j hj=>h i (List.mem_range.mp hi) j (List.mem_range.mp hj)
theorem a9I {a:List Rat} {C:Nat} (h:a.length=C):(List.range C).map (fun j=>a.getD j 0)=a:=by
 apply List.ext_getElem
 ·simp[h]
 ·intro j h1 h2;simp[dh,h2]
theorem isM.tab {a:MQ} {R C:Nat} (h:isM a R C):Proofs.YtbkocjmmbkifjaaGreat.tab R C (ent a)=a:=by
 apply List.ext_getElem
 ·rw[lT,h.1]
 ·intro i h1 h2
  have hi:i<R:=by rw[<-h.1];exact h2
  have e:(Proofs.YtbkocjmmbkifjaaGreat.tab R C (ent a))[i]=(Proofs.YtbkocjmmbkifjaaGreat.tab R C (ent a)).getD i []:=by rw[dh,dn h1];rfl
  rw[e,GI hi]
  have e2:a[i]=a.getD i []:=by rw[dh,dn h2];rfl
  rw[e2];exact a9I (h.row hi)
theorem map_set {α:Type} (g:Nat->α) (C c:Nat) (v:α):((List.range C).map g).set c v=(List.range C).map (fun d=>if d=c then v else g d):=by
 apply List.ext_getElem
 ·simp
 ·intro i h1 h2
  rw[List.getElem_set]
  by_cases e:c=i
  ·subst e;simp
  ·rw[jk e];simp[show ¬ i=c by omega]
theorem a8O {α:Type} {g:Nat->α} {C c:Nat} {d:α} (h:c<C):((List.range C).map g).getD c d=g c:=by
 simp[dh,h]
def szM (a:MQ) (K:Nat):Prop:=∀ i,i<a.length->∀ j,j<wdM a->rsz (ent a i j)<=K
def okM (a:MQ):Prop:=isM a a.length (wdM a)/\szM a 100000000
abbrev liftM (a:MQ):MR:=List.map (fun xs=>List.map (fun x=>kL x) xs) a
theorem a5Q (a:MQ):(liftM a).length=a.length:=by simp
theorem a5R (a:MQ) (i:Nat):(liftM a).getD i []=(a.getD i []).map kL:=by
 simp[dh]
 cases a[i]?<;>rfl
theorem a8y (a:MQ):wdM (liftM a)=wdM a:=by show ((liftM a).getD 0 []).length=(a.getD 0 []).length;rw[a5R,Bf]
theorem okM.ent {a:MQ} (h:okM a) {r:List Rat} (hr:r ∈ a) {x:Rat} (hx:x ∈ r):rsz x<=100000000:=by
 obtain⟨i,hi,rfl⟩:=Cb hr
 obtain⟨j,hj,rfl⟩:=Cb hx
 have h1:=h.1.2.1 _ (um hi)
 have h2:=h.2 i hi j (by rw[<-h1];exact hj)
 have e:Proofs.YtbkocjmmbkifjaaGreat.ent a i j=a[i][j]:=by
  show (a.getD i []).getD j 0=_
  rw[show a.getD i []=a[i] by rw[dh,dn hi];rfl,dh,dn hj];rfl
 rwa [e] at h2
theorem VB (x:Rat):(kL x).n<=rsz x/\(kL x).m<=rsz x:=⟨Nat.le_max_left _ _,Nat.le_max_right _ _⟩
theorem okM.short {a:MQ} (h:okM a):JM (liftM a):=by
 refine⟨by have:=h.1.2.2.2.1;simp;omega,fun r hr=>?_⟩
 obtain⟨s,hs,rfl⟩:=uq.mp hr
 refine⟨by have:=h.1.2.1 s hs;have:=h.1.2.2.2.2.2;simp;omega,fun q hq=>?_⟩
 obtain⟨x,hx,rfl⟩:=uq.mp hq
 have h1:=h.ent hs hx
 have ⟨h2,h3⟩:=VB x
 exact⟨by omega,by omega⟩
theorem okM.chk {a:MQ} (h:okM a):uX (liftM a)=0:=by
 obtain⟨⟨h1,h2,h3,h4,h5,h6⟩,_⟩:=h
 have hb:(liftM a).any (badR (wdM a))=false:=by
  refine Bc.mpr fun r hr=>?_
  obtain⟨s,hs,rfl⟩:=uq.mp hr
  unfold badR
  have:(List.map (fun x=>kL x) s).any (fun q=>!q.ok)=false:=Bc.mpr fun q hq=>by
   obtain⟨x,_,rfl⟩:=uq.mp hq;simp[kL]
  rw[this,Bf,h2 s hs];simp
 unfold uX
 rw[a5Q,a8y,hb,jq ⟨h3,h4,h5,h6,rfl⟩]
def PU (m n:Int) (f:Nat->Nat->Rat) (P:Int->Int->Prop) (Fin:MR->Prop):Prop:=(m=m/\0<=m/\m<=1000000000/\True)/\(asT Int 0=0/\List.replicate m.toNat (aP aF)=List.replicate (Int.toNat m-0) (aP aF)/\True)/\∀ (i:{ k:Nat // k<=Int.toNat m }),asT Bool true=true/\ifB (decide (aB (aA i)<aB (iI none (List.replicate m.toNat (aP aF))))) ((n=n/\0<=n/\n<=1000000000/\0<=aB (aA i)/\aB (aA i)<aB (iI none (iK (aA i) n.toNat f++List.replicate (Int.toNat m-aA i) (aP aF)))/\Int.toNat (aB (aA i))<iI none (iK (aA i) n.toNat f++List.replicate (Int.toNat m-aA i) (aP aF))/\True)/\(0<=aB (aA i)/\aB (aA i)<aB (iI (some (List.set (bZ none (iK (aA i) n.toNat f++List.replicate (Int.toNat m-aA i) (aP aF))) (aB (aA i)).toNat (iK (aA i) n.toNat f++List.replicate (Int.toNat m-aA i) (aP aF)).length)) (iK (aA i) n.toNat f++List.replicate (Int.toNat m-aA i) (aP aF)++List.replicate n.toNat { ok:=false,x:=0,g:=aP Nat,h:=aP Nat }::aP (List aF)))/\Int.toNat (aB (aA i))<iI (some (List.set (bZ none (iK (aA i) n.toNat f++List.replicate (Int.toNat m-aA i) (aP aF))) (aB (aA i)).toNat (iK (aA i) n.toNat f++List.replicate (Int.toNat m-aA i) (aP aF)).length)) (iK (aA i) n.toNat f++List.replicate (Int.toNat m-aA i) (aP aF)++List.replicate n.toNat { ok:=false,x:=0,g:=aP Nat,h:=aP Nat }::aP (List aF))/\True)/\(asT Int 0=0/\List.Nodup (List.set (bZ none (iK (aA i) n.toNat f++List.replicate (Int.toNat m-aA i) (aP aF))) (aB (aA i)).toNat (iK (aA i) n.toNat f++List.replicate (Int.toNat m-aA i) (aP aF)).length)/\List.map (fun(i_1:Nat)=>List.getD (iK (aA i) n.toNat f++List.replicate (Int.toNat m-aA i) (aP aF)++List.replicate n.toNat { ok:=false,x:=0,g:=aP Nat,h:=aP Nat }::aP (List aF)) i_1 (aP aF)) (List.set (bZ none (iK (aA i) n.toNat f++List.replicate (Int.toNat m-aA i) (aP aF))) (aB (aA i)).toNat (iK (aA i) n.toNat f++List.replicate (Int.toNat m-aA i) (aP aF)).length)=iK (aA i) n.toNat f++(List.map (fun(j:Nat)=>kL (f (aA i) j)) (List.range 0)++List.replicate (Int.toNat n-0) cZ)::aP (List aF)++List.replicate (Int.toNat m-aA i-1) (aP aF)/\True)/\∀ (i_1:{ q:Nat // q<=Int.toNat n }),asT Bool true=true/\ifB (decide (aB (aA i_1)<aB (rowAt (iK (aA i) n.toNat f++List.replicate (Int.toNat m-aA i) (aP aF)++List.replicate n.toNat { ok:=false,x:=0,g:=aP Nat,h:=aP Nat }::aP (List aF)) (nameAt (some (List.set (bZ none (iK (aA i) n.toNat f++List.replicate (Int.toNat m-aA i) (aP aF))) (aB (aA i)).toNat (iK (aA i) n.toNat f++List.replicate (Int.toNat m-aA i) (aP aF)).length)) (aB (aA i)).toNat)).length)) ((0<=aB (aA i)/\aB (aA i)<aB (iI none (iK (aA i) n.toNat f++(List.map (fun(j:Nat)=>kL (f (aA i) j)) (List.range (aA i_1))++List.replicate (Int.toNat n-aA i_1) cZ)::aP (List aF)++List.replicate (Int.toNat m-aA i-1) (aP aF)))/\Int.toNat (aB (aA i))<iI none (iK (aA i) n.toNat f++(List.map (fun(j:Nat)=>kL (f (aA i) j)) (List.range (aA i_1))++List.replicate (Int.toNat n-aA i_1) cZ)::aP (List aF)++List.replicate (Int.toNat m-aA i-1) (aP aF))/\P (aB (aA i)) (aB (aA i_1))/\0<=aB (aA i_1)/\aB (aA i_1)<aB (rowAt (iK (aA i) n.toNat f++(List.map (fun(j:Nat)=>kL (f (aA i) j)) (List.range (aA i_1))++List.replicate (Int.toNat n-aA i_1) cZ)::aP (List aF)++List.replicate (Int.toNat m-aA i-1) (aP aF)) (nameAt none (aB (aA i)).toNat)).length/\Int.toNat (aB (aA i_1))<List.length (rowAt (iK (aA i) n.toNat f++(List.map (fun(j:Nat)=>kL (f (aA i) j)) (List.range (aA i_1))++List.replicate (Int.toNat n-aA i_1) cZ)::aP (List aF)++List.replicate (Int.toNat m-aA i-1) (aP aF)) (nameAt none (aB (aA i)).toNat))/\True)/\∃ (i':{ q:Nat // q<=Int.toNat n }),Int.toNat n-aA i'<Int.toNat n-aA i_1/\IntKind.wrap IntKind.i64 (aB (aA i_1)+1)=aB (aA i')/\List.set (iK (aA i) n.toNat f++(List.map (fun(j:Nat)=>kL (f (aA i) j)) (List.range (aA i_1))++List.replicate (Int.toNat n-aA i_1) cZ)::aP (List aF)++List.replicate (Int.toNat m-aA i-1) (aP aF)) (nameAt none (aB (aA i)).toNat) (List.set (rowAt (iK (aA i) n.toNat f++(List.map (fun(j:Nat)=>kL (f (aA i) j)) (List.range (aA i_1))++List.replicate (Int.toNat n-aA i_1) cZ)::aP (List aF)++List.replicate (Int.toNat m-aA i-1) (aP aF)) (nameAt none (aB (aA i)).toNat)) (aB (aA i_1)).toNat (kL (f (aB (aA i)).toNat (aB (aA i_1)).toNat)))=iK (aA i) n.toNat f++(List.map (fun(j:Nat)=>kL (f (aA i) j)) (List.range (aA i'))++List.replicate (Int.toNat n-aA i') cZ)::aP (List aF)++List.replicate (Int.toNat m-aA i-1) (aP aF)/\True) (∃ (i':{ k:Nat // k<=Int.toNat m }),Int.toNat m-aA i'<Int.toNat m-aA i/\IntKind.wrap IntKind.i64 (aB (aA i)+1)=aB (aA i')/\iK (aA i) n.toNat f++(List.map (fun(j:Nat)=>kL (f (aA i) j)) (List.range (aA i_1))++List.replicate (Int.toNat n-aA i_1) cZ)::aP (List aF)++List.replicate (Int.toNat m-aA i-1) (aP aF)=iK (aA i') n.toNat f++List.replicate (Int.toNat m-aA i') (aP aF)/\True)) (Fin (iK (aA i) n.toNat f++List.replicate (Int.toNat m-aA i) (aP aF)))
theorem JE {R C:Nat} {f:Nat->Nat->Rat} {P:Int->Int->Prop} {Fin:MR->Prop} (r2:R<=1000) (c2:C<=1000) (hP:∀ i j:Nat,i<R->j<C->P i j) (hF:Fin (iK R C f)):PU R C f P Fin:=by
 unfold PU
 have hZ:(⟨false,0,[],[]⟩:aF)=cZ:=rfl
 dsimp only[aB,asT,aA,aP] at *
 simp only[hZ,Int.toNat_natCast,aQ,ay,au,og,ny]
 have hX:∀ k,k<=R->(iK k C f++List.replicate (R-k) ([]:List aF)).length=R:=fun k hk=>by rw[dw,jV,Am];omega
 have hY:∀ k (Z:List aF),k<R->(iK k C f++[Z]++List.replicate (R-k-1) ([]:List aF)).length=R:=fun k Z hk=>by rw[dw,dw,jV,Am];simp;omega
 refine⟨by omega,by rw[Nat.sub_zero],fun i=>⟨fun h1=>?_,fun h1=>?_⟩⟩
 ·have hi:i.1<R:=by simpa [iI] using h1
  simp only[iI,nameAt,bZ,hX i.1 i.2,hY i.1 _ hi,jg,jf]
  have e1:((List.range R).set i.1 R).getD i.1 0=R:=by simp[dh,hi]
  have e2:rowAt (iK i.1 C f++List.replicate (R-i.1) []++[List.replicate C cZ]) R=List.replicate C cZ:=by
   have:=a3Z (T:=[]) (hX i.1 i.2) (List.replicate C cZ);rwa [zo] at this
  have e3:=a8K (iK i.1 C f++List.replicate (R-i.1) []) (List.replicate C cZ) (k:=i.1) (by rw[hX i.1 i.2];exact hi)
  rw[hX i.1 i.2,a8L (jV _ _ _) hi] at e3
  rw[e1,e2,e3,Am]
  refine⟨⟨by omega,by omega,by omega,by omega,hi⟩,⟨by omega,by omega,hi⟩,⟨b1D R i.1,by simp⟩,fun q=>⟨fun h2=>?_,fun h2=>?_⟩⟩
  ·have hq:q.1<C:=by omega
   have hl:(List.map (fun j=>kL (f i.1 j)) (List.range q.1)++List.replicate (C-q.1) cZ).length=C:=by simp;omega
   rw[a3Z (jV _ _ _),hl]
   refine⟨⟨by omega,by omega,hi,hP _ _ hi hq,by omega,by omega,hq⟩,⟨q.1+1,by omega⟩,by simp only;omega,by rw[cO (by omega) (by omega)];rfl,?_⟩
   rw[a8N (jV _ _ _),a8M (fun j=>kL (f i.1 j)) cZ hq]
  ·have hq:q.1=C:=by have:=q.2;omega
   refine⟨⟨i.1+1,by omega⟩,by simp only;omega,by rw[cO (by omega) (by omega)];rfl,?_⟩
   rw[hq,Nat.sub_self,List.replicate_zero,zo,a6z,Nat.sub_sub]
 ·have hi:i.1=R:=by have:=i.2;simp only[iI,Am] at h1;omega
  rw[hi,Nat.sub_self,List.replicate_zero,zo]
  exact hF
def YM (m n:Int) (f:Nat->Nat->Rat):List Ann:=[.inv {k:Nat // k<=m.toNat} (fun k=>[(14,.val tI (k.1:Int))]) (fun k=>[(11,.mat 39 47 tR none (iK k.1 n.toNat f++List.replicate (m.toNat-k.1) []) 0)]) (fun k=>m.toNat-k.1) ⟨0,by omega⟩ (fun k=>[
 .inv {q:Nat // q<=n.toNat} (fun q=>[(27,.val tI (q.1:Int)),(20,.any),(21,.any),(24,.any),(25,.any)]) (fun q=>[(11,.mat 39 47 tR none (iK k.1 n.toNat f++[(List.range q.1).map (fun j=>kL (f k.1 j))++List.replicate (n.toNat-q.1) cZ]++List.replicate (m.toNat-k.1-1) []) 0)]) (fun q=>n.toNat-q.1) ⟨0,by omega⟩ (fun _=>[])])]
abbrev LKm:LK:=.mat 39 47 tR
noncomputable def b3G (T:List Ty) (ok:(nest T).den->Int->Int->Prop) (g:(nest T).den->Nat->Nat->Rat):Ctr:=⟨tI::tI::T,[tQ],fun x=>ok x.2.2 x.1 x.2.1,fun x=>(g x.2.2 (show Int from x.1).toNat (show Int from x.2.1).toNat,())⟩
def b3n (T:List Ty) (ok:(nest T).den->Int->Int->Prop) (x:(nest [tI,tI,nest T]).den):Prop:=∃ R C:Nat,(show Int from x.1)=R/\(show Int from x.2.1)=C/\R<=1000/\C<=1000/\∀ i j:Nat,i<R->j<C->ok x.2.2.1 i j
noncomputable def a8T (F:FuncId) (T:List Ty) (ok:(nest T).den->Int->Int->Prop) (g:(nest T).den->Nat->Nat->Rat):mX:=.mk (dec:=fun x=>⟨Classical.propDecidable _⟩) LKm [tI,tI,.clo F (nest T)] (fun x=>b3n T ok x) (fun x=>iK (show Int from x.1).toNat (show Int from x.2.1).toNat (g x.2.2.1))
def sm:Nat->(Nat->Rat)->Rat
 | 0,_=>0
 | n+1,f=>sm n f+f n
theorem lK {f g:Nat->Rat}:∀ n,(∀ i,i<n->f i=g i)->sm n f=sm n g
 | 0,_=>rfl
 | n+1,h=>by show sm n f+f n=sm n g+g n;rw[lK n (fun i hi=>h i (by omega)),h n (by omega)]
theorem pG {f:Nat->Rat}:∀ n,(∀ i,i<n->f i=0)->sm n f=0
 | 0,_=>rfl
 | n+1,h=>by show sm n f+f n=0;rw[pG n (fun i hi=>h i (by omega)),h n (by omega)];grind
theorem JQ (f g:Nat->Rat):∀ n,sm n (fun i=>f i+g i)=sm n f+sm n g
 | 0=>by show (0:Rat)=0+0;grind
 | n+1=>by show sm n _+(f n+g n)=(sm n f+f n)+(sm n g+g n);rw[JQ f g n];grind
theorem QW (k:Rat) (f:Nat->Rat):∀ n,sm n (fun i=>k*f i)=k*sm n f
 | 0=>by show (0:Rat)=k*0;grind
 | n+1=>by show sm n _+k*f n=k*(sm n f+f n);rw[QW k f n];grind
theorem a4I (k:Rat) (f:Nat->Rat) (n:Nat):sm n (fun i=>f i*k)=sm n f*k:=by
 rw[show (fun i=>f i*k)=(fun i=>k*f i) from funext fun i=>by grind,QW];grind
theorem a9W (f g:Nat->Rat) (n:Nat):sm n (fun i=>f i-g i)=sm n f-sm n g:=by
 rw[show (fun i=>f i-g i)=(fun i=>f i+(-1)*g i) from funext fun i=>by grind,JQ f (fun i=>(-1)*g i),QW];grind
theorem a4K (f:Nat->Nat->Rat) (m:Nat):∀ n,sm n (fun i=>sm m (fun j=>f i j))=sm m (fun j=>sm n (fun i=>f i j))
 | 0=>(pG m (fun j _=>rfl)).symm
 | n+1=>by
  show sm n (fun i=>sm m (fun j=>f i j))+sm m (fun j=>f n j)=sm m (fun j=>sm n (fun i=>f i j)+f n j)
  rw[a4K f m n,JQ]
theorem QX {f:Nat->Rat} (k:Nat):∀ n,k<n->(∀ i,i<n->i≠k->f i=0)->sm n f=f k
 | 0,h,_=>by omega
 | n+1,h,hz=>by
  show sm n f+f n=f k
  by_cases e:k=n
  ·rw[pG n (fun i hi=>hz i (by omega) (by omega)),e];grind
  ·rw[QX k n (by omega) (fun i hi hk=>hz i (by omega) hk),hz n (by omega) (by omega)];grind
theorem JJ {x:Rat} (h:x≠0):x / x=1:=by rw[Rat.div_def,Rat.mul_inv_cancel x h]
theorem a9U (f:Nat->Rat) (m:Nat):∀ n,sm (m+n) f=sm m f+sm n (fun i=>f (m+i))
 | 0=>by show sm m f=sm m f+0;grind
 | n+1=>by show sm (m+n) f+f (m+n)=sm m f+(sm n (fun i=>f (m+i))+f (m+n));rw[a9U f m n];grind
abbrev Mt:=Nat->Nat->Rat
def mm (n:Nat) (a b:Mt):Mt:=fun i j=>sm n fun k=>a i k*b k j
def mv (n:Nat) (a:Mt) (x:Nat->Rat):Nat->Rat:=fun i=>sm n fun k=>a i k*x k
def tr (a:Mt):Mt:=fun i j=>a j i
def idm:Mt:=fun i j=>if i=j then 1 else 0
def fk (e:Mt) (j:Nat):Nat->Nat->Nat
 | r,0=>r
 | r,n+1=>if e r j=0 then fk e j (r+1) n else r
theorem TR (e:Mt) (j:Nat):∀ n r,r<=fk e j r n/\fk e j r n<=r+n
 | 0,r=>⟨ak _,ak _⟩
 | n+1,r=>by
  have:=TR e j n (r+1)
  unfold fk;split<;>omega
theorem LW (e:Mt) (j:Nat):∀ n r i,r<=i->i<fk e j r n->e i j=0
 | 0,r,i,h1,h2=>by unfold fk at h2;omega
 | n+1,r,i,h1,h2=>by
  unfold fk at h2;split at h2
  ·rename_i h0
   by_cases h:i=r
   ·rw[h];exact h0
   ·exact LW e j n (r+1) i (by omega) h2
  ·omega
theorem a0x (e:Mt) (j:Nat):∀ n r,fk e j r n<r+n->e (fk e j r n) j≠0
 | 0,r,h=>by unfold fk at h;omega
 | n+1,r,h=>by
  unfold fk at h ⊢;split at h
  ·rename_i h0;rw[jq h0];exact a0x e j n (r+1) (by omega)
  ·rename_i h0;rw[jk h0];exact h0
theorem b8U (e:Mt) (j r n k:Nat) (h1:r<=k) (h2:k<=r+n) (hz:∀ i,r<=i->i<k->e i j=0) (hn:k<r+n->e k j≠0):fk e j r n=k:=by
 have ⟨a1,a2⟩:=TR e j n r
 rcases Nat.lt_trichotomy (fk e j r n) k with h|h|h
 ·exact absurd (hz _ a1 h) (a0x e j n r (by omega))
 ·exact h
 ·exact absurd (LW e j n r k h1 h) (hn (by omega))
theorem a7u {e f:Mt} {j:Nat} (n r:Nat) (h:∀ i,r<=i->i<r+n->e i j=f i j):fk e j r n=fk f j r n:=by
 have ⟨a1,a2⟩:=TR f j n r
 refine b8U e j r n _ a1 a2 (fun i h1 h2=>?_) (fun h1=>?_)
 ·rw[h i h1 (by omega)];exact LW f j n r i h1 h2
 ·rw[h _ a1 h1];exact a0x f j n r h1
def vU (e:Mt) (r k:Nat):Mt:=fun i=>if i=r then e k else if i=k then e r else e i
def qM (e:Mt) (r k j:Nat):Mt:=fun i c=>if i=r then e k c / e k j else vU e r k i c-vU e r k i j*(e k c / e k j)
def red (R:Nat) (e:Mt):Nat->Mt × List Nat
 | 0=>(e,[])
 | n+1 =>
  if fk (red R e n).1 n (red R e n).2.length (R-(red R e n).2.length)=R then red R e n
  else (qM (red R e n).1 (red R e n).2.length (fk (red R e n).1 n (red R e n).2.length (R-(red R e n).2.length)) n,(red R e n).2++[n])
structure Ech (R:Nat) (e:Mt) (n:Nat) (m:Mt) (p:List Nat):Prop where
 le:p.length<=R
 lt:∀ j ∈ p,j<n
 nd:p.Nodup
 unit:∀ t (h:t<p.length) i,i<R->m i p[t]=if i=t then 1 else 0
 rest:∀ i,p.length<=i->i<R->∀ c,c<n->m i c=0
 sol:∀ C (x:Nat->Rat),(∀ i,i<R->mv C e x i=0)↔(∀ i,i<R->mv C m x i=0)
theorem ZI (m:Mt) (r k j C:Nat) (x:Nat->Rat) (i:Nat):mv C (qM m r k j) x i=if i=r then mv C m x k / m k j else mv C (vU m r k) x i-vU m r k i j*(mv C m x k / m k j):=by
 unfold mv qM
 by_cases h:i=r
 ·simp only[jq h]
  rw[show (fun c=>m k c / m k j*x c)=(fun c=>m k c*x c*(m k j)⁻¹) from funext fun c=>by rw[Rat.div_def];grind,a4I,Rat.div_def]
 ·simp only[jk h]
  rw[show (fun c=>(vU m r k i c-vU m r k i j*(m k c / m k j))*x c)=(fun c=>vU m r k i c*x c-(vU m r k i j*(m k j)⁻¹)*(m k c*x c)) from funext fun c=>by rw[Rat.div_def];grind,a9W (fun c=>vU m r k i c*x c) (fun c=>(vU m r k i j*(m k j)⁻¹)*(m k c*x c)),QW,Rat.div_def];grind
theorem b0b (m:Mt) (R r k j C:Nat) (x:Nat->Rat) (hr:r<R) (hk:k<R) (hz:m k j≠0):(∀ i,i<R->mv C m x i=0)↔(∀ i,i<R->mv C (qM m r k j) x i=0):=by
 have hsw:∀ i,mv C (vU m r k) x i=if i=r then mv C m x k else if i=k then mv C m x r else mv C m x i:=fun i=>by
  unfold mv vU;by_cases h1:i=r
  ·simp only[jq h1]
  ·by_cases h2:i=k
   ·simp only[jk h1,jq h2]
   ·simp only[jk h1,jk h2]
 constructor
 ·intro h i hi
  rw[ZI,hsw,h k hk]
  split
  ·rw[Rat.div_def];grind
  ·have:=h i hi;have:=h r hr;rw[Rat.div_def];split<;>grind
 ·intro h
  have h1:=h r hr
  rw[ZI,jq rfl,Rat.div_def] at h1
  have hkz:mv C m x k=0:=by
   have:mv C m x k=mv C m x k*(m k j)⁻¹*m k j:=by rw[Rat.mul_assoc,Rat.inv_mul_cancel _ hz];grind
   rw[this,h1];grind
  have hA:∀ i,i<R->i≠r->(if i=k then mv C m x r else mv C m x i)=0:=fun i hi hir=>by
   have:=h i hi
   rw[ZI,jk hir,hsw,jk hir,hkz,Rat.div_def] at this
   grind
  intro i hi
  by_cases e1:i=k
  ·rw[e1];exact hkz
  ·by_cases e2:i=r
   ·have:=hA k hk (by omega)
    rw[jq rfl] at this;rw[e2];exact this
   ·have:=hA i hi e2
    rw[jk e1] at this;exact this
theorem wR (R:Nat) (e:Mt):∀ n,Ech R e n (red R e n).1 (red R e n).2
 | 0=>⟨qw _,fun j h=>(nomatch h),List.nodup_nil,fun t h=>absurd h (Nat.not_lt_zero _),fun i _ _ c h=>absurd h (Nat.not_lt_zero _),fun _ _=>Iff.rfl⟩
 | n+1=>by
  have ih:=wR R e n
  rw[show red R e (n+1)=(if fk (red R e n).1 n (red R e n).2.length (R-(red R e n).2.length)=R then ((red R e n).1,(red R e n).2) else (qM (red R e n).1 (red R e n).2.length (fk (red R e n).1 n (red R e n).2.length (R-(red R e n).2.length)) n,(red R e n).2++[n])) from rfl]
  generalize (red R e n).1=m at *
  generalize (red R e n).2=p at *
  generalize hk:fk m n p.length (R-p.length)=k
  have ⟨k1,k2⟩:=TR m n (R-p.length) p.length
  have k3:=LW m n (R-p.length) p.length
  have k4:=a0x m n (R-p.length) p.length
  rw[hk] at k1 k2 k3 k4
  have hle:=ih.le
  by_cases hR:k=R
  ·rw[jq hR]
   exact⟨ih.le,fun j hj=>Nat.lt_succ_of_lt (ih.lt j hj),ih.nd,ih.unit,fun i h1 h2 c hc=>by
    by_cases e1:c=n
    ·rw[e1];exact k3 i h1 (by omega)
    ·exact ih.rest i h1 h2 c (by omega),ih.sol⟩
  ·rw[jk hR]
   have hz:m k n≠0:=k4 (by omega)
   refine⟨by simp;omega,fun j hj=>?_,?_,fun t ht i hi=>?_,fun i h1 h2 c hc=>?_,fun C x=>?_⟩
   ·rcases tu.mp hj with h|h
    ·exact Nat.lt_succ_of_lt (ih.lt j h)
    ·rw[uj.mp h];omega
   ·refine List.nodup_append.mpr ⟨ih.nd,by simp,fun a ha b hb=>?_⟩
    have:=ih.lt a ha;rw[uj.mp hb];omega
   ·have ht:t<p.length+1:=by simpa using ht
    show qM m p.length k n i (p++[n])[t]=_
    by_cases e1:t=p.length
    ·have hc:(p++[n])[t]=n:=by simp[e1]
     rw[hc,e1];unfold qM
     by_cases e2:i=p.length
     ·rw[jq e2,jq e2];exact JJ hz
     ·rw[jk e2,jk e2,JJ hz];grind
    ·have hl:t<p.length:=by omega
     have hc:(p++[n])[t]=p[t]:=by rw[List.getElem_append_left hl]
     have hkt:=ih.unit t hl k (by omega)
     rw[jk (show ¬ k=t by omega)] at hkt
     rw[hc];unfold qM vU
     rw[hkt]
     by_cases e2:i=p.length
     ·rw[jq e2,jk (by omega),Rat.div_def];grind
     ·simp only[jk e2]
      by_cases e3:i=k
      ·simp only[jq e3]
       rw[ih.unit t hl p.length (by omega),jk (by omega),jk (by omega),Rat.div_def];grind
      ·simp only[jk e3]
       rw[ih.unit t hl i hi,Rat.div_def];grind
   ·have h1:p.length+1<=i:=by simpa using h1
    show qM m p.length k n i c=0
    have hsz:∀ c,c<n->vU m p.length k i c=0:=fun c hc=>by
     unfold vU;rw[jk (by omega)]
     split
     ·exact ih.rest p.length (ak _) (by omega) c hc
     ·exact ih.rest i (by omega) h2 c hc
    unfold qM;rw[jk (by omega)]
    by_cases e1:c=n
    ·rw[e1,JJ hz];grind
    ·rw[hsz c (by omega),ih.rest k k1 (by omega) c (by omega),Rat.div_def];grind
   ·rw[ih.sol C x];exact b0b m R p.length k n C x (by omega) (by omega) hz
end Go.Proofs.YtbkocjmmbkifjaaGreat
