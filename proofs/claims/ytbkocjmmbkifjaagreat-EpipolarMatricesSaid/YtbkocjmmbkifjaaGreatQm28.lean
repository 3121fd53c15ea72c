/-
  Lemmas for the theorem vmatrices28_holds, part 28 of 33.
-/
import Derived.Test.YtbkocjmmbkifjaaGreatQm27
namespace Go.Proofs.YtbkocjmmbkifjaaGreat
open Go Go.RowKit
set_option maxRecDepth 100000
set_option maxHeartbeats 1000000
set_option linter.unusedVariables false
set_option linter.unusedSimpArgs false
def nzQ (q:aG):Bool:=decide (q.x≠0)
def smQ (q:aG):Prop:=q.n<=1/\q.m<=1/\(q.ok=true->rsz q.x<=1)
def okQ (q:aG):Prop:=q.ok=true/\rsz q.x<=1
def uG (f:MR):Prop:=f.length<=4/\∀ r ∈ f,r.length<=4/\∀ q ∈ r,smQ q
theorem b9k (x:Rat):(sgn x.num != 0)=decide (x≠0):=by
 by_cases h:x=0
 ·subst h;rfl
 ·rw[wz h,ql]
  exact SH fun e=>h (Rat.num_eq_zero.mp e)
theorem c1y (x:Rat):(sgn x.num=0)↔x=0:=⟨fun h=>Rat.num_eq_zero.mp (Am.1 h),fun h=>by rw[h];rfl⟩
theorem MZ {α:Type} {K:Nat}:∀ {x:List (List α)},(∀ r ∈ x,r.length<=K)->x.flatten.length<=K*x.length
 | [],_=>by simp
 | r::x,h=>by
  have h1:=h r (jr ..)
  have h2:=MZ fun s hs=>h s (jk _ hs)
  rw[List.flatten_cons,gy,List.length_cons,Nat.mul_succ]
  omega
theorem JH {α:Type} {x:List (List α)} {i:Nat} (hi:i<x.length):(x.take (i+1)).flatten=(x.take i).flatten++x.getD i []:=by
 rw[Dh,List.flatten_append,dn,dw hi];simp
noncomputable def c2r:Ctr:=⟨[tR],[tB],fun x=>okQ x.1,fun x=>(nzQ x.1,())⟩
theorem a5Y:aS Tryz.prog 168 c2r:=by
 refine bH (nil0.ad b4Q) ⟨[],[],[]⟩ Tryz.func168 rfl (by decide) (fun x=>[]) (fun x hp=>?_)
 obtain⟨q,u⟩:=x
 change aG at q
 refine dD ((aG.ok q=true/\rsz (aG.x q)<=1000000000/\True)/\True/\(sgn (Rat.num (aG.x q)) != 0)=nzQ q/\True) (by kernel_rfl) ?_
 have hZ:(⟨false,0,[],[]⟩:aG)=bM:=rfl
 try simp only[aO,ay,ak]
 try dsimp only[aB,asT,aA,aJ,Ty.den,Lf.den] at *
 try simp only[hZ,Int.toNat_natCast,aO,ay,ak,ni,lg,jc,iq]
 try simp only[fU,fQ,List.all_cons,List.all_nil,oq,iw,jo,jh,ql,ne_eq,aj,je,jf,jl,mg,vw,qg,wu,ni,lg,jw,iy,List.length_cons,List.length_nil]
 exact⟨⟨hp.1,dh hp.2 (by omega)⟩,b9k _⟩
noncomputable def c0o:Ctr:=⟨[.list tR,.clo 168 .unit],[tI],fun x=>(show List (aG) from x.1).length<=1000000/\∀ q ∈ (show List (aG) from x.1),okQ q,fun x=>(nJ nzQ (show List (aG) from x.1),())⟩
theorem a9r:aS Tryz.prog 211 c0o:=by
 refine bH (nil0.ad a5Y) ⟨[],[],[]⟩ Tryz.func211 rfl (by decide) (fun x=>[.inv {k:Nat // k<=(show List (aG) from x.1).length/\((show List (aG) from x.1).take k).any nzQ=false} (fun k=>[(8,.val tI (k.1:Int))]) (fun k=>[]) (fun k=>(show List (aG) from x.1).length-k.1) ⟨0,by omega,rfl⟩ (fun _=>[])]) (fun x hp=>?_)
 obtain⟨x,c,u⟩:=x
 change List (aG) at x
 change Unit at c
 refine dD ((asT Int 0=0/\True)/\∀ (i:{ k:Nat // k<=List.length x/\List.any (List.take k x) nzQ=false }),asT Bool true=true/\ifB (decide (aB (aA i)<aB x.length)) ((0<=aB (aA i)/\aB (aA i)<aB x.length/\okQ (List.getD x (aB (aA i)).toNat bM)/\True)/\ifB (nzQ (List.getD x (aB (aA i)).toNat bM)) (True/\aB (aA i)=nJ nzQ x/\True) (∃ (i':{ k:Nat // k<=List.length x/\List.any (List.take k x) nzQ=false }),List.length x-aA i'<List.length x-aA i/\IntKind.wrap IntKind.i64 (aB (aA i)+1)=aB (aA i')/\True)) (True/\-1=nJ nzQ x/\True)) (by kernel_rfl) ?_
 have hZ:(⟨false,0,[],[]⟩:aG)=bM:=rfl
 try simp only[aO,ay,ak]
 try dsimp only[aB,asT,aA,aJ,Ty.den,Lf.den] at *
 try simp only[hZ,Int.toNat_natCast,aO,ay,ak,ni,lg,jc,iq]
 try simp only[fU,fQ,List.all_cons,List.all_nil,oq,iw,jo,jh,ql,ne_eq,aj,je,jf,jl,mg,vw,qg,wu,ni,lg,jw,iy,List.length_cons,List.length_nil]
 have hp:x.length<=1000000/\∀ q ∈ x,okQ q:=hp
 obtain⟨hl,hb⟩:=hp
 refine fun i=>⟨fun h1=>⟨(by first|exact⟨by omega,h1,aV hb (by omega)⟩|exact⟨by omega,h1⟩),fun h2=>?_,fun h2=>⟨⟨i.1+1,by omega,?_⟩,by simp only;omega,?_⟩⟩,fun h1=>?_⟩
 ·exact(vS (d:=bM) (by omega) i.2.2 (by first|exact h2|rw[h2];rfl)).symm
 ·rw[nM (d:=bM) (by omega),i.2.2,h2];rfl
 ·rw[bI (by omega) (by omega)];rfl
 ·have h3:=i.2.2
  rw[jg (by omega)] at h3
  exact(AZ h3).symm
noncomputable def c0c:Ctr:=⟨[.list tR,.clo 168 .unit],[tB],fun x=>(show List (aG) from x.1).length<=1000000/\∀ q ∈ (show List (aG) from x.1),okQ q,fun x=>((show List (aG) from x.1).any nzQ,())⟩
theorem a8p:aS Tryz.prog 123 c0c:=by
 refine bH ((nil0.ad a5Y).ad a9r) ⟨[],[],[]⟩ Tryz.func123 rfl (by decide) (fun x=>[]) (fun x hp=>?_)
 obtain⟨x,c,u⟩:=x
 change List (aG) at x
 change Unit at c
 refine dD (((List.length x<=1000000/\∀ (q:aG),q ∈ x->okQ q)/\True)/\True/\decide (nJ nzQ x ≥ 0)=List.any x nzQ/\True) (by kernel_rfl) ?_
 exact⟨⟨hp,trivial⟩,trivial,vT _ _,trivial⟩
noncomputable def c0d:Ctr:=⟨[.list (.list tR)],[.list tR],fun x=>(show MR from x.1).length<=1000/\∀ r ∈ (show MR from x.1),r.length<=1000,fun x=>((show MR from x.1).flatten,())⟩
theorem a0Y:aS Tryz.prog 63 c0d:=by
 refine bH (nil0.an a8J) ⟨[],[],[]⟩ Tryz.func63 rfl (by decide) (fun x=>[.inv {k:Nat // k<=(show MR from x.1).length} (fun k=>[(11,.val tI (k.1:Int)),(3,.val tI (((show MR from x.1).take k.1).flatten.length:Int))]) (fun k=>[]) (fun k=>(show MR from x.1).length-k.1) ⟨0,by omega⟩ (fun _=>[]),
  .inv {k:Nat // k<=(show MR from x.1).length} (fun k=>[(27,.val tI (k.1:Int)),(6,.own 24 0),(24,.any)]) (fun k=>[(24,.row 47 tR (((show MR from x.1).take k.1).flatten) 0)]) (fun k=>(show MR from x.1).length-k.1) ⟨0,by omega⟩ (fun _=>[])]) (fun x hp=>?_)
 obtain⟨x,u⟩:=x
 change List (List aG) at x
 refine dD ((asT Int 0=0/\0=aB (List.flatten (List.take 0 x)).length/\True)/\∀ (i:{ k:Nat // k<=List.length x }),let A₀:=(List.flatten (List.take (aA i) x)).length;let A₁:=(aB A₀+aB (List.getD x (aB (aA i)).toNat (aJ aG)).length);asT Bool true=true/\ifB (decide (aB (aA i)<aB x.length)) ((0<=aB (aA i)/\aB (aA i)<aB x.length/\True)/\ifB (decide (IntKind.wrap IntKind.i64 A₁<0)) False (∃ (i':{ k:Nat // k<=List.length x }),List.length x-aA i'<List.length x-aA i/\IntKind.wrap IntKind.i64 (aB (aA i)+1)=aB (aA i')/\IntKind.wrap IntKind.i64 A₁=aB (List.flatten (List.take (aA i') x)).length/\True)) (((asT (Option (List aG)) none=none/\0<=aB A₀/\aB A₀<=1000000000)/\True)/\(asT Int 0=0/\asT (List aG) (aJ aG)=aJ aG/\True)/\∀ (i:{ k:Nat // k<=List.length x }),let A₂:=(List.take (aA i) x);asT Bool true=true/\ifB (decide (aB (aA i)<aB x.length)) ((0<=aB (aA i)/\aB (aA i)<aB x.length/\True)/\(List.length (List.flatten A₂)+List.length (List.getD x (aB (aA i)).toNat (aJ aG))<=1000000000/\True)/\∃ (i':{ k:Nat // k<=List.length x }),List.length x-aA i'<List.length x-aA i/\IntKind.wrap IntKind.i64 (aB (aA i)+1)=aB (aA i')/\List.flatten A₂++List.getD x (aB (aA i)).toNat (aJ aG)=List.flatten (List.take (aA i') x)/\True) (True/\List.flatten A₂=List.flatten x/\True))) (by kernel_rfl) ?_
 have hZ:(⟨false,0,[],[]⟩:aG)=bM:=rfl
 try simp only[aO,ay,ak]
 try dsimp only[aB,asT,aA,aJ,Ty.den,Lf.den] at *
 try simp only[hZ,Int.toNat_natCast,aO,ay,ak,ni,lg,jc,iq]
 try simp only[fU,fQ,List.all_cons,List.all_nil,oq,iw,jo,jh,ql,ne_eq,aj,je,jf,jl,mg,vw,qg,wu,ni,lg,jw,iy,List.length_cons,List.length_nil]
 obtain⟨hl,hr⟩:x.length<=1000/\∀ r ∈ x,r.length<=1000:=hp
 have hf:∀ k,(x.take k).flatten.length<=1000000:=fun k=>by
  have h1:=MZ (K:=1000) (x:=x.take k) fun r h=>hr r (zu h)
  have h2:(x.take k).length<=1000:=by rw[jy];omega
  omega
 have hg:∀ k,(x.getD k []).length<=1000:=fun k=>by
  by_cases h:k<x.length
  ·exact aV hr h
  ·rw[dn,uo (by omega)];simp
 refine⟨rfl,fun i=>⟨fun h1=>?_,fun h1=>⟨⟨by omega,by have:=hf i.1;omega⟩,fun j=>⟨fun h2=>⟨⟨by omega,h2⟩,by have:=hf j.1;have:=hg j.1;omega,⟨j.1+1,by omega⟩,by simp only;omega,by rw[bI (by omega) (by omega)];rfl,(JH (by omega)).symm⟩,fun h2=>by rw[jg (by omega)]⟩⟩⟩⟩
 have e1:=hf i.1
 have e2:=hg i.1
 rw[bI (n:=((x.take i.1).flatten.length:Int)+((x.getD i.1 []).length:Int)) (by omega) (by omega)]
 refine⟨⟨by omega,h1⟩,fun h=>by omega,fun h=>⟨⟨i.1+1,by omega⟩,by simp only;omega,by rw[bI (by omega) (by omega)];rfl,?_⟩⟩
 show _=(((x.take (i.1+1)).flatten.length:Nat):Int)
 rw[JH (by omega),gy];omega
def vM (f:MR):Bool:=(decide (f.length=3)&&decide (vO f=0)&&decide (wdM f=3))&&f.flatten.any nzQ
def MJ (r:LR):Bool:=decide (r.length=3)&&r.all (fun q=>q.ok)
def JA (r:LR):Bool:=r.all (fun q=>decide (q.x=0))
theorem vV {r:LR}:MJ r=true↔r.length=3/\∀ q ∈ r,q.ok=true:=by
 unfold MJ
 rw[aj,ay,vg]
theorem c0E {f:MR} (h:f.length=3):(vO f=0/\wdM f=3)↔f.all MJ=true:=by
 have h0:f.getD 0 [] ∈ f:=by rw[dn,dw (by omega)];exact uw _
 constructor
 ·rintro⟨hc,hw⟩
  unfold vO at hc
  split at hc
  ·next hh =>
   refine vg.mpr fun r hr=>?_
   have:=Bh.mp hh.2.2.2.2 r hr
   unfold badR at this
   rw[hw] at this
   rw[vV]
   simpa using this
  ·cases hc
 ·intro hf
  have hr:∀ r ∈ f,r.length=3/\∀ q ∈ r,q.ok=true:=fun r hr=>vV.mp (vg.mp hf r hr)
  have hw:wdM f=3:=(hr _ h0).1
  refine⟨?_,hw⟩
  unfold vO
  rw[jv]
  refine⟨by omega,by omega,by omega,by omega,Bh.mpr fun r h=>?_⟩
  unfold badR
  have:=hr r h
  rw[hw]
  simpa using this
theorem a7L (f:MR):f.flatten.any nzQ=!f.all JA:=by
 rw[Bool.eq_iff_iff]
 unfold JA nzQ
 simp
theorem NZ (f:MR):vM f=(decide (f.length=3)&&f.all MJ&&!f.all JA):=by
 unfold vM
 rw[a7L]
 by_cases h:f.length=3
 ·have e:(decide (vO f=0)&&decide (wdM f=3))=f.all MJ:=by
   rw[Bool.eq_iff_iff,<-c0E h,aj,ay,ay]
  rw[wz h,Bool.true_and,Bool.true_and,e]
 ·rw[qw h];rfl
theorem uG.short {f:MR} (h:uG f):KJ f:=⟨by have:=h.1;omega,fun r hr=>⟨by have:=(h.2 r hr).1;omega,fun q hq=>⟨by have:=((h.2 r hr).2 q hq).1;omega,by have:=((h.2 r hr).2 q hq).2.1;omega⟩⟩⟩
noncomputable def c2s:Ctr:=⟨[tMR],[tB],fun x=>uG x.1,fun x=>(vM x.1,())⟩
theorem a0G:aS Tryz.prog 84 c2s:=by
 refine bH (((nil0.ad ED).ad a0Y).ad a8p) ⟨[],[],[]⟩ Tryz.func84 rfl (by decide) (fun x=>[]) (fun x hp=>?_)
 obtain⟨f,u⟩:=x
 change List (List aG) at f
 refine dD (let A₁:=((aB f.length != 3)==false);let A₂:=(bif aB f.length != 3 then true else vO f != 0);let A₀:=(A₂==false);let eU:=(A₀=true->A₀=true/\True);((A₁=true->A₁=true/\KJ f/\True)/\(A₁=true->A₁=true/\True)/\((aB f.length != 3)=false->A₁=true)/\(A₀=true->A₀=true/\asT Int 0<=0/\0<aB f.length/\True)/\eU/\eU/\eU/\(A₂=false->A₀=true)/\True)/\ifB (bif bif aB f.length != 3 then true else vO f != 0 then true else aB (List.getD f 0 (aJ aG)).length != 3) (True/\false=vM f/\True) (((List.length f<=1000/\∀ (r:List aG),r ∈ f->List.length r<=1000)/\(List.length (List.flatten f)<=1000000/\∀ (q:aG),q ∈ List.flatten f->okQ q)/\True)/\True/\List.any (List.flatten f) nzQ=vM f/\True)) (by kernel_rfl) ?_
 have hZ:(⟨false,0,[],[]⟩:aG)=bM:=rfl
 try simp only[aO,ay,ak]
 try dsimp only[aB,asT,aA,aJ,Ty.den,Lf.den] at *
 try simp only[hZ,Int.toNat_natCast,aO,ay,ak,ni,lg,jc,iq]
 try simp only[fU,fQ,List.all_cons,List.all_nil,oq,iw,jo,jh,ql,ne_eq,aj,je,jf,jl,mg,vw,qg,wu,ni,lg,jw,iy,List.length_cons,List.length_nil]
 have hp:uG f:=hp
 have h4:=hp.1
 refine⟨⟨fun h=>⟨h,hp.short⟩,fun h=>⟨h,by omega,by omega⟩⟩,fun h=>?_,fun h=>⟨⟨⟨by omega,fun r hr=>by have:=(hp.2 r hr).1;omega⟩,?_,fun q hq=>?_⟩,?_⟩⟩
 ·have e:(decide (f.length=3)&&decide (vO f=0)&&decide (wdM f=3))=false:=by
   rcases h with(h|h)|h
   ·rw[qw (show ¬ f.length=3 by omega)];rfl
   ·rw[qw h];simp
   ·rw[qw (show ¬ wdM f=3 by unfold wdM;omega)];simp
  unfold vM
  rw[e];rfl
 ·have:=MZ (K:=4) (x:=f) fun r hr=>(hp.2 r hr).1
  omega
 ·obtain⟨r,hr,hq⟩:=List.mem_flatten.mp hq
  have h2:=(c0E (f:=f) (by omega)).mp ⟨h.1.2,by unfold wdM;omega⟩
  have h3:=(vV.mp (vg.mp h2 r hr)).2 q hq
  exact⟨h3,((hp.2 r hr).2 q hq).2.2 h3⟩
 ·unfold vM
  rw[wz (show f.length=3 by omega),wz h.1.2,wz (show wdM f=3 by unfold wdM;omega)];rfl
theorem XZ {α:Type} {p:α->Bool} {xs:List α} {i:Nat} {d:α} (hi:i<xs.length):(xs.take (i+1)).all p=((xs.take i).all p&&p (xs.getD i d)):=by
 rw[Dh,List.all_append,dn,dw hi]
 simp
theorem rQ {α:Type} {xs:List α} {i:Nat} {d:α} (hi:i<xs.length):xs.getD i d ∈ xs:=by
 rw[dn,dw hi];exact uw hi
theorem a2D {f:MR} {i:Nat} (hi:i<f.length) (h:MJ (f.getD i [])=false):vM f=false:=by
 rw[NZ,show f.all MJ=false from List.all_eq_false.mpr ⟨_,rQ hi,by rw[h];decide⟩];simp
theorem b9l (x:Rat):(sgn x.num==0)=decide (x=0):=by
 by_cases h:x=0
 ·subst h;rfl
 ·rw[qw h]
  exact jf.mpr fun e=>h ((c1y x).mp e)
noncomputable def c2b:Ctr:=⟨[tMR],[tB],fun x=>uG x.1,fun x=>(vM x.1,())⟩
theorem b2q:aS Tryz.prog 38 c2b:=by
 refine bH ((nil0.ad c1C).ad c1E) ⟨[7],[],[]⟩ Tryz.func38 rfl (by decide) (fun x=>[.inv {k:Nat // k<=(show MR from x.1).length/\((show MR from x.1).take k).all MJ=true} (fun k=>[(10,.val tI (k.1:Int)),(3,.val tB (((show MR from x.1).take k.1).all JA))]) (fun k=>[]) (fun k=>(show MR from x.1).length-k.1) ⟨0,by omega,rfl⟩ (fun k=>[
  .inv {c:Nat // c<=((show MR from x.1).getD k.1 []).length/\(((show MR from x.1).getD k.1 []).take c).all (fun q=>q.ok)=true} (fun c=>[(19,.val tI (c.1:Int)),(3,.val tB (((show MR from x.1).take k.1).all JA&&(((show MR from x.1).getD k.1 []).take c.1).all (fun q=>decide (q.x=0))))]) (fun c=>[]) (fun c=>((show MR from x.1).getD k.1 []).length-c.1) ⟨0,by omega,rfl⟩ (fun _=>[])])]) (fun x hp=>?_)
 obtain⟨f,u⟩:=x
 change List (List aG) at f
 refine dD (let A₀:=(aB f.length==3);let A₁:=(True/\false=vM f/\True);(asT Int 0=0/\true=List.all (List.take 0 f) JA/\True)/\∀ (i:{ k:Nat // k<=List.length f/\List.all (List.take k f) MJ=true }),let A₂:=(List.getD f (aA i) (aJ aG));let eU:=(List.getD f (aB (aA i)).toNat (aJ aG));let gQ:=(List.take (aA i) f);asT Bool true=true/\ifB (decide (aB (aA i)<aB f.length)) ((0<=aB (aA i)/\aB (aA i)<aB f.length/\True)/\ifB (aB eU.length != 3) A₁ ((asT Int 0=0/\List.all gQ JA=(List.all gQ JA&&List.all (List.take 0 A₂) fun(q:aG)=>decide (aG.x q=0))/\True)/\∀ (i_1:{ c:Nat // c<=List.length A₂/\(List.all (List.take c A₂) fun(q:aG)=>aG.ok q)=true }),let iF:=(List.all gQ JA&&List.all (List.take (aA i_1) A₂) fun(q:aG)=>decide (aG.x q=0));let jR:=(List.getD eU (aB (aA i_1)).toNat bM);asT Bool true=true/\ifB (decide (aB (aA i_1)<aB eU.length)) ((0<=aB (aA i_1)/\aB (aA i_1)<aB eU.length/\True)/\((aG.n jR<=999999999/\aG.m jR<=999999999)/\True)/\ifB (!aG.ok jR) A₁ ((((iF==true)=true->(iF==true)=true/\aG.ok jR=true/\rsz (aG.x jR)<=190000000/\True)/\((iF==true)=true->(iF==true)=true/\True)/\(iF=true->(iF==true)=true)/\True)/\∃ (i':{ c:Nat // c<=List.length A₂/\(List.all (List.take c A₂) fun(q:aG)=>aG.ok q)=true }),List.length A₂-aA i'<List.length A₂-aA i_1/\IntKind.wrap IntKind.i64 (aB (aA i_1)+1)=aB (aA i')/\(bif List.all gQ JA&&List.all (List.take (aA i_1) A₂) fun(q:aG)=>decide (aG.x q=0) then sgn (Rat.num (aG.x jR))==0 else false)=(List.all gQ JA&&List.all (List.take (aA i') A₂) fun(q:aG)=>decide (aG.x q=0))/\True)) (∃ (i':{ k:Nat // k<=List.length f/\List.all (List.take k f) MJ=true }),List.length f-aA i'<List.length f-aA i/\IntKind.wrap IntKind.i64 (aB (aA i)+1)=aB (aA i')/\iF=List.all (List.take (aA i') f) JA/\True))) ((((A₀==true)=true->(A₀==true)=true/\True)/\(A₀=true->(A₀==true)=true)/\True)/\True/\(bif aB f.length==3 then !List.all gQ JA else false)=vM f/\True)) (by kernel_rfl) ?_
 have hZ:(⟨false,0,[],[]⟩:aG)=bM:=rfl
 try simp only[aO,ay,ak]
 try dsimp only[aB,asT,aA,aJ,Ty.den,Lf.den] at *
 try simp only[hZ,Int.toNat_natCast,aO,ay,ak,ni,lg,jc,iq]
 try simp only[fU,fQ,List.all_cons,List.all_nil,oq,iw,jo,jh,ql,ne_eq,aj,je,jf,jl,mg,vw,qg,wu,ni,lg,jw,iy,List.length_cons,List.length_nil]
 have hp:uG f:=hp
 have h4:=hp.1
 refine⟨rfl,fun i=>⟨fun h1=>?_,fun h1=>?_⟩⟩
 ·have hi:i.1<f.length:=by omega
  have hr:f.getD i.1 [] ∈ f:=rQ hi
  have hr4:=(hp.2 _ hr).1
  refine⟨⟨by omega,h1⟩,fun h=>(a2D hi ?_).symm,fun h=>⟨by simp,fun c=>⟨fun h2=>?_,fun h2=>⟨⟨i.1+1,by omega,?_⟩,by simp only;omega,by rw[bI (by omega) (by omega)];rfl,?_⟩⟩⟩⟩
  ·unfold MJ
   rw[qw (by omega)];rfl
  ·have hc:c.1<(f.getD i.1 []).length:=by omega
   have hq:(f.getD i.1 []).getD c.1 bM ∈ f.getD i.1 []:=rQ hc
   have hs:=(hp.2 _ hr).2 _ hq
   refine⟨⟨by omega,h2⟩,⟨by have:=hs.1;omega,by have:=hs.2.1;omega⟩,fun h3=>(a2D hi ?_).symm,fun h3=>⟨fun h4=>⟨h4,h3,by have:=hs.2.2 h3;omega⟩,⟨c.1+1,by omega,?_⟩,by simp only;omega,by rw[bI (by omega) (by omega)];rfl,?_⟩⟩
   ·cases e:MJ (f.getD i.1 [])
    ·rfl
    ·have:=(vV.mp e).2 _ hq
     rw[h3] at this;cases this
   ·rw[XZ (d:=bM) hc,c.2.2,h3];rfl
   ·show _=(_&&(List.take (c.1+1) (f.getD i.1 [])).all _)
    rw[XZ (d:=bM) hc,b9l,Bool.and_assoc]
  ·have hc:=c.2.2
   rw[jg (by omega)] at hc
   rw[XZ (d:=[]) hi,i.2.2]
   exact(Bool.true_and _).trans (vV.mpr ⟨by omega,fun q hq=>vg.mp hc q hq⟩)
  ·show _=(List.take (i.1+1) f).all JA
   rw[XZ (d:=[]) hi,jg (l:=f.getD i.1 []) (by omega)];rfl
 ·have h3:=i.2.2
  rw[jg (by omega)] at h3
  rw[jg (by omega),NZ,h3,oq]
  by_cases h:f.length=3
  ·rw[wz h,h];rfl
  ·rw[qw h,show (((f.length:Nat):Int)==3)=false from jf.mpr (by omega)]
abbrev MQ:Type:=List (List Rat)
abbrev ent (a:MQ) (i j:Nat):Rat:=(a.getD i []).getD j 0
def tab (R C:Nat) (f:Nat->Nat->Rat):MQ:=(List.range R).map fun i=>(List.range C).map fun j=>f i j
def iM (R C:Nat) (f:Nat->Nat->Rat):MR:=(List.range R).map fun i=>(List.range C).map fun j=>kC (f i j)
def isM (a:MQ) (R C:Nat):Prop:=a.length=R/\(∀ r ∈ a,r.length=C)/\1<=R/\R<=64/\1<=C/\C<=64
theorem jQ (R C:Nat) (f:Nat->Nat->Rat):(iM R C f).length=R:=by simp[iM]
theorem a9T {α:Type} (X:List (List α)) (Z:List α) {k:Nat} (hk:k<X.length):List.map (fun i=>(X++[Z]).getD i []) ((List.range X.length).set k X.length)=X.set k Z:=by
 apply List.ext_getElem
 ·simp
 ·intro i h1 h2
  have hi:i<X.length:=by simpa using h2
  rw[List.getElem_map,List.getElem_set,List.getElem_set]
  split
  ·simp
  ·rw[List.getElem_range,dn,zx hi,dw hi];rfl
theorem b2Q (n k:Nat):((List.range n).set k n).Nodup:=by
 refine List.nodup_iff_pairwise_ne.mpr (List.pairwise_iff_getElem.mpr fun i j hi hj h=>?_)
 have h1:i<n:=by simpa using hi
 have h2:j<n:=by simpa using hj
 rw[List.getElem_set,List.getElem_set]
 split<;>split<;>simp<;>omega
theorem a9U {α:Type} {H:List (List α)} {k R:Nat} (hH:H.length=k) (hk:k<R) (Z:List α):(H++List.replicate (R-k) []).set k Z=H++[Z]++List.replicate (R-k-1) []:=by
 obtain⟨d,rfl⟩:∃ d,R=k+d+1:=⟨R-k-1,by omega⟩
 subst hH
 rw[show H.length+d+1-H.length=d+1 by omega,show d+1-1=d by omega,List.set_append_right _ _ (au _),Nat.sub_self,List.replicate_succ,List.set_cons_zero]
 simp
theorem a4Z {α:Type} {H T:List (List α)} {k:Nat} (hH:H.length=k) (Z:List α):rowAt (H++[Z]++T) k=Z:=by
 subst hH;unfold rowAt;simp
theorem a9W {α:Type} {H T:List (List α)} {k:Nat} (hH:H.length=k) (Z Y:List α):(H++[Z]++T).set k Y=H++[Y]++T:=by
 subst hH;simp
theorem a9V {α:Type} (g:Nat->α) (z:α) {q C:Nat} (h:q<C):(List.map g (List.range q)++List.replicate (C-q) z).set q (g q)=List.map g (List.range (q+1))++List.replicate (C-(q+1)) z:=by
 obtain⟨d,rfl⟩:∃ d,C=q+d+1:=⟨C-q-1,by omega⟩
 rw[show q+d+1-q=d+1 by omega,show q+d+1-(q+1)=d by omega,List.set_append_right _ _ (by simp),Aw]
 simp[List.replicate_succ]
theorem a7C (k C:Nat) (f:Nat->Nat->Rat):iM (k+1) C f=iM k C f++[List.map (fun j=>kC (f k j)) (List.range C)]:=by unfold iM;rw[Aw];simp
theorem jX {α:Type} {p:α->Prop}:∀ {xs:List α},mF p xs↔∀ x ∈ xs,p x
 | []=>by simp[mF]
 | x::xs=>by simp[mF,jX (xs:=xs)]
theorem b3T (R C:Nat) (f:Nat->Nat->Rat):mF (fun x=>dP [mF (fun x=>dP [aG.ok x=true]) x]) (iM R C f):=by
 refine jX.mpr fun r hr=>⟨jX.mpr fun q hq=>⟨?_,trivial⟩,trivial⟩
 obtain⟨i,_,rfl⟩:=uj.mp hr
 obtain⟨j,_,rfl⟩:=uj.mp hq
 rfl
theorem b9q (R C:Nat) (f:Nat->Nat->Rat):List.map (fun xs=>List.map (fun x=>aG.x x) xs) (iM R C f)=tab R C f:=by
 unfold iM tab;simp[kC,Function.comp_def]
instance c3c (n:Nat):OfNat (Ty.den tI) n:=inferInstanceAs (OfNat Int n)
abbrev LQ':Type:=List Rat
abbrev lv (l:LQ') (i:Nat):Rat:=l.getD i 0
theorem lD {R C:Nat} {f:Nat->Nat->Rat}:(tab R C f).length=R:=by simp[tab]
theorem IL {R C:Nat} {f:Nat->Nat->Rat} {i:Nat} (h:i<R):(tab R C f).getD i []=(List.range C).map (f i):=by
 simp[tab,dn,h]
theorem a4H {R C:Nat} {f:Nat->Nat->Rat} {i j:Nat} (h1:i<R) (h2:j<C):ent (tab R C f) i j=f i j:=by
 show ((tab R C f).getD i []).getD j 0=_
 rw[IL h1];simp[dn,h2]
theorem b1u {R C:Nat} {f:Nat->Nat->Rat}:∀ r ∈ tab R C f,r.length=C:=by
 intro r hr;obtain⟨i,_,rfl⟩:=uj.mp hr;simp
theorem IK {R C:Nat} {f:Nat->Nat->Rat} (r1:1<=R) (r2:R<=64) (c1:1<=C) (c2:C<=64):isM (tab R C f) R C:=⟨lD,b1u,r1,r2,c1,c2⟩
theorem isM.wd {a:MQ} {R C:Nat} (h:isM a R C):wdM a=C:=aV (p:=fun r:List Rat=>r.length=C) h.2.1 (by have:=h.1;have:=h.2.2.1;omega)
theorem isM.row {a:MQ} {R C:Nat} (h:isM a R C) {i:Nat} (hi:i<R):(a.getD i []).length=C:=aV (p:=fun r:List Rat=>r.length=C) h.2.1 (by have:=h.1;omega)
theorem BP {R C:Nat} {f g:Nat->Nat->Rat} (h:∀ i,i<R->∀ j,j<C->f i j=g i j):tab R C f=tab R C g:=by
 unfold tab
 refine Ad fun i hi=>Ad fun j hj=>h i (Cb.mp hi) j (Cb.mp hj)
theorem b0S {a:List Rat} {C:Nat} (h:a.length=C):(List.range C).map (fun j=>a.getD j 0)=a:=by
 apply List.ext_getElem
 ·simp[h]
 ·intro j h1 h2;simp[dn,h2]
theorem isM.tab {a:MQ} {R C:Nat} (h:isM a R C):Proofs.YtbkocjmmbkifjaaGreat.tab R C (ent a)=a:=by
 apply List.ext_getElem
 ·rw[lD,h.1]
 ·intro i h1 h2
  have hi:i<R:=by rw[<-h.1];exact h2
  have e:(Proofs.YtbkocjmmbkifjaaGreat.tab R C (ent a))[i]=(Proofs.YtbkocjmmbkifjaaGreat.tab R C (ent a)).getD i []:=by rw[dn,dw h1];rfl
  rw[e,IL hi]
  have e2:a[i]=a.getD i []:=by rw[dn,dw h2];rfl
  rw[e2];exact b0S (h.row hi)
theorem map_set {α:Type} (g:Nat->α) (C c:Nat) (v:α):((List.range C).map g).set c v=(List.range C).map (fun d=>if d=c then v else g d):=by
 apply List.ext_getElem
 ·simp
 ·intro i h1 h2
  rw[List.getElem_set]
  by_cases e:c=i
  ·subst e;simp
  ·rw[jq e];simp[show ¬ i=c by omega]
theorem a9X {α:Type} {g:Nat->α} {C c:Nat} {d:α} (h:c<C):((List.range C).map g).getD c d=g c:=by
 simp[dn,h]
def szM (a:MQ) (K:Nat):Prop:=∀ i,i<a.length->∀ j,j<wdM a->rsz (ent a i j)<=K
def okM (a:MQ):Prop:=isM a a.length (wdM a)/\szM a 100000000
abbrev liftM (a:MQ):MR:=List.map (fun xs=>List.map (fun x=>kC x) xs) a
theorem a6R (a:MQ):(liftM a).length=a.length:=by simp
theorem a6S (a:MQ) (i:Nat):(liftM a).getD i []=(a.getD i []).map kC:=by
 simp[dn]
 cases a[i]?<;>rfl
theorem a9G (a:MQ):wdM (liftM a)=wdM a:=by show ((liftM a).getD 0 []).length=(a.getD 0 []).length;rw[a6S,xw]
theorem okM.ent {a:MQ} (h:okM a) {r:List Rat} (hr:r ∈ a) {x:Rat} (hx:x ∈ r):rsz x<=100000000:=by
 obtain⟨i,hi,rfl⟩:=Bl hr
 obtain⟨j,hj,rfl⟩:=Bl hx
 have h1:=h.1.2.1 _ (uw hi)
 have h2:=h.2 i hi j (by rw[<-h1];exact hj)
 have e:Proofs.YtbkocjmmbkifjaaGreat.ent a i j=a[i][j]:=by
  show (a.getD i []).getD j 0=_
  rw[show a.getD i []=a[i] by rw[dn,dw hi];rfl,dn,dw hj];rfl
 rwa [e] at h2
theorem WM (x:Rat):(kC x).n<=rsz x/\(kC x).m<=rsz x:=⟨Nat.le_max_left _ _,Nat.le_max_right _ _⟩
theorem okM.short {a:MQ} (h:okM a):KJ (liftM a):=by
 refine⟨by have:=h.1.2.2.2.1;simp;omega,fun r hr=>?_⟩
 obtain⟨s,hs,rfl⟩:=uj.mp hr
 refine⟨by have:=h.1.2.1 s hs;have:=h.1.2.2.2.2.2;simp;omega,fun q hq=>?_⟩
 obtain⟨x,hx,rfl⟩:=uj.mp hq
 have h1:=h.ent hs hx
 have ⟨h2,h3⟩:=WM x
 exact⟨by omega,by omega⟩
theorem okM.chk {a:MQ} (h:okM a):vO (liftM a)=0:=by
 obtain⟨⟨h1,h2,h3,h4,h5,h6⟩,_⟩:=h
 have hb:(liftM a).any (badR (wdM a))=false:=by
  refine Bh.mpr fun r hr=>?_
  obtain⟨s,hs,rfl⟩:=uj.mp hr
  unfold badR
  have:(List.map (fun x=>kC x) s).any (fun q=>!q.ok)=false:=Bh.mpr fun q hq=>by
   obtain⟨x,_,rfl⟩:=uj.mp hq;simp[kC]
  rw[this,xw,h2 s hs];simp
 unfold vO
 rw[a6R,a9G,hb,jv ⟨h3,h4,h5,h6,rfl⟩]
def QX (m n:Int) (f:Nat->Nat->Rat) (P:Int->Int->Prop) (Fin:MR->Prop):Prop:=(m=m/\0<=m/\m<=1000000000/\True)/\(asT Int 0=0/\List.replicate m.toNat (aJ aG)=List.replicate (Int.toNat m-0) (aJ aG)/\True)/\∀ (i:{ k:Nat // k<=Int.toNat m }),asT Bool true=true/\ifB (decide (aB (aA i)<aB (iE none (List.replicate m.toNat (aJ aG))))) ((n=n/\0<=n/\n<=1000000000/\0<=aB (aA i)/\aB (aA i)<aB (iE none (iM (aA i) n.toNat f++List.replicate (Int.toNat m-aA i) (aJ aG)))/\Int.toNat (aB (aA i))<iE none (iM (aA i) n.toNat f++List.replicate (Int.toNat m-aA i) (aJ aG))/\True)/\(0<=aB (aA i)/\aB (aA i)<aB (iE (some (List.set (cO none (iM (aA i) n.toNat f++List.replicate (Int.toNat m-aA i) (aJ aG))) (aB (aA i)).toNat (iM (aA i) n.toNat f++List.replicate (Int.toNat m-aA i) (aJ aG)).length)) (iM (aA i) n.toNat f++List.replicate (Int.toNat m-aA i) (aJ aG)++List.replicate n.toNat { ok:=false,x:=0,g:=aJ Nat,h:=aJ Nat }::aJ (List aG)))/\Int.toNat (aB (aA i))<iE (some (List.set (cO none (iM (aA i) n.toNat f++List.replicate (Int.toNat m-aA i) (aJ aG))) (aB (aA i)).toNat (iM (aA i) n.toNat f++List.replicate (Int.toNat m-aA i) (aJ aG)).length)) (iM (aA i) n.toNat f++List.replicate (Int.toNat m-aA i) (aJ aG)++List.replicate n.toNat { ok:=false,x:=0,g:=aJ Nat,h:=aJ Nat }::aJ (List aG))/\True)/\(asT Int 0=0/\List.Nodup (List.set (cO none (iM (aA i) n.toNat f++List.replicate (Int.toNat m-aA i) (aJ aG))) (aB (aA i)).toNat (iM (aA i) n.toNat f++List.replicate (Int.toNat m-aA i) (aJ aG)).length)/\List.map (fun(i_1:Nat)=>List.getD (iM (aA i) n.toNat f++List.replicate (Int.toNat m-aA i) (aJ aG)++List.replicate n.toNat { ok:=false,x:=0,g:=aJ Nat,h:=aJ Nat }::aJ (List aG)) i_1 (aJ aG)) (List.set (cO none (iM (aA i) n.toNat f++List.replicate (Int.toNat m-aA i) (aJ aG))) (aB (aA i)).toNat (iM (aA i) n.toNat f++List.replicate (Int.toNat m-aA i) (aJ aG)).length)=iM (aA i) n.toNat f++(List.map (fun(j:Nat)=>kC (f (aA i) j)) (List.range 0)++List.replicate (Int.toNat n-0) bM)::aJ (List aG)++List.replicate (Int.toNat m-aA i-1) (aJ aG)/\True)/\∀ (i_1:{ q:Nat // q<=Int.toNat n }),asT Bool true=true/\ifB (decide (aB (aA i_1)<aB (rowAt (iM (aA i) n.toNat f++List.replicate (Int.toNat m-aA i) (aJ aG)++List.replicate n.toNat { ok:=false,x:=0,g:=aJ Nat,h:=aJ Nat }::aJ (List aG)) (nameAt (some (List.set (cO none (iM (aA i) n.toNat f++List.replicate (Int.toNat m-aA i) (aJ aG))) (aB (aA i)).toNat (iM (aA i) n.toNat f++List.replicate (Int.toNat m-aA i) (aJ aG)).length)) (aB (aA i)).toNat)).length)) ((0<=aB (aA i)/\aB (aA i)<aB (iE none (iM (aA i) n.toNat f++(List.map (fun(j:Nat)=>kC (f (aA i) j)) (List.range (aA i_1))++List.replicate (Int.toNat n-aA i_1) bM)::aJ (List aG)++List.replicate (Int.toNat m-aA i-1) (aJ aG)))/\Int.toNat (aB (aA i))<iE none (iM (aA i) n.toNat f++(List.map (fun(j:Nat)=>kC (f (aA i) j)) (List.range (aA i_1))++List.replicate (Int.toNat n-aA i_1) bM)::aJ (List aG)++List.replicate (Int.toNat m-aA i-1) (aJ aG))/\P (aB (aA i)) (aB (aA i_1))/\0<=aB (aA i_1)/\aB (aA i_1)<aB (rowAt (iM (aA i) n.toNat f++(List.map (fun(j:Nat)=>kC (f (aA i) j)) (List.range (aA i_1))++List.replicate (Int.toNat n-aA i_1) bM)::aJ (List aG)++List.replicate (Int.toNat m-aA i-1) (aJ aG)) (nameAt none (aB (aA i)).toNat)).length/\Int.toNat (aB (aA i_1))<List.length (rowAt (iM (aA i) n.toNat f++(List.map (fun(j:Nat)=>kC (f (aA i) j)) (List.range (aA i_1))++List.replicate (Int.toNat n-aA i_1) bM)::aJ (List aG)++List.replicate (Int.toNat m-aA i-1) (aJ aG)) (nameAt none (aB (aA i)).toNat))/\True)/\∃ (i':{ q:Nat // q<=Int.toNat n }),Int.toNat n-aA i'<Int.toNat n-aA i_1/\IntKind.wrap IntKind.i64 (aB (aA i_1)+1)=aB (aA i')/\List.set (iM (aA i) n.toNat f++(List.map (fun(j:Nat)=>kC (f (aA i) j)) (List.range (aA i_1))++List.replicate (Int.toNat n-aA i_1) bM)::aJ (List aG)++List.replicate (Int.toNat m-aA i-1) (aJ aG)) (nameAt none (aB (aA i)).toNat) (List.set (rowAt (iM (aA i) n.toNat f++(List.map (fun(j:Nat)=>kC (f (aA i) j)) (List.range (aA i_1))++List.replicate (Int.toNat n-aA i_1) bM)::aJ (List aG)++List.replicate (Int.toNat m-aA i-1) (aJ aG)) (nameAt none (aB (aA i)).toNat)) (aB (aA i_1)).toNat (kC (f (aB (aA i)).toNat (aB (aA i_1)).toNat)))=iM (aA i) n.toNat f++(List.map (fun(j:Nat)=>kC (f (aA i) j)) (List.range (aA i'))++List.replicate (Int.toNat n-aA i') bM)::aJ (List aG)++List.replicate (Int.toNat m-aA i-1) (aJ aG)/\True) (∃ (i':{ k:Nat // k<=Int.toNat m }),Int.toNat m-aA i'<Int.toNat m-aA i/\IntKind.wrap IntKind.i64 (aB (aA i)+1)=aB (aA i')/\iM (aA i) n.toNat f++(List.map (fun(j:Nat)=>kC (f (aA i) j)) (List.range (aA i_1))++List.replicate (Int.toNat n-aA i_1) bM)::aJ (List aG)++List.replicate (Int.toNat m-aA i-1) (aJ aG)=iM (aA i') n.toNat f++List.replicate (Int.toNat m-aA i') (aJ aG)/\True)) (Fin (iM (aA i) n.toNat f++List.replicate (Int.toNat m-aA i) (aJ aG)))
theorem JZ {R C:Nat} {f:Nat->Nat->Rat} {P:Int->Int->Prop} {Fin:MR->Prop} (r2:R<=1000) (c2:C<=1000) (hP:∀ i j:Nat,i<R->j<C->P i j) (hF:Fin (iM R C f)):QX R C f P Fin:=by
 unfold QX
 have hZ:(⟨false,0,[],[]⟩:aG)=bM:=rfl
 dsimp only[aB,asT,aA,aJ] at *
 simp only[hZ,Int.toNat_natCast,aO,ay,ak,ni,lg]
 have hX:∀ k,k<=R->(iM k C f++List.replicate (R-k) ([]:List aG)).length=R:=fun k hk=>by rw[gy,jQ,Au];omega
 have hY:∀ k (Z:List aG),k<R->(iM k C f++[Z]++List.replicate (R-k-1) ([]:List aG)).length=R:=fun k Z hk=>by rw[gy,gy,jQ,Au];simp;omega
 refine⟨by omega,by rw[Nat.sub_zero],fun i=>⟨fun h1=>?_,fun h1=>?_⟩⟩
 ·have hi:i.1<R:=by simpa [iE] using h1
  simp only[iE,nameAt,cO,hX i.1 i.2,hY i.1 _ hi,jc,iq]
  have e1:((List.range R).set i.1 R).getD i.1 0=R:=by simp[dn,hi]
  have e2:rowAt (iM i.1 C f++List.replicate (R-i.1) []++[List.replicate C bM]) R=List.replicate C bM:=by
   have:=a4Z (T:=[]) (hX i.1 i.2) (List.replicate C bM);rwa [Ap] at this
  have e3:=a9T (iM i.1 C f++List.replicate (R-i.1) []) (List.replicate C bM) (k:=i.1) (by rw[hX i.1 i.2];exact hi)
  rw[hX i.1 i.2,a9U (jQ _ _ _) hi] at e3
  rw[e1,e2,e3,Au]
  refine⟨⟨by omega,by omega,by omega,by omega,hi⟩,⟨by omega,by omega,hi⟩,⟨b2Q R i.1,by simp⟩,fun q=>⟨fun h2=>?_,fun h2=>?_⟩⟩
  ·have hq:q.1<C:=by omega
   have hl:(List.map (fun j=>kC (f i.1 j)) (List.range q.1)++List.replicate (C-q.1) bM).length=C:=by simp;omega
   rw[a4Z (jQ _ _ _),hl]
   refine⟨⟨by omega,by omega,hi,hP _ _ hi hq,by omega,by omega,hq⟩,⟨q.1+1,by omega⟩,by simp only;omega,by rw[bI (by omega) (by omega)];rfl,?_⟩
   rw[a9W (jQ _ _ _),a9V (fun j=>kC (f i.1 j)) bM hq]
  ·have hq:q.1=C:=by have:=q.2;omega
   refine⟨⟨i.1+1,by omega⟩,by simp only;omega,by rw[bI (by omega) (by omega)];rfl,?_⟩
   rw[hq,Nat.sub_self,List.replicate_zero,Ap,a7C,Nat.sub_sub]
 ·have hi:i.1=R:=by have:=i.2;simp only[iE,Au] at h1;omega
  rw[hi,Nat.sub_self,List.replicate_zero,Ap]
  exact hF
def ZY (m n:Int) (f:Nat->Nat->Rat):List Ann:=[.inv {k:Nat // k<=m.toNat} (fun k=>[(14,.val tI (k.1:Int))]) (fun k=>[(11,.mat 39 47 tR none (iM k.1 n.toNat f++List.replicate (m.toNat-k.1) []) 0)]) (fun k=>m.toNat-k.1) ⟨0,by omega⟩ (fun k=>[
 .inv {q:Nat // q<=n.toNat} (fun q=>[(27,.val tI (q.1:Int)),(20,.any),(21,.any),(24,.any),(25,.any)]) (fun q=>[(11,.mat 39 47 tR none (iM k.1 n.toNat f++[(List.range q.1).map (fun j=>kC (f k.1 j))++List.replicate (n.toNat-q.1) bM]++List.replicate (m.toNat-k.1-1) []) 0)]) (fun q=>n.toNat-q.1) ⟨0,by omega⟩ (fun _=>[])])]
abbrev LKm:LK:=.mat 39 47 tR
noncomputable def b4Y (T:List Ty) (ok:(nest T).den->Int->Int->Prop) (g:(nest T).den->Nat->Nat->Rat):Ctr:=⟨tI::tI::T,[tQ],fun x=>ok x.2.2 x.1 x.2.1,fun x=>(g x.2.2 (show Int from x.1).toNat (show Int from x.2.1).toNat,())⟩
def b4H (T:List Ty) (ok:(nest T).den->Int->Int->Prop) (x:(nest [tI,tI,nest T]).den):Prop:=∃ R C:Nat,(show Int from x.1)=R/\(show Int from x.2.1)=C/\R<=1000/\C<=1000/\∀ i j:Nat,i<R->j<C->ok x.2.2.1 i j
noncomputable def b0c (F:FuncId) (T:List Ty) (ok:(nest T).den->Int->Int->Prop) (g:(nest T).den->Nat->Nat->Rat):nI:=.mk (dec:=fun x=>⟨Classical.propDecidable _⟩) LKm [tI,tI,.clo F (nest T)] (fun x=>b4H T ok x) (fun x=>iM (show Int from x.1).toNat (show Int from x.2.1).toNat (g x.2.2.1))
def sm:Nat->(Nat->Rat)->Rat
 | 0,_=>0
 | n+1,f=>sm n f+f n
theorem lV {f g:Nat->Rat}:∀ n,(∀ i,i<n->f i=g i)->sm n f=sm n g
 | 0,_=>rfl
 | n+1,h=>by show sm n f+f n=sm n g+g n;rw[lV n (fun i hi=>h i (by omega)),h n (by omega)]
theorem pX {f:Nat->Rat}:∀ n,(∀ i,i<n->f i=0)->sm n f=0
 | 0,_=>rfl
 | n+1,h=>by show sm n f+f n=0;rw[pX n (fun i hi=>h i (by omega)),h n (by omega)];grind
theorem KL (f g:Nat->Rat):∀ n,sm n (fun i=>f i+g i)=sm n f+sm n g
 | 0=>by show (0:Rat)=0+0;grind
 | n+1=>by show sm n _+(f n+g n)=(sm n f+f n)+(sm n g+g n);rw[KL f g n];grind
theorem SL (k:Rat) (f:Nat->Rat):∀ n,sm n (fun i=>k*f i)=k*sm n f
 | 0=>by show (0:Rat)=k*0;grind
 | n+1=>by show sm n _+k*f n=k*(sm n f+f n);rw[SL k f n];grind
theorem a5M (k:Rat) (f:Nat->Rat) (n:Nat):sm n (fun i=>f i*k)=sm n f*k:=by
 rw[show (fun i=>f i*k)=(fun i=>k*f i) from funext fun i=>by grind,SL];grind
theorem b1i (f g:Nat->Rat) (n:Nat):sm n (fun i=>f i-g i)=sm n f-sm n g:=by
 rw[show (fun i=>f i-g i)=(fun i=>f i+(-1)*g i) from funext fun i=>by grind,KL f (fun i=>(-1)*g i),SL];grind
theorem a5O (f:Nat->Nat->Rat) (m:Nat):∀ n,sm n (fun i=>sm m (fun j=>f i j))=sm m (fun j=>sm n (fun i=>f i j))
 | 0=>(pX m (fun j _=>rfl)).symm
 | n+1=>by
  show sm n (fun i=>sm m (fun j=>f i j))+sm m (fun j=>f n j)=sm m (fun j=>sm n (fun i=>f i j)+f n j)
  rw[a5O f m n,KL]
theorem SN {f:Nat->Rat} (k:Nat):∀ n,k<n->(∀ i,i<n->i≠k->f i=0)->sm n f=f k
 | 0,h,_=>by omega
 | n+1,h,hz=>by
  show sm n f+f n=f k
  by_cases e:k=n
  ·rw[pX n (fun i hi=>hz i (by omega) (by omega)),e];grind
  ·rw[SN k n (by omega) (fun i hi hk=>hz i (by omega) hk),hz n (by omega) (by omega)];grind
theorem KF {x:Rat} (h:x≠0):x / x=1:=by rw[Rat.div_def,Rat.mul_inv_cancel x h]
theorem b1g (f:Nat->Rat) (m:Nat):∀ n,sm (m+n) f=sm m f+sm n (fun i=>f (m+i))
 | 0=>by show sm m f=sm m f+0;grind
 | n+1=>by show sm (m+n) f+f (m+n)=sm m f+(sm n (fun i=>f (m+i))+f (m+n));rw[b1g f m n];grind
abbrev Mt:=Nat->Nat->Rat
def mm (n:Nat) (a b:Mt):Mt:=fun i j=>sm n fun k=>a i k*b k j
def mv (n:Nat) (a:Mt) (x:Nat->Rat):Nat->Rat:=fun i=>sm n fun k=>a i k*x k
def tr (a:Mt):Mt:=fun i j=>a j i
def idm:Mt:=fun i j=>if i=j then 1 else 0
def fk (e:Mt) (j:Nat):Nat->Nat->Nat
 | r,0=>r
 | r,n+1=>if e r j=0 then fk e j (r+1) n else r
theorem VD (e:Mt) (j:Nat):∀ n r,r<=fk e j r n/\fk e j r n<=r+n
 | 0,r=>⟨au _,au _⟩
 | n+1,r=>by
  have:=VD e j n (r+1)
  unfold fk;split<;>omega
theorem MX (e:Mt) (j:Nat):∀ n r i,r<=i->i<fk e j r n->e i j=0
 | 0,r,i,h1,h2=>by unfold fk at h2;omega
 | n+1,r,i,h1,h2=>by
  unfold fk at h2;split at h2
  ·rename_i h0
   by_cases h:i=r
   ·rw[h];exact h0
   ·exact MX e j n (r+1) i (by omega) h2
  ·omega
theorem a1m (e:Mt) (j:Nat):∀ n r,fk e j r n<r+n->e (fk e j r n) j≠0
 | 0,r,h=>by unfold fk at h;omega
 | n+1,r,h=>by
  unfold fk at h ⊢;split at h
  ·rename_i h0;rw[jv h0];exact a1m e j n (r+1) (by omega)
  ·rename_i h0;rw[jq h0];exact h0
theorem c0I (e:Mt) (j r n k:Nat) (h1:r<=k) (h2:k<=r+n) (hz:∀ i,r<=i->i<k->e i j=0) (hn:k<r+n->e k j≠0):fk e j r n=k:=by
 have ⟨a1,a2⟩:=VD e j n r
 rcases Nat.lt_trichotomy (fk e j r n) k with h|h|h
 ·exact absurd (hz _ a1 h) (a1m e j n r (by omega))
 ·exact h
 ·exact absurd (MX e j n r k h1 h) (hn (by omega))
theorem a8C {e f:Mt} {j:Nat} (n r:Nat) (h:∀ i,r<=i->i<r+n->e i j=f i j):fk e j r n=fk f j r n:=by
 have ⟨a1,a2⟩:=VD f j n r
 refine c0I e j r n _ a1 a2 (fun i h1 h2=>?_) (fun h1=>?_)
 ·rw[h i h1 (by omega)];exact MX f j n r i h1 h2
 ·rw[h _ a1 h1];exact a1m f j n r h1
def wG (e:Mt) (r k:Nat):Mt:=fun i=>if i=r then e k else if i=k then e r else e i
def rC (e:Mt) (r k j:Nat):Mt:=fun i c=>if i=r then e k c / e k j else wG e r k i c-wG e r k i j*(e k c / e k j)
def red (R:Nat) (e:Mt):Nat->Mt × List Nat
 | 0=>(e,[])
 | n+1 =>
  if fk (red R e n).1 n (red R e n).2.length (R-(red R e n).2.length)=R then red R e n
  else (rC (red R e n).1 (red R e n).2.length (fk (red R e n).1 n (red R e n).2.length (R-(red R e n).2.length)) n,(red R e n).2++[n])
structure Ech (R:Nat) (e:Mt) (n:Nat) (m:Mt) (p:List Nat):Prop where
 le:p.length<=R
 lt:∀ j ∈ p,j<n
 nd:p.Nodup
 unit:∀ t (h:t<p.length) i,i<R->m i p[t]=if i=t then 1 else 0
 rest:∀ i,p.length<=i->i<R->∀ c,c<n->m i c=0
 sol:∀ C (x:Nat->Rat),(∀ i,i<R->mv C e x i=0)↔(∀ i,i<R->mv C m x i=0)
theorem a0x (m:Mt) (r k j C:Nat) (x:Nat->Rat) (i:Nat):mv C (rC m r k j) x i=if i=r then mv C m x k / m k j else mv C (wG m r k) x i-wG m r k i j*(mv C m x k / m k j):=by
 unfold mv rC
 by_cases h:i=r
 ·simp only[jv h]
  rw[show (fun c=>m k c / m k j*x c)=(fun c=>m k c*x c*(m k j)⁻¹) from funext fun c=>by rw[Rat.div_def];grind,a5M,Rat.div_def]
 ·simp only[jq h]
  rw[show (fun c=>(wG m r k i c-wG m r k i j*(m k c / m k j))*x c)=(fun c=>wG m r k i c*x c-(wG m r k i j*(m k j)⁻¹)*(m k c*x c)) from funext fun c=>by rw[Rat.div_def];grind,b1i (fun c=>wG m r k i c*x c) (fun c=>(wG m r k i j*(m k j)⁻¹)*(m k c*x c)),SL,Rat.div_def];grind
theorem b1o (m:Mt) (R r k j C:Nat) (x:Nat->Rat) (hr:r<R) (hk:k<R) (hz:m k j≠0):(∀ i,i<R->mv C m x i=0)↔(∀ i,i<R->mv C (rC m r k j) x i=0):=by
 have hsw:∀ i,mv C (wG m r k) x i=if i=r then mv C m x k else if i=k then mv C m x r else mv C m x i:=fun i=>by
  unfold mv wG;by_cases h1:i=r
  ·simp only[jv h1]
  ·by_cases h2:i=k
   ·simp only[jq h1,jv h2]
   ·simp only[jq h1,jq h2]
 constructor
 ·intro h i hi
  rw[a0x,hsw,h k hk]
  split
  ·rw[Rat.div_def];grind
  ·have:=h i hi;have:=h r hr;rw[Rat.div_def];split<;>grind
 ·intro h
  have h1:=h r hr
  rw[a0x,jv rfl,Rat.div_def] at h1
  have hkz:mv C m x k=0:=by
   have:mv C m x k=mv C m x k*(m k j)⁻¹*m k j:=by rw[Rat.mul_assoc,Rat.inv_mul_cancel _ hz];grind
   rw[this,h1];grind
  have hA:∀ i,i<R->i≠r->(if i=k then mv C m x r else mv C m x i)=0:=fun i hi hir=>by
   have:=h i hi
   rw[a0x,jq hir,hsw,jq hir,hkz,Rat.div_def] at this
   grind
  intro i hi
  by_cases e1:i=k
  ·rw[e1];exact hkz
  ·by_cases e2:i=r
   ·have:=hA k hk (by omega)
    rw[jv rfl] at this;rw[e2];exact this
   ·have:=hA i hi e2
    rw[jq e1] at this;exact this
theorem xG (R:Nat) (e:Mt):∀ n,Ech R e n (red R e n).1 (red R e n).2
 | 0=>⟨um _,fun j h=>(nomatch h),List.nodup_nil,fun t h=>absurd h (Nat.not_lt_zero _),fun i _ _ c h=>absurd h (Nat.not_lt_zero _),fun _ _=>Iff.rfl⟩
 | n+1=>by
  have ih:=xG R e n
  rw[show red R e (n+1)=(if fk (red R e n).1 n (red R e n).2.length (R-(red R e n).2.length)=R then ((red R e n).1,(red R e n).2) else (rC (red R e n).1 (red R e n).2.length (fk (red R e n).1 n (red R e n).2.length (R-(red R e n).2.length)) n,(red R e n).2++[n])) from rfl]
  generalize (red R e n).1=m at *
  generalize (red R e n).2=p at *
  generalize hk:fk m n p.length (R-p.length)=k
  have ⟨k1,k2⟩:=VD m n (R-p.length) p.length
  have k3:=MX m n (R-p.length) p.length
  have k4:=a1m m n (R-p.length) p.length
  rw[hk] at k1 k2 k3 k4
  have hle:=ih.le
  by_cases hR:k=R
  ·rw[jv hR]
   exact⟨ih.le,fun j hj=>Nat.lt_succ_of_lt (ih.lt j hj),ih.nd,ih.unit,fun i h1 h2 c hc=>by
    by_cases e1:c=n
    ·rw[e1];exact k3 i h1 (by omega)
    ·exact ih.rest i h1 h2 c (by omega),ih.sol⟩
  ·rw[jq hR]
   have hz:m k n≠0:=k4 (by omega)
   refine⟨by simp;omega,fun j hj=>?_,?_,fun t ht i hi=>?_,fun i h1 h2 c hc=>?_,fun C x=>?_⟩
   ·rcases tu.mp hj with h|h
    ·exact Nat.lt_succ_of_lt (ih.lt j h)
    ·rw[uq.mp h];omega
   ·refine List.nodup_append.mpr ⟨ih.nd,by simp,fun a ha b hb=>?_⟩
    have:=ih.lt a ha;rw[uq.mp hb];omega
   ·have ht:t<p.length+1:=by simpa using ht
    show rC m p.length k n i (p++[n])[t]=_
    by_cases e1:t=p.length
    ·have hc:(p++[n])[t]=n:=by simp[e1]
     rw[hc,e1];unfold rC
     by_cases e2:i=p.length
     ·rw[jv e2,jv e2];exact KF hz
     ·rw[jq e2,jq e2,KF hz];grind
    ·have hl:t<p.length:=by omega
     have hc:(p++[n])[t]=p[t]:=by rw[List.getElem_append_left hl]
     have hkt:=ih.unit t hl k (by omega)
     rw[jq (show ¬ k=t by omega)] at hkt
     rw[hc];unfold rC wG
     rw[hkt]
     by_cases e2:i=p.length
     ·rw[jv e2,jq (by omega),Rat.div_def];grind
     ·simp only[jq e2]
      by_cases e3:i=k
      ·simp only[jv e3]
       rw[ih.unit t hl p.length (by omega),jq (by omega),jq (by omega),Rat.div_def];grind
      ·simp only[jq e3]
       rw[ih.unit t hl i hi,Rat.div_def];grind
   ·have h1:p.length+1<=i:=by simpa using h1
    show rC m p.length k n i c=0
    have hsz:∀ c,c<n->wG m p.length k i c=0:=fun c hc=>by
     unfold wG;rw[jq (by omega)]
     split
     ·exact ih.rest p.length (au _) (by omega) c hc
     ·exact ih.rest i (by omega) h2 c hc
    unfold rC;rw[jq (by omega)]
    by_cases e1:c=n
    ·rw[e1,KF hz];grind
    ·rw[hsz c (by omega),ih.rest k k1 (by omega) c (by omega),Rat.div_def];grind
   ·rw[ih.sol C x];exact b1o m R p.length k n C x (by omega) (by omega) hz
end Go.Proofs.YtbkocjmmbkifjaaGreat
