/-
  Lemmas for the theorem vestimables_holds, part 34 of 36.
-/
import Derived.Lib.SmallJoins
import Derived.OpenShut
import Derived.Test.YtgplhbhfdgempaaGreatRows
import Derived.Test.YtgplhbhfdgempaaGreatQe33
namespace Go.Proofs.YtgplhbhfdgempaaGreat
open Go Go.RowKit
set_option maxRecDepth 100000
set_option maxHeartbeats 1000000
set_option linter.unusedVariables false
set_option linter.unusedSimpArgs false
theorem okM.JI {a:MQ} (h:okM a):Proofs.YtgplhbhfdgempaaGreat.JI a:=⟨by have:=h.r64;omega,fun r hr=>⟨by rw[h.1.2.1 r hr];have:=h.c64;omega,fun q hq=>h.ent hr hq⟩⟩
def b5X:Ctr:=⟨[tM],[tI],fun x=>okE x.1,fun x=>((rkM x.1:Int),())⟩
theorem ZG:aW Tryz.prog 14 b5X:=by
 refine bH (nil0.ad b1D) ⟨[],[],[]⟩ Tryz.func14 rfl (by decide) (fun x=>[]) (fun x hp=>?_)
 obtain⟨a,u⟩:=x
 change List (List Rat) at a
 refine bP ((okE a/\True)/\True/\aB (dA (lN a)).length=aB (rkM a)/\True) (by kernel_rfl) ?_
 have hZ:(⟨false,0,[],[]⟩:aF)=bU:=rfl
 dsimp only[aB,asT,aA,aC,Ty.den,Lf.den] at *
 simp only[hZ,Int.toNat_natCast,aT,ay,au,oh,ny,aH,nameAt,aV,aS,bF,rowAt,iw,gy]
 have hE:okE a:=hp
 exact⟨hE,by rw[sO];rfl⟩
def c1x:Ctr:=⟨[tM],[tB],fun x=>okM x.1/\wdM (show MQ from x.1)=(show MQ from x.1).length,fun x=>(tY x.1,())⟩
def wK (a:MQ) (v:LQ'):Rat:=sm v.length fun i=>lv v i*lv (mvL a v) i
def a9h:Ctr:=⟨[tM,.list tQ],[tQ],fun x=>okM x.1/\szM x.1 1000000/\wdM (show MQ from x.1)=(show MQ from x.1).length/\(show LQ' from x.2.1).length=wdM (show MQ from x.1)/\(show MQ from x.1).length<=10/\∀ q ∈ (show LQ' from x.2.1),rsz q<=100000,fun x=>(wK x.1 x.2.1,())⟩
def c3H:Ctr:=⟨[.list tQ],[tB],fun x=>(show LQ' from x.1).length<=1000/\∀ q ∈ (show LQ' from x.1),rsz q<=100000000,fun x=>((show LQ' from x.1).any (fun q=>decide (q≠0)),())⟩
theorem b1T:aW Tryz.prog 13 c1x:=by
 refine bH ((nil0.ad a3z).ad a1p) ⟨[],[],[]⟩ Tryz.func13 rfl (by decide) (fun x=>[]) (fun x hp=>?_)
 obtain⟨a,u⟩:=x
 change List (List Rat) at a
 refine bP ((okM a/\(JI a/\JI (trM a))/\True)/\True/\decide (a=trM a)=tY a/\True) (by kernel_rfl) ?_
 have hZ:(⟨false,0,[],[]⟩:aF)=bU:=rfl
 dsimp only[aB,asT,aA,aC,Ty.den,Lf.den] at *
 simp only[hZ,Int.toNat_natCast,aT,ay,au,oh,ny,aH,nameAt,aV,aS,bF,rowAt,iw,gy]
 have hp:okM a/\wdM a=a.length:=hp
 obtain⟨ha,hw⟩:=hp
 have q1:=ha.r64
 have q2:=ha.c64
 have hM:isM a a.length a.length:=by have:=ha.1;rwa [hw] at this
 have hT:=hM.trp
 refine⟨⟨ha,ha.JI,?_⟩,?_⟩
 ·refine okM.JI ⟨hT.self,fun i hi j hj=>?_⟩
  rw[hT.len] at hi
  rw[hT.wd] at hj
  rw[hM.XI hi hj];exact ha.2 j hj i (by omega)
 ·unfold tY
  refine Ap.mpr ⟨fun h i hi j hj=>?_,fun h=>?_⟩
  ·rw[<-hM.XI hi hj,<-h]
  ·exact hM.tab.symm.trans ((fU fun i hi j hj=>by rw[hM.XI hi hj];exact h i hi j hj).trans hT.tab)
theorem b1J:aW Tryz.prog 75 a9h:=by
 refine bH ((((nil0.ad a5E).ad a1H).ad JH).ad VE) ⟨[4,5],[],[]⟩ Tryz.func75 rfl (by decide) (fun x=>[.inv {k:Nat // k<=(show LQ' from x.2.1).length} (fun k=>[(7,.val tI (k.1:Int))]) (fun k=>[(4,.box [⟨tR,bU⟩]),(5,.box [⟨tQ,sm k.1 fun i=>lv (show LQ' from x.2.1) i*lv (mvL (show MQ from x.1) (show LQ' from x.2.1)) i⟩])]) (fun k=>(show LQ' from x.2.1).length-k.1) ⟨0,by omega⟩ (fun _=>[])]) (fun x hp=>?_)
 obtain⟨a,v,u⟩:=x
 change List (List Rat) at a
 change List Rat at v
 refine bP ((iW 0/\True)/\((okM a/\szM a 1000000/\List.length v=wdM a/\∀ (q:Rat),q ∈ v->rsz q<=1000000)/\True)/\(asT Int 0=0/\asT aF bU=bU/\(fA 0=sm 0 fun(i:Nat)=>lv v i*lv (mvL a v) i)/\True)/\∀ (i:{ k:Nat // k<=List.length v }),let A₀:=(aB (aA i)).toNat;let A₁:=(sm (aA i) fun(i:Nat)=>lv v i*lv (mvL a v) i);asT Bool true=true/\ifB (decide (aB (aA i)<aB v.length)) ((0<=aB (aA i)/\aB (aA i)<aB v.length/\0<=aB (aA i)/\aB (aA i)<aB (mvL a v).length/\s19 (List.getD v A₀ 0) (List.getD (mvL a v) A₀ 0)/\s19 A₁ (List.getD v A₀ 0*List.getD (mvL a v) A₀ 0)/\True)/\∃ (i':{ k:Nat // k<=List.length v }),List.length v-aA i'<List.length v-aA i/\IntKind.wrap IntKind.i64 (aB (aA i)+1)=aB (aA i')/\asT aF bU=bU/\(A₁+List.getD v A₀ 0*List.getD (mvL a v) A₀ 0=sm (aA i') fun(i:Nat)=>lv v i*lv (mvL a v) i)/\True) (True/\A₁=wK a v/\True)) (by kernel_rfl) ?_
 have hZ:(⟨false,0,[],[]⟩:aF)=bU:=rfl
 dsimp only[aB,asT,aA,aC,Ty.den,Lf.den] at *
 simp only[hZ,Int.toNat_natCast,aT,ay,au,oh,ny,aH,nameAt,aV,aS,bF,rowAt,iw,gy]
 have hp:okM a/\szM a 1000000/\wdM a=a.length/\v.length=wdM a/\a.length<=10/\∀ q ∈ v,rsz q<=100000:=hp
 obtain⟨ha,sa,hw,hv,h10,sv⟩:=hp
 have hl:(mvL a v).length=a.length:=uK a v
 have zv:∀ i,i<v.length->rsz (lv v i)<=100000:=fun i hi=>dY sv hi
 have zm:∀ i,i<v.length->rsz (lv (mvL a v) i)<=11000020:=fun i hi=>by
  rw[YP ha.1 (show i<a.length by omega)]
  have:=xH (K:=1100000) (f:=fun k=>ent a i k*lv v k) (wdM a) (fun k hk=>by
   have y1:=sa i (by omega) k hk
   have y2:=zv k (by omega)
   have y3:=lS (ent a i k) (lv v k)
   show rsz (ent a i k*lv v k)<=_
   omega)
  have y4:wdM a*(1100000+1)<=10*1100001:=ou (by omega) (by omega)
  show rsz (sm (wdM a) fun k=>ent a i k*lv v k)<=_
  omega
 refine⟨by unfold iW;omega,⟨ha,sa,hv,fun q hq=>jg (sv q hq) (by omega)⟩,rfl,fun i=>⟨fun h1=>?_,fun h1=>?_⟩⟩
 ·have hi:i.1<v.length:=by omega
  have z1:rsz (v.getD i.1 0)<=100000:=zv i.1 hi
  have z2:rsz ((mvL a v).getD i.1 0)<=11000020:=zm i.1 hi
  have z3:=lS (v.getD i.1 0) ((mvL a v).getD i.1 0)
  have z4:rsz (sm i.1 fun i=>lv v i*lv (mvL a v) i)<=111000211:=by
   have:=xH (K:=11100020) (f:=fun k=>lv v k*lv (mvL a v) k) i.1 (fun k hk=>by
    have y1:=zv k (by omega)
    have y2:=zm k (by omega)
    have y3:=lS (lv v k) (lv (mvL a v) k)
    show rsz (lv v k*lv (mvL a v) k)<=_
    omega)
   have y4:i.1*(11100020+1)<=10*11100021:=ou (by omega) (by omega)
   omega
  rw[hl]
  exact⟨⟨by omega,h1,by omega,by omega,⟨by omega,by omega⟩,⟨by omega,by omega⟩⟩,⟨i.1+1,by omega⟩,by simp only;omega,by rw[aZ (by omega) (by omega)];rfl,rfl⟩
 ·have hi:i.1=v.length:=by have:=i.2;omega
  rw[hi];rfl
theorem a7a:aW Tryz.prog 30 c3H:=by
 refine bH (nil0.ad b2M) ⟨[],[],[]⟩ Tryz.func30 rfl (by decide) (fun x=>[.inv {k:Nat // k<=(show LQ' from x.1).length/\((show LQ' from x.1).take k).any (fun q=>decide (q≠0))=false} (fun k=>[(3,.val tI (k.1:Int))]) (fun k=>[]) (fun k=>(show LQ' from x.1).length-k.1) ⟨0,by omega,rfl⟩ (fun _=>[])]) (fun x hp=>?_)
 obtain⟨x,u⟩:=x
 change List Rat at x
 refine bP ((asT Int 0=0/\True)/\∀ (i:{ k:Nat // k<=List.length x/\(List.any (List.take k x) fun(q:Rat)=>decide (q≠0))=false }),asT Bool true=true/\ifB (decide (aB (aA i)<aB x.length)) ((0<=aB (aA i)/\aB (aA i)<aB x.length/\rsz (List.getD x (aB (aA i)).toNat 0)<=190000000/\True)/\ifB (sgn (Rat.num (List.getD x (aB (aA i)).toNat 0)) != 0) (True/\(true=List.any x fun(q:Rat)=>decide (q≠0))/\True) (∃ (i':{ k:Nat // k<=List.length x/\(List.any (List.take k x) fun(q:Rat)=>decide (q≠0))=false }),List.length x-aA i'<List.length x-aA i/\IntKind.wrap IntKind.i64 (aB (aA i)+1)=aB (aA i')/\True)) (True/\(false=List.any x fun(q:Rat)=>decide (q≠0))/\True)) (by kernel_rfl) ?_
 have hZ:(⟨false,0,[],[]⟩:aF)=bU:=rfl
 dsimp only[aB,asT,aA,aC,Ty.den,Lf.den] at *
 simp only[hZ,Int.toNat_natCast,aT,ay,au,oh,ny,aH,nameAt,aV,aS,bF,rowAt,iw,gy]
 have hp:x.length<=1000/\∀ q ∈ x,rsz q<=100000000:=hp
 obtain⟨hl,sx⟩:=hp
 refine fun i=>⟨fun h1=>?_,fun h1=>?_⟩
 ·have hi:i.1<x.length:=by omega
  have z:rsz (x.getD i.1 0)<=100000000:=dY sx hi
  refine⟨⟨by omega,h1,by omega⟩,fun h2=>?_,fun h2=>⟨⟨i.1+1,by omega,?_⟩,by simp only;omega,by rw[aZ (by omega) (by omega)];rfl⟩⟩
  ·refine(vw.mpr ⟨x.getD i.1 0,kF hi,?_⟩).symm
   show decide (x.getD i.1 0≠0)=true
   by_cases e:x.getD i.1 0=0
   ·rw[e] at h2;cases h2
   ·rw[ay];exact e
  ·have e:x.getD i.1 0=0:=nZ.mp (by simpa using h2)
   rw[mO (d:=0) hi,i.2.2]
   show (false || decide (x.getD i.1 0≠0))=false
   rw[e];rfl
 ·have h3:=i.2.2
  rw[jd (by omega)] at h3
  exact h3.symm
def c3u:Ctr:=⟨[tR],[tI],fun x=>True,fun x=>(IntKind.wrap .i64 (((show aF from x.1).n:Int)+((show aF from x.1).m:Int)),())⟩
theorem b3m:aW Tryz.prog 86 c3u:=by
 refine bH nil0 ⟨[],[],[]⟩ Tryz.func86 rfl (by decide) (fun x=>[]) (fun x hp=>?_)
 obtain⟨q,u⟩:=x
 change aF at q
 refine bP (True/\IntKind.wrap IntKind.i64 (aB (aF.g q).length+aB (aF.h q).length)=IntKind.wrap IntKind.i64 (aB (aF.n q)+aB (aF.m q))/\True) (by kernel_rfl) ?_
 exact⟨trivial,rfl,trivial⟩
def mD (q:aF):Bool:=(decide (q.n<=1)&&decide (q.m<=1))&&((decide (q.n=0) || decide (q.g.getD 0 0<100000))&&(decide (q.m=0) || decide (q.h.getD 0 0<=100)))
def c3p:Ctr:=⟨[tR],[tB],fun x=>True,fun x=>(mD x.1,())⟩
theorem b2V:aW Tryz.prog 87 c3p:=by
 refine bH nil0 ⟨[],[],[]⟩ Tryz.func87 rfl (by decide) (fun x=>[]) (fun x hp=>?_)
 obtain⟨q,u⟩:=x
 change aF at q
 refine bP (let A₁:=(aF.g q).length;let aQ:=((aB A₁==0)==false);let bK:=(decide (aB A₁ > 1)==false);let dJ:=(aF.h q).length;let dS:=(aB (List.getD (aF.g q) 0 0)<100000);let A₀:=(bif aB A₁==0 then true else decide dS);let A₂:=(A₀==true&&(aB dJ==0)==false);let bZ:=((A₀==true)=true->(A₀==true)=true/\True);let gB:=(bK=true->bK=true/\True);let gQ:=(aQ=true->aQ=true/\True);let eU:=(A₂=true->A₂=true/\True);(gB/\gB/\(decide (aB A₁ > 1)=false->bK=true)/\True)/\ifB (bif decide (aB A₁ > 1) then true else decide (aB dJ > 1)) (True/\false=mD q/\True) (((aQ=true->aQ=true/\asT Int 0<=0/\0<aB A₁/\True)/\gQ/\gQ/\((aB A₁==0)=false->aQ=true)/\bZ/\bZ/\bZ/\(A₂=true->A₂=true/\asT Int 0<=0/\0<aB dJ/\True)/\eU/\eU/\((A₀==true)=true->(A₀==true)=true/\((aB dJ==0)=false->A₂=true)/\True)/\(A₀=true->(A₀==true)=true)/\True)/\True/\(bif bif aB A₁==0 then true else decide dS then bif aB dJ==0 then true else decide (aB (List.getD (aF.h q) 0 0)<=100) else false)=mD q/\True)) (by kernel_rfl) ?_
 try simp only[aT,ay,au]
 try dsimp only[Ty.den,Lf.den,asT] at *
 try simp only[yH,yA,trF,yI]
 have hZ:(⟨false,0,[],[]⟩:aF)=bU:=rfl
 try dsimp only[aB,asT,aA,aC,Ty.den,Lf.den] at *
 try simp only[hZ,Int.toNat_natCast,aT,ay,au,oh,ny,aH,nameAt,aV,aS,bF,rowAt,iw,gy]
 try simp only[kX,List.all_cons,List.all_nil,xu,mg,tu,ji,uy,ne_eq,ak,qm,jo,qw,uw,Ci,yw,Cj,oh,ny,jC,uf,qo,List.length_cons,List.length_nil]
 try simp only[wdF,kJ,kU]
 have h01:∀ n:Nat,(¬ (n:Int) > 1)->decide ((n:Int) > 1)=false:=fun n h=>oq h
 have hd:∀ n:Nat,decide ((n:Int) > 1)=!decide (n<=1):=fun n=>by
  by_cases h:n<=1
  ·rw[pz h,oq (by omega)];rfl
  ·rw[oq h,pz (by omega)];rfl
 have hz:∀ n:Nat,(((n:Nat):Int)==0)=decide (n=0):=fun n=>by
  by_cases h:n=0
  ·rw[h];rfl
  ·rw[oq h];exact jo.mpr (by omega)
 refine⟨h01 _,fun h=>?_,fun h=>⟨⟨fun a=>⟨a,by omega,by omega⟩,fun a=>⟨a,by omega,by omega⟩,fun a=>⟨a,fun b=>⟨a,b⟩⟩⟩,?_⟩⟩
 ·rw[hd,hd] at h
  unfold mD
  have:(decide (q.n<=1)&&decide (q.m<=1))=false:=by
   rcases h with h|h
   ·rw[show decide (q.n<=1)=false by simpa using h];rfl
   ·rw[show decide (q.m<=1)=false by simpa using h,Bool.and_false]
  rw[this];rfl
 ·rw[hd,hd] at h
  unfold mD
  rw[show decide (q.n<=1)=true by simpa using h.1,show decide (q.m<=1)=true by simpa using h.2,hz,hz]
  rw[show decide (((q.g.getD 0 0:Nat):Int)<100000)=decide (q.g.getD 0 0<100000) from Ap.mpr (by omega),show decide (((q.h.getD 0 0:Nat):Int)<=100)=decide (q.h.getD 0 0<=100) from Ap.mpr (by omega)]
  cases (decide (q.g.length=0) || decide (q.g.getD 0 0<100000))<;>rfl
def brL (l:LR) (m:Nat):Bool:=decide (l.length<=m)&&l.all mD
theorem xK {q:aF} (h:mD q=true):q.n<=1/\q.m<=1:=by
 unfold mD at h
 rw[ak,ak] at h
 exact⟨ru h.1.1,ru h.1.2⟩
def c3J:Ctr:=⟨[.list tR,tI,tI],[tB],fun x=>(∃ m:Nat,(show Int from x.2.1)=m/\m<=1000)/\(show Int from x.2.2.1)=6,fun x=>(brL x.1 (show Int from x.2.1).toNat,())⟩
theorem a7h:aW Tryz.prog 48 c3J:=by
 refine bH ((nil0.ad b3m).ad b2V) ⟨[],[],[]⟩ Tryz.func48 rfl (by decide) (fun x=>[.inv {k:Nat // k<=(show LR from x.1).length/\((show LR from x.1).take k).all mD=true} (fun k=>[(7,.val tI (k.1:Int))]) (fun k=>[]) (fun k=>(show LR from x.1).length-k.1) ⟨0,by omega,rfl⟩ (fun _=>[])]) (fun x hp=>?_)
 obtain⟨l,m,k,u⟩:=x
 change List aF at l
 change Int at m
 change Int at k
 refine bP (let A₀:=(True/\false=brL l m.toNat/\True);ifB (decide (aB l.length > m)) A₀ ((asT Int 0=0/\True)/\∀ (i:{ k:Nat // k<=List.length l/\List.all (List.take k l) mD=true }),let aQ:=(List.getD l (aB (aA i)).toNat bU);let A₁:=(IntKind.wrap IntKind.i64 (aB (aF.n aQ)+aB (aF.m aQ)) > k);let A₂:=(decide A₁==false&&decide (k<=6)==true);let bK:=((decide A₁==false)=true->(decide A₁==false)=true/\True);let bZ:=(A₂=true->A₂=true/\True);asT Bool true=true/\ifB (decide (aB (aA i)<aB l.length)) ((0<=aB (aA i)/\aB (aA i)<aB l.length/\True/\bK/\bK/\(A₂=true->A₂=true/\A₂=true/\0<=aB (aA i)/\aB (aA i)<aB l.length/\True)/\bZ/\(A₂=true->A₂=true/\True/\True)/\bZ/\((decide A₁==false)=true->(decide A₁==false)=true/\(decide (k<=6)=true->A₂=true)/\True)/\(decide A₁=false->(decide A₁==false)=true)/\True)/\ifB (bif decide A₁ then true else bif decide (k<=6) then !mD aQ else false) A₀ (∃ (i':{ k:Nat // k<=List.length l/\List.all (List.take k l) mD=true }),List.length l-aA i'<List.length l-aA i/\IntKind.wrap IntKind.i64 (aB (aA i)+1)=aB (aA i')/\True)) (True/\true=brL l m.toNat/\True))) (by kernel_rfl) ?_
 try simp only[aT,ay,au]
 try dsimp only[Ty.den,Lf.den,asT] at *
 try simp only[yH,yA,trF,yI]
 have hZ:(⟨false,0,[],[]⟩:aF)=bU:=rfl
 try dsimp only[aB,asT,aA,aC,Ty.den,Lf.den] at *
 try simp only[hZ,Int.toNat_natCast,aT,ay,au,oh,ny,aH,nameAt,aV,aS,bF,rowAt,iw,gy]
 try simp only[kX,List.all_cons,List.all_nil,xu,mg,tu,ji,uy,ne_eq,ak,qm,jo,qw,uw,Ci,yw,Cj,oh,ny,jC,uf,qo,List.length_cons,List.length_nil]
 try simp only[wdF,kJ,kU]
 obtain⟨⟨M,hM,c4z⟩,hk⟩:=hp
 change m=(M:Int) at hM
 change k=6 at hk
 subst hM hk
 rw[Int.toNat_natCast]
 refine⟨fun h=>?_,fun h i=>⟨fun h1=>⟨⟨by omega,h1,fun a=>⟨a,a,by omega,h1⟩,fun a=>⟨a,fun b=>⟨a,pz b⟩⟩,fun a=>oq a⟩,fun h2=>?_,fun h2=>⟨⟨i.1+1,by omega,?_⟩,by simp only;omega,?_⟩⟩,fun h1=>?_⟩⟩
 ·unfold brL;rw[oq (by omega)];rfl
 ·have hi:i.1<l.length:=by omega
  have hb:mD (l.getD i.1 bU)=false:=by
   cases e:mD (l.getD i.1 bU)
   ·rfl
   ·exfalso
    rw[e] at h2
    obtain⟨n1,m1⟩:=xK e
    rcases h2 with h2|h2
    ·have h2:=ru h2
     rw[aZ (by omega) (by omega)] at h2
     omega
    ·exact absurd h2 (by decide)
  unfold brL
  rw[show l.all mD=false from List.all_eq_false.mpr ⟨l.getD i.1 bU,by rw[bf,bn hi];exact jv hi,by rw[hb];decide⟩,Bool.and_false]
 ·have hb:mD (l.getD i.1 bU)=true:=by
   have:=h2.2
   revert this
   cases mD (l.getD i.1 bU)<;>decide
  rw[RU (d:=bU) (by omega),i.2.2,hb];rfl
 ·rw[aZ (by omega) (by omega)];rfl
 ·have h3:=i.2.2
  rw[jd (by omega)] at h3
  unfold brL;rw[h3,pz (by omega)];rfl
def FQ (a:MR):Bool:=decide (a.length<=7)&&a.all (fun r=>brL r 7)
def c3x:Ctr:=⟨[.list tMR],[tB],fun x=>(show ML from x.1).length<=100,fun x=>((show ML from x.1).all FQ,())⟩
def c1g:Ctr:=⟨[.list tR],[tB],fun x=>True,fun x=>(brL x.1 10,())⟩
theorem b3u:aW Tryz.prog 10 c3x:=by
 refine bH (nil0.ad a7h) ⟨[],[],[]⟩ Tryz.func10 rfl (by decide) (fun x=>[.inv {k:Nat // k<=(show ML from x.1).length/\((show ML from x.1).take k).all FQ=true} (fun k=>[(9,.val tI (k.1:Int))]) (fun k=>[]) (fun k=>(show ML from x.1).length-k.1) ⟨0,by omega,rfl⟩ (fun k=>[
  .inv {c:Nat // c<=((show ML from x.1).getD k.1 []).length/\(((show ML from x.1).getD k.1 []).take c).all (fun r=>brL r 7)=true} (fun c=>[(18,.val tI (c.1:Int))]) (fun c=>[]) (fun c=>((show ML from x.1).getD k.1 []).length-c.1) ⟨0,by omega,rfl⟩ (fun _=>[])])]) (fun x hp=>?_)
 obtain⟨x,u⟩:=x
 change List (List (List aF)) at x
 refine bP (let A₀:=(True/\false=List.all x FQ/\True);(asT Int 0=0/\True)/\∀ (i:{ k:Nat // k<=List.length x/\List.all (List.take k x) FQ=true }),let A₁:=(List.getD x (aA i) (aC (List aF)));let A₂:=(List.getD x (aB (aA i)).toNat (aC (List aF)));asT Bool true=true/\ifB (decide (aB (aA i)<aB x.length)) ((0<=aB (aA i)/\aB (aA i)<aB x.length/\True)/\ifB (decide (aB A₂.length > 7)) A₀ ((asT Int 0=0/\True)/\∀ (i_1:{ c:Nat // c<=List.length A₁/\(List.all (List.take c A₁) fun(r:List aF)=>brL r 7)=true }),asT Bool true=true/\ifB (decide (aB (aA i_1)<aB A₂.length)) ((0<=aB (aA i_1)/\aB (aA i_1)<aB A₂.length/\True)/\(((∃ (m:Nat),7=aB m/\m<=1000)/\asT Int 6=6)/\True)/\ifB (!brL (List.getD A₂ (aB (aA i_1)).toNat (aC aF)) 7) A₀ (∃ (i':{ c:Nat // c<=List.length A₁/\(List.all (List.take c A₁) fun(r:List aF)=>brL r 7)=true }),List.length A₁-aA i'<List.length A₁-aA i_1/\IntKind.wrap IntKind.i64 (aB (aA i_1)+1)=aB (aA i')/\True)) (∃ (i':{ k:Nat // k<=List.length x/\List.all (List.take k x) FQ=true }),List.length x-aA i'<List.length x-aA i/\IntKind.wrap IntKind.i64 (aB (aA i)+1)=aB (aA i')/\True))) (True/\true=List.all x FQ/\True)) (by kernel_rfl) ?_
 try simp only[aT,ay,au]
 try dsimp only[Ty.den,Lf.den,asT] at *
 try simp only[yH,yA,trF,yI]
 have hZ:(⟨false,0,[],[]⟩:aF)=bU:=rfl
 try dsimp only[aB,asT,aA,aC,Ty.den,Lf.den] at *
 try simp only[hZ,Int.toNat_natCast,aT,ay,au,oh,ny,aH,nameAt,aV,aS,bF,rowAt,iw,gy]
 try simp only[kX,List.all_cons,List.all_nil,xu,mg,tu,ji,uy,ne_eq,ak,qm,jo,qw,uw,Ci,yw,Cj,oh,ny,jC,uf,qo,List.length_cons,List.length_nil]
 try simp only[wdF,kJ,kU]
 have hp:x.length<=100:=hp
 refine fun i=>⟨fun h1=>⟨⟨by omega,h1⟩,fun h2=>?_,fun h2 c=>⟨fun h3=>⟨⟨by omega,h3⟩,⟨7,rfl,by omega⟩,fun h4=>?_,fun h4=>⟨⟨c.1+1,by omega,?_⟩,by simp only;omega,?_⟩⟩,fun h3=>⟨⟨i.1+1,by omega,?_⟩,by simp only;omega,?_⟩⟩⟩,fun h1=>?_⟩
 ·have hi:i.1<x.length:=by omega
  refine(List.all_eq_false.mpr ⟨x.getD i.1 [],by rw[bf,bn hi];exact jv hi,?_⟩).symm
  unfold FQ;rw[oq (by omega),Bool.false_and];decide
 ·have hi:i.1<x.length:=by omega
  have hc:c.1<(x.getD i.1 []).length:=by omega
  refine(List.all_eq_false.mpr ⟨x.getD i.1 [],by rw[bf,bn hi];exact jv hi,?_⟩).symm
  unfold FQ
  rw[show (x.getD i.1 []).all (fun r=>brL r 7)=false from List.all_eq_false.mpr ⟨(x.getD i.1 []).getD c.1 [],by rw[bf (l:=x.getD i.1 []),bn hc];exact jv hc,by rw[h4];decide⟩,Bool.and_false]
  decide
 ·rw[RU (d:=[]) (by omega),c.2.2]
  show (true&&brL ((x.getD i.1 []).getD c.1 []) 7)=true
  rw[h4];rfl
 ·rw[aZ (by omega) (by omega)];rfl
 ·rw[RU (d:=[]) (by omega),i.2.2]
  have h4:=c.2.2
  rw[jd (by omega)] at h4
  unfold FQ;rw[h4,pz (by omega)];rfl
 ·rw[aZ (by omega) (by omega)];rfl
 ·have h3:=i.2.2
  rw[jd (by omega)] at h3
  exact h3.symm
theorem b0G:aW Tryz.prog 19 c1g:=by
 refine bH (nil0.ad a7h) ⟨[],[],[]⟩ Tryz.func19 rfl (by decide) (fun x=>[]) (fun x hp=>?_)
 obtain⟨x,u⟩:=x
 change List aF at x
 refine bP ((((∃ (m:Nat),10=aB m/\m<=1000)/\asT Int 6=6)/\True)/\True/\brL x 10=brL x 10/\True) (by kernel_rfl) ?_
 try simp only[aT,ay,au]
 try dsimp only[Ty.den,Lf.den,asT] at *
 try simp only[yH,yA,trF,yI]
 have hZ:(⟨false,0,[],[]⟩:aF)=bU:=rfl
 try dsimp only[aB,asT,aA,aC,Ty.den,Lf.den] at *
 try simp only[hZ,Int.toNat_natCast,aT,ay,au,oh,ny,aH,nameAt,aV,aS,bF,rowAt,iw,gy]
 try simp only[kX,List.all_cons,List.all_nil,xu,mg,tu,ji,uy,ne_eq,ak,qm,jo,qw,uw,Ci,yw,Cj,oh,ny,jC,uf,qo,List.length_cons,List.length_nil]
 try simp only[wdF,kJ,kU]
 exact⟨10,rfl,by omega⟩
def c3O:Ctr:=⟨[.list tI],[.list tQ],fun x=>(show List Int from x.1).length<=1000/\∀ i ∈ (show List Int from x.1),iW i,fun x=>((show List Int from x.1).map (fun i=>fA i),())⟩
def c1j:Ctr:=⟨[.list tMR],[tI],fun x=>(show ML from x.1).length<=1000000/\∀ a ∈ (show ML from x.1),gU a,fun x=>(jG x.1,())⟩
theorem b5c:aW Tryz.prog 47 c3O:=by
 refine bH (nil0.ad a5D) ⟨[],[],[]⟩ Tryz.func47 rfl (by decide) (fun x=>[.inv {k:Nat // k<=(show List Int from x.1).length} (fun k=>[(9,.val tI (k.1:Int)),(3,.own 6 0),(6,.any)]) (fun k=>[(6,.row 64 tQ (((show List Int from x.1).take k.1).map (fun i=>fA i)) 0)]) (fun k=>(show List Int from x.1).length-k.1) ⟨0,by omega⟩ (fun _=>[])]) (fun x hp=>?_)
 obtain⟨x,u⟩:=x
 change List Int at x
 refine bP ((asT Int 0=0/\asT (List Rat) (aC Rat)=aC Rat/\True)/\∀ (i:{ k:Nat // k<=List.length x }),let A₀:=(fun(i:Int)=>fA i);let A₁:=(List.getD x (aB (aA i)).toNat 0);let A₂:=(List.take (aA i) x);asT Bool true=true/\ifB (decide (aB (aA i)<aB x.length)) ((0<=aB (aA i)/\aB (aA i)<aB x.length/\True)/\(iW A₁/\List.length (List.map A₀ A₂)+List.length (fA A₁::aC Rat)<=1000000000/\True)/\∃ (i':{ k:Nat // k<=List.length x }),List.length x-aA i'<List.length x-aA i/\IntKind.wrap IntKind.i64 (aB (aA i)+1)=aB (aA i')/\List.map A₀ A₂++fA A₁::aC Rat=List.map A₀ (List.take (aA i') x)/\True) (True/\List.map A₀ A₂=List.map A₀ x/\True)) (by kernel_rfl) ?_
 try simp only[aT,ay,au]
 try dsimp only[Ty.den,Lf.den,asT] at *
 try simp only[yH,yA,trF,yI]
 have hZ:(⟨false,0,[],[]⟩:aF)=bU:=rfl
 try dsimp only[aB,asT,aA,aC,Ty.den,Lf.den] at *
 try simp only[hZ,Int.toNat_natCast,aT,ay,au,oh,ny,aH,nameAt,aV,aS,bF,rowAt,iw,gy]
 try simp only[kX,List.all_cons,List.all_nil,xu,mg,tu,ji,uy,ne_eq,ak,qm,jo,qw,uw,Ci,yw,Cj,oh,ny,jC,uf,qo,List.length_cons,List.length_nil]
 try simp only[wdF,kJ,kU]
 have hp:x.length<=1000/\∀ i ∈ x,iW i:=hp
 refine fun i=>⟨fun h1=>⟨⟨by omega,h1⟩,⟨dY hp.2 (by omega),by rw[uj,jq];omega⟩,⟨i.1+1,by omega⟩,by simp only;omega,by rw[aZ (by omega) (by omega)];rfl,?_⟩,fun h1=>by rw[jd (by omega)]⟩
 have hi:i.1<x.length:=by omega
 show _=List.map (fun i=>fA i) (List.take (i.1+1) x)
 rw[Di,List.map_append,bn hi,bf,bn hi];rfl
theorem a2Z:aW Tryz.prog 12 c1j:=by
 refine bH (nil0.ad b1z) ⟨[],[],[]⟩ Tryz.func12 rfl (by decide) (fun x=>[.inv {k:Nat // k<=(show ML from x.1).length/\((show ML from x.1).take k).any (fun a=>eP a != 0)=false} (fun k=>[(7,.val tI (k.1:Int))]) (fun k=>[]) (fun k=>(show ML from x.1).length-k.1) ⟨0,by omega,rfl⟩ (fun _=>[])]) (fun x hp=>?_)
 obtain⟨x,u⟩:=x
 change List (List (List aF)) at x
 refine bP ((asT Int 0=0/\True)/\∀ (i:{ k:Nat // k<=List.length x/\(List.any (List.take k x) fun(a:List (List aF))=>eP a != 0)=false }),asT Bool true=true/\ifB (decide (aB (aA i)<aB x.length)) ((0<=aB (aA i)/\aB (aA i)<aB x.length/\True)/\(gU (List.getD x (aB (aA i)).toNat (aC (List aF)))/\True)/\ifB (eP (List.getD x (aB (aA i)).toNat (aC (List aF))) != 0) (True/\1=jG x/\True) (∃ (i':{ k:Nat // k<=List.length x/\(List.any (List.take k x) fun(a:List (List aF))=>eP a != 0)=false }),List.length x-aA i'<List.length x-aA i/\IntKind.wrap IntKind.i64 (aB (aA i)+1)=aB (aA i')/\True)) (True/\0=jG x/\True)) (by kernel_rfl) ?_
 try simp only[aT,ay,au]
 try dsimp only[Ty.den,Lf.den,asT] at *
 try simp only[yH,yA,trF,yI]
 have hZ:(⟨false,0,[],[]⟩:aF)=bU:=rfl
 try dsimp only[aB,asT,aA,aC,Ty.den,Lf.den] at *
 try simp only[hZ,Int.toNat_natCast,aT,ay,au,oh,ny,aH,nameAt,aV,aS,bF,rowAt,iw,gy]
 try simp only[kX,List.all_cons,List.all_nil,xu,mg,tu,ji,uy,ne_eq,ak,qm,jo,qw,uw,Ci,yw,Cj,oh,ny,jC,uf,qo,List.length_cons,List.length_nil]
 try simp only[wdF,kJ,kU]
 have hp:x.length<=1000000/\∀ a ∈ x,gU a:=hp
 obtain⟨hl,hb⟩:=hp
 refine fun i=>⟨fun h1=>⟨⟨by omega,h1⟩,dY hb (by omega),fun h2=>?_,fun h2=>⟨⟨i.1+1,by omega,?_⟩,by simp only;omega,?_⟩⟩,fun h1=>?_⟩
 ·have hi:i.1<x.length:=by omega
  have h3:x.any (fun a=>eP a != 0)=true:=vw.mpr ⟨x.getD i.1 [],by rw[bf,bn hi];exact jv hi,uy.mpr h2⟩
  unfold jG;rw[h3];rfl
 ·rw[mO (d:=[]) (by omega),i.2.2,h2];rfl
 ·rw[aZ (by omega) (by omega)];rfl
 ·have h3:=i.2.2
  rw[jd (by omega)] at h3
  unfold jG;rw[h3];rfl
def c3P:Ctr:=⟨[tM],[tB],fun x=>okM x.1,fun x=>(IB x.1,())⟩
theorem b5f:aW Tryz.prog 27 c3P:=by
 refine bH (nil0.ad a7a) ⟨[],[],[]⟩ Tryz.func27 rfl (by decide) (fun x=>[.inv {k:Nat // k<=(show MQ from x.1).length/\∀ i,i<k->∀ j,j<wdM (show MQ from x.1)->ent (show MQ from x.1) i j=0} (fun k=>[(7,.val tI (k.1:Int))]) (fun k=>[]) (fun k=>(show MQ from x.1).length-k.1) ⟨0,by omega,fun i h=>absurd h (by omega)⟩ (fun _=>[])]) (fun x hp=>?_)
 obtain⟨a,u⟩:=x
 change List (List Rat) at a
 refine bP ((asT Int 0=0/\True)/\∀ (i:{ k:Nat // k<=List.length a/\∀ (i:Nat),i<k->∀ (j:Nat),j<wdM a->ent a i j=0 }),asT Bool true=true/\ifB (decide (aB (aA i)<aB a.length)) ((0<=aB (aA i)/\aB (aA i)<aB a.length/\True)/\((List.length (List.getD a (aB (aA i)).toNat (aC Rat))<=1000/\∀ (q:Rat),q ∈ List.getD a (aB (aA i)).toNat (aC Rat)->rsz q<=100000000)/\True)/\ifB (List.any (List.getD a (aB (aA i)).toNat (aC Rat)) fun(q:Rat)=>decide (q≠0)) (True/\false=IB a/\True) (∃ (i':{ k:Nat // k<=List.length a/\∀ (i:Nat),i<k->∀ (j:Nat),j<wdM a->ent a i j=0 }),List.length a-aA i'<List.length a-aA i/\IntKind.wrap IntKind.i64 (aB (aA i)+1)=aB (aA i')/\True)) (True/\true=IB a/\True)) (by kernel_rfl) ?_
 try simp only[aT,ay,au]
 try dsimp only[Ty.den,Lf.den,asT] at *
 try simp only[yH,yA,trF,yI]
 have hZ:(⟨false,0,[],[]⟩:aF)=bU:=rfl
 try dsimp only[aB,asT,aA,aC,Ty.den,Lf.den] at *
 try simp only[hZ,Int.toNat_natCast,aT,ay,au,oh,ny,aH,nameAt,aV,aS,bF,rowAt,iw,gy]
 try simp only[kX,List.all_cons,List.all_nil,xu,mg,tu,ji,uy,ne_eq,ak,qm,jo,qw,uw,Ci,yw,Cj,oh,ny,jC,uf,qo,List.length_cons,List.length_nil]
 try simp only[wdF,kJ,kU]
 have ha:okM a:=hp
 have q1:=ha.r64
 have q2:=ha.c64
 refine fun i=>⟨fun h1=>?_,fun h1=>(pz fun k hk j hj=>i.2.2 k (by omega) j hj).symm⟩
 have hi:i.1<a.length:=by omega
 have hr:=ha.row hi
 have hmem:a.getD i.1 [] ∈ a:=by rw[bf,bn hi];exact jv hi
 refine⟨⟨by omega,h1⟩,⟨by rw[hr];omega,fun q hq=>ha.ent hmem hq⟩,fun h2=>?_,fun h2=>⟨⟨i.1+1,by omega,fun k hk j hj=>?_⟩,by simp only;omega,?_⟩⟩
 ·obtain⟨q,hq,hq2⟩:=vw.mp h2
  obtain⟨j,hj,e⟩:=Aw hq
  refine(oq fun h=>ru hq2 ?_).symm
  have e5:ent a i.1 j=q:=by
   show (a.getD i.1 []).getD j 0=_
   rw[bf (l:=a.getD i.1 []),bn hj];exact e
  exact e5.symm.trans (h i.1 hi j (by omega))
 ·by_cases h3:k<i.1
  ·exact i.2.2 k h3 j hj
  ·rw[show k=i.1 by omega]
   have hj2:j<(a.getD i.1 []).length:=by omega
   have:=yj.mp h2 (a.getD i.1 [])[j] (jv hj2)
   have e:ent a i.1 j=(a.getD i.1 [])[j]:=by
    show (a.getD i.1 []).getD j 0=_
    rw[bf (l:=a.getD i.1 []),bn hj2];rfl
   rw[e];simpa using this
 ·rw[aZ (by omega) (by omega)];rfl
theorem b4a {a b:MQ} {R C:Nat} (sa:szM a 1000000) (sb:szM b 1000000) (hM:isM (mulM a b) R C) (hw:wdM a=b.length) (h64:b.length<=7) {i j:Nat} (hi:i<R) (hj:j<C):rsz (ent (mulM a b) i j)<=14000008:=by
 have l1:(mulM a b).length=a.length:=bF
 have hi2:i<a.length:=by have:=hM.len;omega
 have l2:wdM (mulM a b)=wdM b:=VX (by omega)
 have hj2:j<wdM b:=by have:=hM.wd;omega
 unfold mulM
 rw[mF hi2 hj2]
 have:=xH (K:=2000000) (f:=fun k=>ent a i k*ent b k j) b.length (fun k hk=>by
  have y1:=sa i hi2 k (by omega)
  have y2:=sb k hk j hj2
  have y3:=lS (ent a i k) (ent b k j)
  show rsz (ent a i k*ent b k j)<=_
  omega)
 have y4:b.length*(2000000+1)<=7*2000001:=ou h64 (aj _)
 show rsz (sm b.length fun k=>ent a i k*ent b k j)<=_
 omega
def c3z:Ctr:=⟨[tM,tM],[tB],fun x=>a0G x.1 x.2.1/\(show MQ from x.2.1).length<=7,fun x=>(rG x.1 x.2.1,())⟩
theorem b3w:aW Tryz.prog 63 c3z:=by
 refine bH ((((nil0.ad OC).ad ZG).ad b1T).ad b5f) ⟨[],[],[]⟩ Tryz.func63 rfl (by decide) (fun x=>[]) (fun x hp=>?_)
 obtain⟨a,b,u⟩:=x
 change List (List Rat) at a
 change List (List Rat) at b
 refine bP (let A₁:=(List.getD b 0 (aC Rat)).length;let A₀:=((aB (rkM b)==aB A₁)==true);let A₂:=(A₀=true->A₀=true/\A₀=true/\True);((okM a/\wdM a=List.length a)/\(((!tY a)==false)=true->((!tY a)==false)=true/\((!tY a)==false)=true/\(okM a/\okM b/\wdM a=List.length b/\szM a 1000000/\szM b 1000000)/\True)/\(((!tY a)==false)=true->((!tY a)==false)=true/\okM (mulM a b)/\True)/\(((!tY a)==false)=true->((!tY a)==false)=true/\True)/\((!tY a)=false->((!tY a)==false)=true)/\True)/\ifB (bif !tY a then true else !IB (mulM a b)) (True/\false=rG a b/\True) ((okE b/\True)/\(asT Int 0<=0/\0<aB b.length/\(A₀=true->A₀=true/\True)/\(A₀=true->A₀=true/\okE a/\True)/\A₂/\A₂/\((aB (rkM b)==aB A₁)=true->A₀=true)/\True)/\True/\(bif aB (rkM b)==aB A₁ then aB (rkM b)==IntKind.wrap IntKind.i64 (aB a.length-aB (rkM a)) else false)=rG a b/\True)) (by kernel_rfl) ?_
 try simp only[aT,ay,au]
 try dsimp only[Ty.den,Lf.den,asT] at *
 try simp only[yH,yA,trF,yI]
 have hZ:(⟨false,0,[],[]⟩:aF)=bU:=rfl
 try dsimp only[aB,asT,aA,aC,Ty.den,Lf.den] at *
 try simp only[hZ,Int.toNat_natCast,aT,ay,au,oh,ny,aH,nameAt,aV,aS,bF,rowAt,iw,gy]
 try simp only[kX,List.all_cons,List.all_nil,xu,mg,tu,ji,uy,ne_eq,ak,qm,jo,qw,uw,Ci,yw,Cj,oh,ny,jC,uf,qo,List.length_cons,List.length_nil]
 try simp only[wdF,kJ,kU]
 have hp:a0G a b/\b.length<=7:=hp
 obtain⟨hp,b7⟩:=hp
 obtain⟨ea,eb,hw,hl,sa,sb⟩:=hp
 have ha:=ea.1
 have hb:=eb.1
 have q1:=ha.r64
 have q2:=hb.r64
 have q3:=hb.c64
 have q4:=hb.pos
 have ra:rkM a<=a.length:=a1m a
 have rb:rkM b<=b.length:=a1m b
 have hM:isM (mulM a b) a.length (wdM b):=ha.1.mul (by have:=hb.1;rwa [hl,<-hw] at this)
 have okP:okM (mulM a b):=⟨hM.self,fun i hi j hj=>by
  rw[hM.len] at hi;rw[hM.wd] at hj
  exact jg (b4a sa sb hM (by omega) b7 hi hj) (by omega)⟩
 refine⟨⟨⟨ha,hw⟩,fun h=>⟨h,h,ha,hb,by omega,sa,sb⟩,fun h=>⟨h,okP⟩⟩,fun h=>?_,fun h=>⟨eb,⟨by omega,by omega,fun h=>⟨h,ea⟩⟩,?_⟩⟩
 ·unfold rG
  rcases h with h|h
  ·rw[h];rfl
  ·rw[h,Bool.and_false];rfl
 ·unfold rG
  rw[h.1,h.2,aZ (by omega) (by omega)]
  by_cases h3:rkM b=wdM b
  ·rw[show (((rkM b:Nat):Int)==((wdM b:Nat):Int))=true by rw[h3];exact beq_self_eq_true _,pz h3]
   show (((rkM b:Nat):Int)==(a.length:Int)-(rkM a:Int))=decide (rkM b+rkM a=a.length)
   by_cases h4:rkM b+rkM a=a.length
   ·rw[pz h4];exact ji.mpr (by omega)
   ·rw[oq h4];exact jo.mpr (by omega)
  ·rw[show (((rkM b:Nat):Int)==((wdM b:Nat):Int))=false from jo.mpr (by omega),oq h3];rfl
theorem b4E {a:MQ} {n:Nat} (h:isM a n n):pU a=decide (rkM a=a.length):=by
 have h1:=(jD n (ent a) n).inj
 have h2:=a3r h
 have h3:rkM a=(red n (ent a) n).2.length:=h.rk
 cases e:pU a
 ·refine(oq fun h4=>?_).symm
  rw[h3,h.len] at h4
  have:=h2.mpr (h1.mp h4)
  rw[e] at this;cases this
 ·refine(pz ?_).symm
  rw[h3,h.len]
  exact h1.mpr (h2.mp e)
def c3I:Ctr:=⟨[tM,tM],[tB],fun x=>NW x.1 x.2.1,fun x=>(pU (bgM x.1 x.2.1),())⟩
theorem b4B:aW Tryz.prog 37 c3I:=by
 refine bH (((nil0.ad OC).ad a1p).ad ZG) ⟨[],[],[]⟩ Tryz.func37 rfl (by decide) (fun x=>[]) (fun x hp=>?_)
 obtain⟨g,b,u⟩:=x
 change List (List Rat) at g
 change List (List Rat) at b
 refine bP ((okM b/\(okM (trM b)/\okM g/\wdM (trM b)=List.length g/\szM (trM b) 1000000/\szM g 1000000)/\True)/\(okE (mulM (trM b) g)/\True)/\True/\(aB (rkM (mulM (trM b) g))==aB (mulM (trM b) g).length)=pU (bgM g b)/\True) (by kernel_rfl) ?_
 try simp only[aT,ay,au]
 try dsimp only[Ty.den,Lf.den,asT] at *
 try simp only[yH,yA,trF,yI]
 have hZ:(⟨false,0,[],[]⟩:aF)=bU:=rfl
 try dsimp only[aB,asT,aA,aC,Ty.den,Lf.den] at *
 try simp only[hZ,Int.toNat_natCast,aT,ay,au,oh,ny,aH,nameAt,aV,aS,bF,rowAt,iw,gy]
 try simp only[kX,List.all_cons,List.all_nil,xu,mg,tu,ji,uy,ne_eq,ak,qm,jo,qw,uw,Ci,yw,Cj,oh,ny,jC,uf,qo,List.length_cons,List.length_nil]
 try simp only[wdF,kJ,kU]
 have F:=a4T (show NW g b from hp)
 rw[show mulM (trM b) g=bgM g b from rfl]
 refine⟨⟨F.b2.ok F.b1 (by omega),F.t2.ok F.t1 (by omega),F.g2.ok F.g1 (by omega),F.t1.wd,F.t2.sz (by omega),F.g2.sz (by omega)⟩,NU F.m1 F.c7 F.m2 (by omega),?_⟩
 rw[b4E F.m1]
 cases e:decide (rkM (bgM g b)=List.length (bgM g b))
 ·have:=Ce e
  exact jo.mpr (by omega)
 ·have:=ru e
  rw[this];exact beq_self_eq_true _
def n0:MQ:=[[fA 1,fA (-1),fA 0],[fA (-1),fA 2,fA (-1)],[fA 0,fA (-1),fA 1]]
def g0:MQ:=[[fA 1],[fA 1],[fA 1]]
def b0:MQ:=[[fA 1],[fA 0],[fA 0]]
def r0:LQ':=[fA 1,fA 0,fA (-1)]
def y0:LQ':=[fA 0,fA (-1),fA (-2)]
def c0:MQ:=[[fA 0,fA 0,fA 0],[fA 0,fA 1,fA 1],[fA 0,fA 1,fA 2]]
abbrev YM (l:LQ'):LR:=List.map (fun x=>fD x) l
theorem c2t:BF (liftM n0)=((g0,()),0,()):=by decide +kernel
theorem c2r:SC (liftM n0) (liftM g0)=0:=by decide +kernel
theorem c2u:oG (liftM n0) (liftM g0) (liftM b0) (YM r0)=(y0,0,()):=by decide +kernel
theorem c2s:yV (liftM n0) (liftM g0) (liftM b0)=(c0,0,()):=by decide +kernel
theorem JX {P:Program} {f:FuncId} {c:Ctr} (h:aW P f c) {pre:(nest c.args).den->Prop} {fn:(nest c.args).den->(nest c.res).den} (h1:∀ x,pre x->c.pre x) (h2:∀ x,pre x->fn x=c.fn x):aW P f ⟨c.args,c.res,pre,fn⟩:=fun F w vs x a b hp=>by
 have t:=h F w vs x a b (h1 x hp)
 rw[<-h2 x hp] at t
 exact t
theorem b2f {a:MQ} {K:Nat} (h:okM a) (h7:a.length<=7) (w7:wdM a<=7) (C:CdM a K):smK K (liftM a):=⟨h.short,fun _=>by rw[YN,a2S,b3Z];exact⟨h7,w7,C⟩⟩
theorem a1v {a:MQ} {R C K:Nat} (h:isM a R C) (h7:R<=7) (w7:C<=7) (hs:szM a 1) (hK:58<=K):smK K (liftM a):=by
 have h1:=a8U h hs
 have h2:R*(C+1)<=7*8:=ou h7 (by omega)
 have h3:CdM a K:=h1.mono (by omega)
 exact b2f (CdM.ok h1 h (by omega)) (by rw[h.len];exact h7) (by rw[h.wd];exact w7) h3
theorem a0T {a:MQ} {R C:Nat} (h:decide (a.length=R/\a.all (fun r=>r.length==C)=true/\1<=R/\R<=64/\1<=C/\C<=64)=true):isM a R C:=by
 have h:=ru h
 exact⟨h.1,fun r hr=>by simpa using xk.mp h.2.1 r hr,h.2.2⟩
theorem a6I:smK 100 (liftM n0):=a1v (R:=3) (C:=3) (a0T (by decide +kernel)) (by omega) (by omega) (by unfold szM;decide +kernel) (by omega)
theorem a9V:smK 100 (liftM g0):=a1v (R:=3) (C:=1) (a0T (by decide +kernel)) (by omega) (by omega) (by unfold szM;decide +kernel) (by omega)
theorem b5h:smK 100 (liftM b0):=a1v (R:=3) (C:=1) (a0T (by decide +kernel)) (by omega) (by omega) (by unfold szM;decide +kernel) (by omega)
theorem smK.mono {K L:Nat} {a:MR} (H:smK K a) (h:K<=L):smK L a:=⟨H.1,fun c=>⟨(H.2 c).1,(H.2 c).2.1,(H.2 c).2.2.mono h⟩⟩
theorem c2F:smL 1 (YM r0):=⟨⟨by decide +kernel,by unfold tX;decide +kernel⟩,fun _=>by decide +kernel⟩
def c1l:Ctr:=⟨[tMR],[.pair tM .unit,tI],fun x=>(show MR from x.1)=liftM n0,fun _=>((g0,()),(0:Int),())⟩
def c0P:Ctr:=⟨[tMR,.pair tMR .unit],[tI],fun x=>(show MR from x.1)=liftM n0/\(show MR from x.2.1.1)=liftM g0,fun _=>((0:Int),())⟩
def c1t:Ctr:=⟨[tMR,.pair tMR .unit,tMR,.list tR],[.list tQ,tI],fun x=>(show MR from x.1)=liftM n0/\(show MR from x.2.1.1)=liftM g0/\(show MR from x.2.2.1)=liftM b0/\(show LR from x.2.2.2.1)=YM r0,fun _=>(y0,(0:Int),())⟩
def c0R:Ctr:=⟨[tMR,.pair tMR .unit,tMR],[tM,tI],fun x=>(show MR from x.1)=liftM n0/\(show MR from x.2.1.1)=liftM g0/\(show MR from x.2.2.1)=liftM b0,fun _=>(c0,(0:Int),())⟩
theorem b1g:aW Tryz.prog 11 c1l:=JX (c:=a9f) XO (fun x (h:(show MR from x.1)=_)=>by show smK 100 x.1;rw[show x.1=liftM n0 from h];exact a6I) (fun x (h:(show MR from x.1)=_)=>by show _=BF x.1;rw[show x.1=liftM n0 from h];exact c2t.symm)
theorem a9q:aW Tryz.prog 18 c0P:=JX (c:=b5j) a2b (fun x (h:(show MR from x.1)=_/\(show MR from x.2.1.1)=_)=>by show smK 100 x.1/\smK 13000 x.2.1.1;rw[show x.1=liftM n0 from h.1,show x.2.1.1=liftM g0 from h.2];exact⟨a6I,a9V.mono (by omega)⟩) (fun x (h:(show MR from x.1)=_/\(show MR from x.2.1.1)=_)=>by show _=(SC x.1 x.2.1.1,());rw[show x.1=liftM n0 from h.1,show x.2.1.1=liftM g0 from h.2,c2r];rfl)
theorem b2h:aW Tryz.prog 20 c1t:=JX (c:=b5l) TB (fun x (h:(show MR from x.1)=_/\(show MR from x.2.1.1)=_/\(show MR from x.2.2.1)=_/\(show LR from x.2.2.2.1)=_)=>by show b2i x.1 x.2.1.1 x.2.2.1 x.2.2.2.1;rw[show x.1=liftM n0 from h.1,show x.2.1.1=liftM g0 from h.2.1,show x.2.2.1=liftM b0 from h.2.2.1,show x.2.2.2.1=YM r0 from h.2.2.2];exact⟨a6I,a9V,b5h,c2F⟩) (fun x (h:(show MR from x.1)=_/\(show MR from x.2.1.1)=_/\(show MR from x.2.2.1)=_/\(show LR from x.2.2.2.1)=_)=>by show _=oG x.1 x.2.1.1 x.2.2.1 x.2.2.2.1;rw[show x.1=liftM n0 from h.1,show x.2.1.1=liftM g0 from h.2.1,show x.2.2.1=liftM b0 from h.2.2.1,show x.2.2.2.1=YM r0 from h.2.2.2];exact c2u.symm)
theorem a9w:aW Tryz.prog 24 c0R:=JX (c:=b5k) SN (fun x (h:(show MR from x.1)=_/\(show MR from x.2.1.1)=_/\(show MR from x.2.2.1)=_)=>by show smK 100 x.1/\smK 100 x.2.1.1/\smK 100 x.2.2.1;rw[show x.1=liftM n0 from h.1,show x.2.1.1=liftM g0 from h.2.1,show x.2.2.1=liftM b0 from h.2.2];exact⟨a6I,a9V,b5h⟩) (fun x (h:(show MR from x.1)=_/\(show MR from x.2.1.1)=_/\(show MR from x.2.2.1)=_)=>by show _=yV x.1 x.2.1.1 x.2.2.1;rw[show x.1=liftM n0 from h.1,show x.2.1.1=liftM g0 from h.2.1,show x.2.2.1=liftM b0 from h.2.2];exact c2s.symm)
def c3G:Ctr:=⟨[],[tB],fun _=>True,fun _=>(true,())⟩
theorem b3P:aW Tryz.prog 9 c3G:=by
 refine bH (((((((((((nil0.ad a3y).ad a3z).ad XO).ad a2b).ad TB).ad SN).ad b5c).ad b1g).ad a9q).ad b2h).ad a9w) ⟨[2],[],[]⟩ Tryz.func9 rfl (by decide) (fun x=>[]) (fun x hp=>?_)
 refine bP (let A₂:=((fA 1::aC Rat)::(fA 1::aC Rat)::(fA 1::aC Rat)::aC (List Rat));let aQ:=((True/\True/\True/\True)/\True);let dS:=(asT Bool true=true->asT Bool true=true);let gB:=(asT Bool true=true->asT Bool true=true/\True);let eU:=(asT Bool true=true->asT Bool true=true/\asT Bool true=true/\asT Bool true=true/\True);let iY:=(fA 0::fA (-1)::fA (-2)::aC Rat);let iH:=(List.length (1::aC Int)<=1000/\∀ (i:Int),i ∈ 1::aC Int->iW i);let dJ:=(asT Bool true=true->asT Bool true=true/\iH/\True);let lJ:=(List.length (0::aC Int)<=1000/\∀ (i:Int),i ∈ 0::aC Int->iW i);let lF:=(fun(x:Ty.den (Ty.lf Lf.rat))=>fD x);let A₁:=(fun(xs:Ty.den (Ty.list (Ty.lf Lf.rat)))=>List.map lF xs);let A₀:=(List.map A₁ ((fA 1::fA (-1)::fA 0::aC Rat)::(fA (-1)::fA 2::fA (-1)::aC Rat)::(fA 0::fA (-1)::fA 1::aC Rat)::aC (List Rat)));let gQ:=(List.map A₁ ((fA 1::aC Rat)::(fA 0::aC Rat)::(fA 0::aC Rat)::aC (List Rat)));let kV:=((True/\True)/\True);let bK:=(kV/\kV/\kV/\True);let oH:=(fA 0::fA 0::fA 0::aC Rat);let pY:=(fA 0::fA 1::fA 1::aC Rat);let gG:=(fA 0::fA 1::fA 2::aC Rat);let bZ:=(oH::pY::gG::aC (List Rat));((List.length (1::-1::0::aC Int)<=1000/\∀ (i:Int),i ∈ 1::-1::0::aC Int->iW i)/\(List.length (-1::2::-1::aC Int)<=1000/\∀ (i:Int),i ∈ -1::2::-1::aC Int->iW i)/\(List.length (0::-1::1::aC Int)<=1000/\∀ (i:Int),i ∈ 0::-1::1::aC Int->iW i)/\True)/\((aQ/\aQ/\aQ/\True)/\asT (List (List aF)) A₀=liftM n0/\True)/\(iH/\lJ/\lJ/\True)/\((List.length (1::0::-1::aC Int)<=1000/\∀ (i:Int),i ∈ 1::0::-1::aC Int->iW i)/\(aQ/\aQ/\aQ/\True)/\bK/\bK/\(True/\True/\True/\True)/\(asT (List (List aF)) A₀=liftM n0/\asT (List (List aF)) (List.map A₁ A₂)=liftM g0/\asT (List (List aF)) gQ=liftM b0/\asT (List aF) (List.map lF (fA 1::fA 0::fA (-1)::aC Rat))=YM r0)/\True)/\((aQ/\aQ/\aQ/\True)/\bK/\bK/\(asT (List (List aF)) A₀=liftM n0/\asT (List (List aF)) (List.map A₁ A₂)=liftM g0/\asT (List (List aF)) gQ=liftM b0)/\True)/\(gB/\dS/\gB/\dS/\gB/\dJ/\dJ/\dJ/\eU/\(asT Bool true=true->asT Bool true=true/\asT Bool true=true/\(JI A₂/\JI A₂)/\True)/\dS/\(asT Bool true=true->asT Bool true=true/\(List.length (0::-1::-2::aC Int)<=1000/\∀ (i:Int),i ∈ 0::-1::-2::aC Int->iW i)/\True)/\(asT Bool true=true->asT Bool true=true/\asT Bool true=true/\(szL iY/\szL iY)/\True)/\dS/\(asT Bool true=true->asT Bool true=true/\(List.length (0::0::0::aC Int)<=1000/\∀ (i:Int),i ∈ 0::0::0::aC Int->iW i)/\True)/\(asT Bool true=true->asT Bool true=true/\(List.length (0::1::1::aC Int)<=1000/\∀ (i:Int),i ∈ 0::1::1::aC Int->iW i)/\True)/\(asT Bool true=true->asT Bool true=true/\(List.length (0::1::2::aC Int)<=1000/\∀ (i:Int),i ∈ 0::1::2::aC Int->iW i)/\True)/\eU/\(asT Bool true=true->asT Bool true=true/\asT Bool true=true/\(JI bZ/\JI bZ)/\True)/\dS/\(asT Bool true=true->asT Bool true=true/\asT Bool true=true/\(aQ/\aQ/\aQ/\True)/\bK/\(asT (List (List aF)) A₀=liftM n0/\asT (List (List aF)) (List.map A₁ A₂)=liftM g0)/\True)/\gB/\dS/\True)/\True/\asT Bool (bif bif bif bif bif bif asT Int 0==0 then asT Int 0==0 else false then asT Int 0==0 else false then decide (asT (List (List Rat)) A₂=(fA 1::aC Rat)::(fA 1::aC Rat)::(fA 1::aC Rat)::aC (List Rat)) else false then decide (asT (List Rat) iY=fA 0::fA (-1)::fA (-2)::aC Rat) else false then decide (asT (List (List Rat)) bZ=oH::pY::gG::aC (List Rat)) else false then asT Int 0==0 else false)=true/\True) (by kernel_rfl) ?_
 have hw:∀ l:List Int,l.all (fun i=>decide (-2<=i)&&decide (i<=2))=true->∀ i ∈ l,iW i:=fun l h i hi=>by
  have:=xk.mp h i hi
  rw[ak] at this
  have h1:=ru this.1
  have h2:=ru this.2
  unfold iW;omega
 repeat' first
  |exact trivial
  |exact rfl
  |exact hw _ (by decide)
  | (unfold JI szL;decide +kernel)
  | (unfold szL;decide +kernel)
  | decide
  |apply And.intro
  |intro _
section
open Go Go.ChangeShapes Go.WideShapes Go.ChangeAt Go.RowKit Go.Joins
theorem own:ownKnob Tryz.prog.godebug=none:=by kernel_rfl
section
variable {H:Type} {enc:TypeId × Value->H} {W:World} {base:Nat}
end
end
end Go.Proofs.YtgplhbhfdgempaaGreat
