/-
  Lemmas for the theorem vdecomposes28_holds, part 25 of 34.
-/
import Derived.Test.YtbkocjmmbkifjaaGreatQd24
namespace Go.Proofs.YtbkocjmmbkifjaaGreat
open Go Go.RowKit
set_option maxRecDepth 100000
set_option maxHeartbeats 1000000
set_option linter.unusedVariables false
set_option linter.unusedSimpArgs false
theorem vY:aH Tryz.prog 165 (cIQ bP (fun i=>(i:Rat))):=by
 refine aI (nil0.ad DN) ⟨[2],[],[]⟩ Tryz.func165 rfl (by decide) (fun x=>[]) (fun x hp=>?_)
 obtain⟨n,u⟩:=x
 change Int at n
 refine aO ((bP n/\True)/\True/\aV n=aV n/\True) (by kernel_rfl) ?_
 have hZ:(⟨false,0,[],[]⟩:aG)=bF:=rfl
 dsimp only[aB,asT,aA,aC,Ty.den,Lf.den] at *
 simp only[hZ,Int.toNat_natCast,jS,gy,oz,Ee,Dk,dB,nameAt,bZ,lK,jW,rowAt,uy,jy]
 exact hp
theorem a5U:NOk Tryz.prog 158 c6O:=by
 refine AZ (nil0.ad vY) ⟨[],[],[(9,tQ),(27,tQ)]⟩ Tryz.func158 rfl (by decide) (fun x=>[.inv {k:Nat // k<=(show Int from x.1).toNat} (fun k=>[(6,.val tI (k.1:Int)),(5,.own 9 0),(9,.any),(28,.any)]) (fun k=>[(9,.mat 39 47 tQ none (EL k.1 (show Int from x.2.1).toNat) 0)]) (fun k=>(show Int from x.1).toNat-k.1) ⟨0,by omega⟩ (fun k=>[.inv {q:Nat // q<=(show Int from x.2.1).toNat} (fun q=>[(8,.val tI (q.1:Int)),(7,.own 15 0),(15,.any),(24,.any)]) (fun q=>[(9,.mat 39 47 tQ none (EL k.1 (show Int from x.2.1).toNat) 0),(15,.row 47 tQ (a7Y q.1) 0)]) (fun q=>(show Int from x.2.1).toNat-q.1) ⟨0,by omega⟩ (fun _=>[])])]) (fun x hp=>?_)
 obtain⟨m,n,u⟩:=x
 change Int at m
 change Int at n
 refine aO ((asT Int 0=0/\asT (List (List Rat)) (aC (List Rat))=aC (List Rat)/\True)/\∀ (i:{ k:Nat // k<=Int.toNat m }),asT Bool true=true/\ifB (decide (aB (aA i)<m)) ((asT Int 0=0/\EL (aA i) n.toNat=EL (aA i) n.toNat/\asT (List Rat) (aC Rat)=aC Rat/\True)/\∀ (i_1:{ q:Nat // q<=Int.toNat n }),asT Bool true=true/\ifB (decide (aB (aA i_1)<n)) ((bP 0/\List.length (a7Y (aA i_1))+List.length (aV 0::aC Rat)<=1000000000/\True)/\∃ (i':{ q:Nat // q<=Int.toNat n }),Int.toNat n-aA i'<Int.toNat n-aA i_1/\IntKind.wrap IntKind.i64 (aB (aA i_1)+1)=aB (aA i')/\EL (aA i) n.toNat=EL (aA i) n.toNat/\a7Y (aA i_1)++aV 0::aC Rat=a7Y (aA i')/\True) ((dB none (EL (aA i) n.toNat)+1<=1000000000/\True)/\∃ (i':{ k:Nat // k<=Int.toNat m }),Int.toNat m-aA i'<Int.toNat m-aA i/\IntKind.wrap IntKind.i64 (aB (aA i)+1)=aB (aA i')/\EL (aA i) n.toNat++a7Y (aA i_1)::aC (List Rat)=EL (aA i') n.toNat/\True)) (EL m.toNat n.toNat=EL (aA i) n.toNat)) (by kernel_rfl) ?_
 have hZ:(⟨false,0,[],[]⟩:aG)=bF:=rfl
 dsimp only[aB,asT,aA,aC,Ty.den,Lf.den] at *
 simp only[hZ,Int.toNat_natCast,jS,gy,oz,Ee,Dk,dB,nameAt,bZ,lK,jW,rowAt,uy,jy]
 have hp:0<=m/\m<=1000/\0<=n/\n<=1000:=hp
 obtain⟨m0,m1,n0,n1⟩:=hp
 refine fun i=>⟨fun h1 q=>⟨fun h2=>⟨⟨by unfold bP;omega,by simp[a7Y];have:=q.2;omega⟩,⟨q.1+1,by omega⟩,by simp only;omega,by rw[aJ (by omega) (by omega)];rfl,?_⟩,fun h2=>⟨by show (EL _ _).length+1<=_;unfold EL;rw[jW];have:=i.2;omega,⟨i.1+1,by omega⟩,by simp only;omega,by rw[aJ (by omega) (by omega)];rfl,?_⟩⟩,fun h1=>?_⟩
 ·show List.replicate q.1 0++[((0:Int):Rat)]=List.replicate (q.1+1) 0
  rw[List.replicate_succ'];rfl
 ·have hq:q.1=n.toNat:=by have:=q.2;omega
  rw[hq]
  show tab i.1 n.toNat (fun _ _=>0)++[List.replicate n.toNat 0]=tab (i.1+1) n.toNat (fun _ _=>0)
  unfold tab
  rw[oh]
  simp
  apply Ei<;>simp
 ·have hi:i.1=m.toNat:=by have:=i.2;omega
  rw[hi]
def trU (a:MQ) (r c:Nat):MQ:=tab (wdM a) a.length fun i j=>if j<r\/j=r/\i<c then ent a j i else 0
noncomputable def c6d:Ctr:=⟨[tM],[tM],fun x=>okM x.1,fun x=>(trM x.1,())⟩
theorem a5T:aH Tryz.prog 71 c6d:=by
 refine aI (nil0.an a5U) ⟨[],[],[]⟩ Tryz.func71 rfl (by decide) (fun x=>[.inv {k:Nat // k<=(show MQ from x.1).length} (fun r=>[(4,.val tI (r.1:Int))]) (fun r=>[(12,.mat 39 47 tQ none (trU (show MQ from x.1) r.1 0) 0)]) (fun r=>(show MQ from x.1).length-r.1) ⟨0,by omega⟩ (fun r=>[.inv {k:Nat // k<=wdM (show MQ from x.1)} (fun c=>[(5,.val tI (c.1:Int))]) (fun c=>[(12,.mat 39 47 tQ none (trU (show MQ from x.1) r.1 c.1) 0)]) (fun c=>wdM (show MQ from x.1)-c.1) ⟨0,by omega⟩ (fun _=>[])])]) (fun x hp=>?_)
 obtain⟨a,u⟩:=x
 change List (List Rat) at a
 refine aO (let A₀:=(List.getD a 0 (aC Rat)).length;(asT Int 0<=0/\0<aB a.length/\(0<=aB A₀/\aB A₀<=1000/\0<=aB a.length/\aB a.length<=1000)/\True)/\(asT Int 0=0/\EL (aB A₀).toNat (aB a.length).toNat=trU a 0 0/\True)/\∀ (i:{ k:Nat // k<=List.length a }),let A₁:=(List.getD a (aB (aA i)).toNat (aC Rat));asT Bool true=true/\ifB (decide (aB (aA i)<aB a.length)) ((asT Int 0=0/\trU a (aA i) 0=trU a (aA i) 0/\True)/\∀ (i_1:{ k:Nat // k<=wdM a }),let aN:=(trU a (aA i) (aA i_1));let aU:=(aB (aA i_1)).toNat;let A₂:=(rowAt aN (nameAt none aU));asT Bool true=true/\(0<=aB (aA i)/\aB (aA i)<aB a.length/\True)/\ifB (decide (aB (aA i_1)<aB A₁.length)) ((0<=aB (aA i_1)/\aB (aA i_1)<aB (dB none aN)/\Int.toNat (aB (aA i_1))<dB none aN/\0<=aB (aA i)/\aB (aA i)<aB a.length/\0<=aB (aA i_1)/\aB (aA i_1)<aB A₁.length/\0<=aB (aA i)/\aB (aA i)<aB A₂.length/\Int.toNat (aB (aA i))<List.length A₂/\True)/\∃ (i':{ k:Nat // k<=wdM a }),wdM a-aA i'<wdM a-aA i_1/\IntKind.wrap IntKind.i64 (aB (aA i_1)+1)=aB (aA i')/\List.set aN (nameAt none aU) (List.set A₂ (aB (aA i)).toNat (List.getD A₁ aU 0))=trU a (aA i) (aA i')/\True) (∃ (i':{ k:Nat // k<=List.length a }),List.length a-aA i'<List.length a-aA i/\IntKind.wrap IntKind.i64 (aB (aA i)+1)=aB (aA i')/\trU a (aA i) (aA i_1)=trU a (aA i') 0/\True)) (True/\trU a (aA i) 0=trM a/\True)) (by kernel_rfl) ?_
 have hZ:(⟨false,0,[],[]⟩:aG)=bF:=rfl
 dsimp only[aB,asT,aA,aC,Ty.den,Lf.den] at *
 simp only[hZ,Int.toNat_natCast,jS,gy,oz,Ee,Dk,dB,nameAt,bZ,lK,jW,rowAt,uy,jy]
 have ha:okM a:=hp
 have q1:=ha.r64
 have q2:=ha.c64
 have q5:=ha.pos
 rw[show (a.getD 0 []).length=wdM a from rfl]
 refine⟨⟨Dh 0,by omega,by omega,by omega,by omega,by omega⟩,mD fun p _ q _=>(eu (by omega)).symm,fun i=>⟨fun h1 c=>?_,fun h1=>mD fun p _ q hq=>iw (by omega)⟩⟩
 have hi:i.1<a.length:=by omega
 rw[ha.row hi]
 refine⟨⟨by omega,h1⟩,fun h2=>?_,fun h2=>⟨⟨i.1+1,by omega⟩,by simp only;omega,by rw[aJ (by omega) (by omega)];rfl,mD fun p hp q _=>?_⟩⟩
 ·have hc:c.1<wdM a:=by omega
  have e1:(trU a i.1 c.1).length=wdM a:=jW
  have e2:((trU a i.1 c.1).getD c.1 []).length=a.length:=by unfold trU;rw[DU hc];simp
  rw[e1,e2]
  refine⟨⟨by omega,by omega,hc,by omega,by omega,by omega,by omega,by omega,by omega,hi⟩,⟨c.1+1,by omega⟩,by simp only;omega,by rw[aJ (by omega) (by omega)];rfl,(a2z _ hc).trans (mD fun p _ q _=>?_)⟩
  show (if p=c.1/\q=i.1 then ent a i.1 c.1 else if q<i.1\/q=i.1/\p<c.1 then ent a q p else 0)=if q<i.1\/q=i.1/\p<c.1+1 then ent a q p else 0
  by_cases e:p=c.1/\q=i.1
  ·rw[iw e,iw (by omega),e.1,e.2]
  ·rw[eu e]
   by_cases e3:q<i.1\/q=i.1/\p<c.1
   ·rw[iw e3,iw (by omega)]
   ·rw[eu e3,eu (by omega)]
 ·show (if q<i.1\/q=i.1/\p<c.1 then ent a q p else 0)=if q<i.1+1\/q=i.1+1/\p<0 then ent a q p else 0
  by_cases e3:q<i.1\/q=i.1/\p<c.1
  ·rw[iw e3,iw (by omega)]
  ·rw[eu e3,eu (by omega)]
theorem MN {α:Type}:∀ {l:List α},l.length=3->∃ a b c,l=[a,b,c]
 | [a,b,c],_=>⟨a,b,c,rfl⟩
theorem m33.form {K:Nat} {f:MQ} (h:m33 K f):∃ a b c d e g i j k:Rat,f=[[a,b,c],[d,e,g],[i,j,k]]:=by
 have l1:=h.1.1
 have l2:=h.1.2.1
 obtain⟨r,s,t,rfl⟩:=MN l1
 obtain⟨a,b,c,rfl⟩:=MN (l2 r (by simp))
 obtain⟨d,e,g,rfl⟩:=MN (l2 s (by simp))
 obtain⟨i,j,k,rfl⟩:=MN (l2 t (by simp))
 exact⟨a,b,c,d,e,g,i,j,k,rfl⟩
theorem m33.flat {K:Nat} {f:MQ} (h:m33 K f):f.flatten.length=9/\∀ q ∈ f.flatten,rsz q<=K:=by
 obtain⟨a,b,c,d,e,g,i,j,k,rfl⟩:=h.form
 refine⟨rfl,fun q hq=>?_⟩
 have hq:q ∈ [a,b,c,d,e,g,i,j,k]:=hq
 have h2:∀ x y:Nat,x<3->y<3->rsz (ent [[a,b,c],[d,e,g],[i,j,k]] x y)<=K:=fun x y hx hy=>h.2 x hx y hy
 simp only[jw,Dw,or_false] at hq
 rcases hq with rfl|rfl|rfl|rfl|rfl|rfl|rfl|rfl|rfl
 ·exact h2 0 0 (by omega) (by omega)
 ·exact h2 0 1 (by omega) (by omega)
 ·exact h2 0 2 (by omega) (by omega)
 ·exact h2 1 0 (by omega) (by omega)
 ·exact h2 1 1 (by omega) (by omega)
 ·exact h2 1 2 (by omega) (by omega)
 ·exact h2 2 0 (by omega) (by omega)
 ·exact h2 2 1 (by omega) (by omega)
 ·exact h2 2 2 (by omega) (by omega)
theorem m33.rows {K:Nat} {f:MQ} (h:m33 K f):f.length=3/\∀ i,i<3->(f.getD i []).length=3/\∀ j,j<3->rsz (lv (f.getD i []) j)<=K:=⟨h.1.len,fun i hi=>⟨h.1.2.1 _ (gV (by rw[h.1.len];exact hi)),fun j hj=>h.2 i (by rw[h.1.len];exact hi) j (by rw[h.1.wd];exact hj)⟩⟩
theorem cdI.mul {a b:Int} (ha:cdI a) (hb:cdI b):(a*b).natAbs<=1099511627776:=by
 rw[Int.natAbs_mul]
 exact ak (vw (show a.natAbs<=1048576 by obtain⟨x,y⟩:=ha;omega) (show b.natAbs<=1048576 by obtain⟨x,y⟩:=hb;omega)) (by omega)
noncomputable def c2l:Ctr:=⟨[tM],[.list tQ],fun x=>(show MQ from x.1).length<=1000/\∀ r ∈ (show MQ from x.1),r.length<=1000,fun x=>((show MQ from x.1).flatten,())⟩
theorem a9c:aH Tryz.prog 119 c2l:=by
 refine aI Lib.nil ⟨[],[],[]⟩ Tryz.func119 rfl (by decide) (fun x=>[.inv {k:Nat // k<=(show MQ from x.1).length} (fun k=>[(8,.val tI (k.1:Int)),(3,.own 14 0),(14,.any)]) (fun k=>[(14,.row 47 tQ (((show MQ from x.1).take k.1).flatten) 0)]) (fun k=>(show MQ from x.1).length-k.1) ⟨0,by omega⟩ (fun _=>[])]) (fun x hp=>?_)
 obtain⟨f,u⟩:=x
 change List (List Rat) at f
 refine aO ((asT Int 0=0/\(True/\asT (List Rat) (aC Rat)=aC Rat)/\(asT (List Rat) (aC Rat)=aC Rat/\0=0/\asT Bool true=true)/\True)/\∀ (i:{ k:Nat // k<=List.length f }),asT Bool true=true/\ifB (decide (aB (aA i)<aB f.length)) ((0<=aB (aA i)/\aB (aA i)<aB f.length/\True)/\(List.length (List.flatten (List.take (aA i) f))+List.length (List.getD f (aB (aA i)).toNat (aC Rat))<=1000000000/\True)/\∃ (i':{ k:Nat // k<=List.length f }),List.length f-aA i'<List.length f-aA i/\IntKind.wrap IntKind.i64 (aB (aA i)+1)=aB (aA i')/\List.flatten (List.take (aA i) f)++List.getD f (aB (aA i)).toNat (aC Rat)=List.flatten (List.take (aA i') f)/\True) (True/\List.flatten (List.take (aA i) f)=List.flatten f/\True)) (by kernel_rfl) ?_
 try simp only[zP0]
 try dsimp only[aB,asT,aA,aC,Ty.den,Lf.den] at *
 try simp only[zP1]
 try simp only[zP2]
 obtain⟨hl,hr⟩:f.length<=1000/\∀ r ∈ f,r.length<=1000:=hp
 have hf:∀ k,(f.take k).flatten.length<=1000000:=fun k=>by
  have h1:=OO (K:=1000) (x:=f.take k) fun r h=>hr r (Bv h)
  have h2:(f.take k).length<=1000:=by rw[ji];omega
  omega
 exact fun i=>⟨fun h1=>⟨⟨by omega,h1⟩,by have:=hf i.1;have:(f.getD i.1 []).length<=1000:=cZ hr (by omega);omega,⟨i.1+1,by omega⟩,by simp only;omega,by rw[aJ (by omega) (by omega)];rfl,(LG (by omega)).symm⟩,fun h1=>by rw[jc (by omega)]⟩
theorem tH:aH Tryz.prog 58 (cIQ bP (fun i=>(i:Rat))):=by
 refine aI (nil0.ad DN) ⟨[2],[],[]⟩ Tryz.func58 rfl (by decide) (fun x=>[]) (fun x hp=>?_)
 obtain⟨n,u⟩:=x
 change Int at n
 refine aO ((bP n/\True)/\True/\aV n=aV n/\True) (by kernel_rfl) ?_
 try simp only[zP0]
 try dsimp only[aB,asT,aA,aC,Ty.den,Lf.den] at *
 try simp only[zP1]
 try simp only[zP2]
 exact hp
def IG (x y:LQ'):Prop:=x.length=y.length/\x.length<=64/\∀ i,i<x.length->rsz (lv x i)<=20000/\rsz (lv y i)<=20000
theorem b3j {x y:LQ'} {A B:Nat} {k:Nat} (h:∀ i,i<k->rsz (lv x i)<=A/\rsz (lv y i)<=B):rsz (oM x y k)<=k*(A+B+1)+1 :=
 FY (K:=A+B) (f:=fun i=>lv x i*lv y i) k (fun i hi=>by
  have ⟨a,b⟩:=h i hi
  have:=cO (lv x i) (lv y i);show rsz (lv x i*lv y i)<=_;omega)
theorem IG.sz {x y:LQ'} (h:IG x y) {k:Nat} (hk:k<=x.length):rsz (oM x y k)<=4000000:=by
 have h1:=b3j (x:=x) (y:=y) (A:=20000) (B:=20000) (k:=k) fun i hi=>h.2.2 i (by omega)
 have h2:=h.2.1
 have:k*20001<=64*20001:=vw (by omega) (by omega)
 omega
noncomputable def c2i:Ctr:=⟨[.list tQ,.list tQ],[tQ],fun x=>IG x.1 x.2.1,fun x=>(oM x.1 x.2.1 (show LQ' from x.1).length,())⟩
theorem a1j:aH Tryz.prog 18 c2i:=by
 refine aI (((nil0.ad nK).ad sH).ad tH) ⟨[4,5],[],[]⟩ Tryz.func18 rfl (by decide) (fun x=>[.inv {k:Nat // k<=(show LQ' from x.1).length} (fun k=>[(10,.val tI (k.1:Int))]) (fun k=>[(4,.box [⟨tR,bF⟩]),(5,.box [⟨tQ,oM x.1 x.2.1 k.1⟩])]) (fun k=>(show LQ' from x.1).length-k.1) ⟨0,by omega⟩ (fun _=>[])]) (fun x hp=>?_)
 obtain⟨x,y,u⟩:=x
 change List Rat at x
 change List Rat at y
 refine aO ((bP 0/\True)/\(asT Int 0=0/\asT aG bF=bF/\aV 0=oM x y 0/\True)/\∀ (i:{ k:Nat // k<=List.length x }),asT Bool true=true/\ifB (decide (aB (aA i)<aB x.length)) ((0<=aB (aA i)/\aB (aA i)<aB x.length/\0<=aB (aA i)/\aB (aA i)<aB y.length/\s19 (List.getD x (aB (aA i)).toNat 0) (List.getD y (aB (aA i)).toNat 0)/\s19 (oM x y (aA i)) (List.getD x (aB (aA i)).toNat 0*List.getD y (aB (aA i)).toNat 0)/\True)/\∃ (i':{ k:Nat // k<=List.length x }),List.length x-aA i'<List.length x-aA i/\IntKind.wrap IntKind.i64 (aB (aA i)+1)=aB (aA i')/\asT aG bF=bF/\oM x y (aA i)+List.getD x (aB (aA i)).toNat 0*List.getD y (aB (aA i)).toNat 0=oM x y (aA i')/\True) (True/\oM x y (aA i)=oM x y x.length/\True)) (by kernel_rfl) ?_
 try simp only[zP0]
 try dsimp only[aB,asT,aA,aC,Ty.den,Lf.den] at *
 try simp only[zP1]
 try simp only[zP2]
 have hp:IG x y:=hp
 have hs:=fun k (hk:k<=x.length)=>hp.sz hk
 obtain⟨hl,h64,hr⟩:=hp
 refine⟨⟨by omega,by omega⟩,rfl,fun i=>⟨fun h1=>?_,fun h1=>?_⟩⟩
 ·have hi:i.1<x.length:=by omega
  have a1:rsz (x.getD i.1 0)<=20000:=(hr i.1 hi).1
  have a2:rsz (y.getD i.1 0)<=20000:=(hr i.1 hi).2
  have a3:=hs i.1 i.2
  have a4:=cO (x.getD i.1 0) (y.getD i.1 0)
  exact⟨⟨by omega,h1,by omega,by omega,⟨by omega,by omega⟩,⟨by omega,by omega⟩⟩,⟨i.1+1,by omega⟩,by simp only;omega,by rw[aJ (by omega) (by omega)];rfl,rfl⟩
 ·rw[show i.1=x.length by have:=i.2;omega]
set_option maxHeartbeats 4000000
def lq8 (l:LR):LQ':=List.map (fun q:aG=>q.x) l
def mq8 (a:MR):MQ:=List.map (fun r:LR=>lq8 r) a
theorem a6r {f:MR} (hs:rV f) (h:rW f=true):m33 100 (mq8 f)/\∀ r ∈ f,∀ q ∈ r,q.ok=true:=by
 rw[DY,ay,ay,gy] at h
 obtain⟨⟨h1,h2⟩,_⟩:=h
 have h3:∀ r ∈ f,r.length=3/\∀ q ∈ r,q.ok=true:=fun r hr=>rC.mp (qg.mp h2 r hr)
 have hm:isM (mq8 f) 3 3:=⟨by unfold mq8;rw[jo];exact h1,fun r hr=>by
  obtain⟨s,hs,rfl⟩:=ni.mp hr
  unfold lq8;rw[jo];exact(h3 s hs).1,by omega,by omega,by omega,by omega⟩
 refine⟨⟨hm,fun i hi j hj=>?_⟩,fun r hr=>(h3 r hr).2⟩
 rw[hm.len] at hi
 rw[hm.wd] at hj
 have hr:f.getD i [] ∈ f:=gV (by omega)
 have hl:=(h3 _ hr).1
 have hq:(f.getD i []).getD j bF ∈ f.getD i []:=gV (by omega)
 have e:ent (mq8 f) i j=((f.getD i []).getD j bF).x:=by
  show ((mq8 f).getD i []).getD j 0=_
  unfold mq8 lq8
  rw[bf (l:=List.map _ f),qj,bn (by omega),bf (l:=f),bn (by omega)]
  have hl2:(f[i]'(by omega)).length=3:=by rw[bf,bn (by omega)] at hl;exact hl
  show (List.map (fun q:aG=>q.x) f[i]).getD j 0=(f[i].getD j bF).x
  rw[bf,qj,bf,bn (by omega)];rfl
 rw[e]
 exact ak (((hs.2 _ hr).2 _ hq).2.2 ((h3 _ hr).2 _ hq)) (by omega)
def gsq (xs:Nat->Int):Nat->Int
 | 0=>0
 | k+1=>((Int.gcd (gsq xs k) (xs k):Nat):Int)
def fsq (xs:Nat->Int):Nat->Int
 | 0=>0
 | k+1=>if fsq xs k=0 then xs k else fsq xs k
theorem xX {xs:Nat->Int} {K:Nat}:∀ k,(∀ j,j<k->isz (xs j)<=K)->isz (gsq xs k)<=K
 | 0,_=>by show isz 0<=K;rw[SK];omega
 | k+1,h=>by
  have ih:=xX k (fun j hj=>h j (by omega))
  show isz ((Int.gcd (gsq xs k) (xs k):Nat):Int)<=K
  by_cases hx:xs k=0
  ·rw[hx,Int.gcd_zero_right]
   have:isz (((gsq xs k).natAbs:Nat):Int)=isz (gsq xs k):=by unfold isz;simp
   omega
  ·exact jT hx (h k (by omega))
theorem a9r {xs:Nat->Int} {j:Nat} (hj:xs j≠0):∀ k,j<k->gsq xs k≠0
 | 0,h=>by omega
 | k+1,h=>by
  show ((Int.gcd (gsq xs k) (xs k):Nat):Int)≠0
  intro e
  have e':Int.gcd (gsq xs k) (xs k)=0:=by omega
  rw[Int.gcd_eq_zero_iff] at e'
  by_cases hk:j=k
  ·subst hk;exact hj e'.2
  ·exact a9r hj k (by omega) e'.1
theorem a0b {xs:Nat->Int}:∀ k j,j<k->gsq xs k ∣ xs j
 | 0,j,h=>by omega
 | k+1,j,h=>by
  show ((Int.gcd (gsq xs k) (xs k):Nat):Int) ∣ xs j
  by_cases e:j=k
  ·subst e;exact Int.gcd_dvd_right ..
  ·exact Int.dvd_trans (Int.gcd_dvd_left ..) (a0b k j (by omega))
theorem OW {x y:Int} (hy:y≠0) (h:y ∣ x):isz (x.fdiv y)<=isz x:=by
 obtain⟨t,rfl⟩:=h
 rw[Int.mul_fdiv_cancel_left _ hy]
 unfold isz
 rw[Int.natAbs_mul]
 exact JO (Nat.le_mul_of_pos_left _ (by omega))
def mZ (q:Nat->Rat):Nat->Int
 | 0=>1
 | k+1=>mZ q k*((q k).den:Int).fdiv ((Int.gcd (mZ q k) ((q k).den:Int):Nat):Int)
def dJ (q:Nat->Rat):Nat->Int
 | 0=>1
 | k+1=>dJ q k*((q k).den:Int)
def a1Q (q:Nat->Rat):Nat->Nat
 | 0=>1
 | k+1=>Nat.lcm (a1Q q k) (q k).den
def VN (D:Int) (q:Nat->Rat) (j:Nat):Int:=(q j).num*D.fdiv ((q j).den:Int)
def prG (xs:Nat->Int) (n:Nat):Int:=if fsq xs n<0 then -gsq xs n else gsq xs n
def prN (xs:Nat->Int) (n j:Nat):Int:=(xs j).fdiv (prG xs n)
theorem OZ (q:Nat->Rat):∀ k,mZ q k=(a1Q q k:Nat)
 | 0=>rfl
 | k+1=>by
  show mZ q k*((q k).den:Int).fdiv ((Int.gcd (mZ q k) ((q k).den:Int):Nat):Int)=((Nat.lcm (a1Q q k) (q k).den:Nat):Int)
  rw[OZ q k,Int.gcd_natCast_natCast,<-Int.ofNat_fdiv,<-Int.natCast_mul,<-Nat.mul_div_assoc _ (Nat.gcd_dvd_right _ _)];rfl
theorem SQ (q:Nat->Rat):∀ k,0<a1Q q k
 | 0=>Nat.one_pos
 | k+1=>Nat.lcm_pos (SQ q k) (q k).den_pos
theorem SN {q:Nat->Rat}:∀ k j,j<k->(q j).den ∣ a1Q q k
 | 0,j,h=>by omega
 | k+1,j,h=>by
  show (q j).den ∣ Nat.lcm (a1Q q k) (q k).den
  by_cases e:j=k
  ·subst e;exact Nat.dvd_lcm_right _ _
  ·exact Nat.dvd_trans (SN k j (by omega)) (Nat.dvd_lcm_left _ _)
theorem a1R {q:Nat->Rat} {D:Nat}:∀ k,(∀ j,j<k->(q j).den ∣ D)->a1Q q k ∣ D
 | 0,_=>Nat.one_dvd _
 | k+1,h=>Nat.lcm_dvd (a1R k fun j hj=>h j (by omega)) (h k (by omega))
theorem PD (q:Nat->Rat) (k:Nat):mZ q k≠0:=by rw[OZ];have:=SQ q k;omega
theorem wY {q:Nat->Rat} {k j:Nat} (h:j<k):((q j).den:Int) ∣ mZ q k:=by rw[OZ];exact Int.natCast_dvd_natCast.2 (SN k j h)
def mulN (q:Nat->Rat):Nat->Nat
 | 0=>1
 | k+1=>mulN q k*(q k).den
theorem PN (q:Nat->Rat):∀ k,dJ q k=(mulN q k:Nat)
 | 0=>rfl
 | k+1=>by
  show dJ q k*((q k).den:Int)=((mulN q k*(q k).den:Nat):Int)
  rw[PN q k,Int.natCast_mul]
theorem TN (q:Nat->Rat):∀ k,0<mulN q k
 | 0=>Nat.one_pos
 | k+1=>Nat.mul_pos (TN q k) (q k).den_pos
theorem TM {q:Nat->Rat}:∀ k j,j<k->(q j).den ∣ mulN q k
 | 0,j,h=>by omega
 | k+1,j,h=>by
  show (q j).den ∣ mulN q k*(q k).den
  by_cases e:j=k
  ·subst e;exact Nat.dvd_mul_left _ _
  ·exact Nat.dvd_trans (TM k j (by omega)) (Nat.dvd_mul_right _ _)
theorem a0l (q:Nat->Rat) (k:Nat):dJ q k≠0:=by rw[PN];have:=TN q k;omega
theorem pG {q:Nat->Rat} {k j:Nat} (h:j<k):((q j).den:Int) ∣ dJ q k:=by rw[PN];exact Int.natCast_dvd_natCast.2 (TM k j h)
theorem JL {q:Nat->Rat} {K n:Nat} (h:∀ k,k<n->rsz (q k)<=K):∀ k,k<=n->isz (dJ q k)<=k*K+1
 | 0,_=>by show isz 1<=_;rw[show isz 1=1 by decide +kernel];omega
 | k+1,hk=>by
  have ih:=JL h k (by omega)
  have m:=fJ (dJ q k) ((q k).den:Int)
  have d:=fU (q k)
  have:=h k (by omega)
  show isz (dJ q k*((q k).den:Int))<=_
  rw[zf]
  omega
theorem b6p (q:Nat->Rat) (k:Nat):((Int.gcd (mZ q k) ((q k).den:Int):Nat):Int)≠0:=fun e=>by
 have e:Int.gcd (mZ q k) ((q k).den:Int)=0:=by omega
 exact PD q k (Int.gcd_eq_zero_iff.1 e).1
theorem b6q {q:Nat->Rat} {K k:Nat} (h:rsz (q k)<=K):isz (((q k).den:Int).fdiv ((Int.gcd (mZ q k) ((q k).den:Int):Nat):Int))<=K :=
 ak (OW (b6p q k) (Int.gcd_dvd_right ..)) (ak (fU _) h)
theorem SS {q:Nat->Rat} {K n:Nat} (h:∀ k,k<n->rsz (q k)<=K):∀ k,k<=n->isz (mZ q k)<=k*K+1
 | 0,_=>by show isz 1<=_;rw[show isz 1=1 by decide +kernel];omega
 | k+1,hk=>by
  have ih:=SS h k (by omega)
  have m:=fJ (mZ q k) (((q k).den:Int).fdiv ((Int.gcd (mZ q k) ((q k).den:Int):Nat):Int))
  have d:=b6q (h k (by omega))
  show isz (mZ q k*((q k).den:Int).fdiv ((Int.gcd (mZ q k) ((q k).den:Int):Nat):Int))<=_
  rw[zf]
  omega
theorem QV {D:Int} {q:Nat->Rat} {j C:Nat} (hD:isz D<=C) (h:((q j).den:Int) ∣ D):isz (D.fdiv ((q j).den:Int))<=C :=
 ak (OW (by have:=(q j).den_nz;omega) h) hD
theorem zL {D:Int} {q:Nat->Rat} {j K C:Nat} (hD:isz D<=C) (h:((q j).den:Int) ∣ D) (hK:rsz (q j)<=K):isz (VN D q j)<=K+C:=by
 have m:=fJ (q j).num (D.fdiv ((q j).den:Int))
 have a:=gX (q j)
 have b:=QV hD h
 unfold VN;omega
theorem CS {D:Int} {q:Nat->Rat} {j:Nat} (h0:D≠0) (h:((q j).den:Int) ∣ D) (hq:q j≠0):VN D q j≠0:=by
 intro e
 unfold VN at e
 obtain⟨t,rfl⟩:=h
 have hd:((q j).den:Int)≠0:=by have:=(q j).den_nz;omega
 rw[Int.mul_fdiv_cancel_left _ hd] at e
 rcases Int.mul_eq_zero.1 e with e|e
 ·exact hq (Ec.1 e)
 ·exact h0 (by rw[e,Int.mul_zero])
theorem a0r {xs:Nat->Int} {n j:Nat} (hj:j<n):prG xs n ∣ xs j:=by
 unfold prG
 split
 ·exact Int.neg_dvd.2 (a0b n j hj)
 ·exact a0b n j hj
theorem TV {xs:Nat->Int} {n j:Nat} (hj:j<n) (h:xs j≠0):prG xs n≠0:=by
 have:=a9r h n hj
 unfold prG
 split<;>omega
theorem a0s {xs:Nat->Int} {n K:Nat} (h:∀ j,j<n->isz (xs j)<=K):isz (prG xs n)<=K:=by
 unfold prG
 split
 ·rw[jJ];exact xX n h
 ·exact xX n h
theorem b4E {xs:Nat->Int} {n j K:Nat} (hj:j<n) (h0:prG xs n≠0) (h:isz (xs j)<=K):isz (prN xs n j)<=K:=ak (OW h0 (a0r hj)) h
theorem XB {t:Nat} {xs ys:Nat->Int} {n:Nat} (h:∀ j,j<n->ys j=(t:Int)*xs j):∀ k,k<=n->gsq ys k=(t:Int)*gsq xs k
 | 0,_=>by show (0:Int)=(t:Int)*0;rw[Int.mul_zero]
 | k+1,hk=>by
  show ((Int.gcd (gsq ys k) (ys k):Nat):Int)=(t:Int)*((Int.gcd (gsq xs k) (xs k):Nat):Int)
  rw[XB h k (by omega),h k (by omega),Int.gcd_mul_left,Int.natAbs_natCast,Int.natCast_mul]
theorem WX {t:Nat} (ht:0<t) {xs ys:Nat->Int} {n:Nat} (h:∀ j,j<n->ys j=(t:Int)*xs j):∀ k,k<=n->fsq ys k=(t:Int)*fsq xs k
 | 0,_=>by show (0:Int)=(t:Int)*0;rw[Int.mul_zero]
 | k+1,hk=>by
  show (if fsq ys k=0 then ys k else fsq ys k)=(t:Int)*(if fsq xs k=0 then xs k else fsq xs k)
  rw[WX ht h k (by omega),h k (by omega)]
  by_cases e:fsq xs k=0
  ·rw[iw e,iw (by rw[e,Int.mul_zero])]
  ·rw[eu e,eu (fun e2=>by rcases Int.mul_eq_zero.1 e2 with e2|e2<;>omega)]
theorem a7p {t:Nat} (ht:0<t) {xs ys:Nat->Int} {n j:Nat} (h:∀ j,j<n->ys j=(t:Int)*xs j) (hj:j<n):prN ys n j=prN xs n j:=by
 have ht':(0:Int)<(t:Int):=by omega
 have e:prG ys n=(t:Int)*prG xs n:=by
  unfold prG
  rw[XB h n (aj n),WX ht h n (aj n)]
  by_cases e:fsq xs n<0
  ·rw[iw e,iw (Int.mul_neg_of_pos_of_neg ht' e),Int.mul_neg]
  ·rw[eu e,eu (fun e2=>by have:=Int.mul_nonneg (Int.le_of_lt ht') (show 0<=fsq xs n by omega);omega)]
 unfold prN
 rw[e,h j hj,Int.mul_fdiv_mul_of_pos _ _ ht']
def a7q (q:Nat->Rat) (n:Nat):List Int:=(List.range n).map (prN (VN (mZ q n) q) n)
def c3Q (q:Nat->Rat) (n:Nat):List Int:=(List.range n).map (prN (VN (dJ q n) q) n)
theorem b0Y (q:Nat->Rat) (n:Nat):c3Q q n=a7q q n:=by
 obtain⟨t,ht⟩:a1Q q n ∣ mulN q n:=a1R n fun j hj=>TM n j hj
 have h0:=SQ q n
 have h1:=TN q n
 have t0:0<t:=Nat.pos_of_ne_zero fun e=>by rw[e,Nat.mul_zero] at ht;omega
 unfold c3Q a7q
 refine ku fun j hj=>a7p t0 (fun k hk=>?_) (oq.1 hj)
 unfold VN
 obtain⟨s,hs⟩:=SN (q:=q) n k hk
 have hd:((q k).den:Int)≠0:=by have:=(q k).den_nz;omega
 rw[PN,OZ,ht,hs,Int.natCast_mul,Int.natCast_mul,Int.mul_assoc,Int.mul_fdiv_cancel_left _ hd,Int.mul_fdiv_cancel_left _ hd]
 grind
set_option maxHeartbeats 1000000
def TW (l:LQ'):Prop:=l.length<=64/\(∀ q ∈ l,rsz q<=1000000)/\∃ q ∈ l,q≠0
def lcN (l:LQ') (j:Nat):Int:=VN (mZ (lv l) l.length) (lv l) j
def EK (l:LQ'):List Int:=a7q (lv l) l.length
noncomputable def c2y:Ctr:=⟨[.list tQ],[.list tZ],fun x=>TW x.1,fun x=>(EK x.1,())⟩
def prO (N:Nat->Int) (n k:Nat):List Int:=(List.range n).map fun j=>if j<k then prN N n j else N j
theorem jL {N:Nat->Int} {n k:Nat}:(prO N n k).length=n:=by unfold prO;simp
theorem yD {N:Nat->Int} {n k j:Nat} (h:j<n):(prO N n k).getD j 0=if j<k then prN N n j else N j:=by
 unfold prO
 rw[bf,qj,Bc h];rfl
theorem a5K {N:Nat->Int} {n:Nat}:(List.range n).map N=prO N n 0:=ku fun j _=>(eu (by omega)).symm
theorem a5L {N:Nat->Int} {n:Nat}:prO N n n=(List.range n).map (prN N n):=ku fun j hj=>iw (oq.1 hj)
theorem PS {N:Nat->Int} {n k:Nat} (h:k<n):(prO N n k).set k (((prO N n k).getD k 0).fdiv (prG N n))=prO N n (k+1):=by
 rw[yD h,eu (by omega)]
 apply List.ext_getElem?
 intro j
 unfold prO
 rw[List.getElem?_set]
 by_cases e:k=j
 ·subst e
  rw[iw rfl,qj,Bc h,iw (by simpa using h)]
  show some _=some (if k<k+1 then prN N n k else N k)
  rw[iw (by omega)];rfl
 ·rw[eu e,qj,qj]
  by_cases hj:j<n
  ·rw[Bc hj]
   show some (if j<k then prN N n j else N j)=some (if j<k+1 then prN N n j else N j)
   by_cases h2:j<k
   ·rw[iw h2,iw (by omega)]
   ·rw[eu h2,eu (by omega)]
  ·rw[qw (by simpa using hj)];rfl
theorem TW.at {l:LQ'} (h:TW l):(∀ k,k<l.length->rsz (lv l k)<=1000000)/\∃ j,j<l.length/\lv l j≠0:=by
 refine⟨fun k hk=>cZ h.2.1 hk,?_⟩
 obtain⟨q,hq,hz⟩:=h.2.2
 obtain⟨j,hj,rfl⟩:=Au hq
 exact⟨j,hj,by show l.getD j 0≠0;rw[bf,bn hj];exact hz⟩
theorem b1J {x:Int}:(x.sign=0)=(x=0):=propext vg
theorem a4b {x:Int}:(sgn x=0)=(x=0):=propext vg
theorem IB (q:Rat):((q.den:Nat):Int)≠0:=by have:=q.den_nz;omega
theorem b4I:aH Tryz.prog 149 c2y:=by
 refine aI ((((((nil0.ad NZ).ad AA).ad oU).ad uN).ad oV).ad zY) ⟨[3,5,6,7,8,11,12,14,15,16,18,20],[],[]⟩ Tryz.func149 rfl (by decide) (fun x=>[.inv {k:Nat // k<=(show LQ' from x.1).length} (fun k=>[(24,.val tI (k.1:Int))]) (fun k=>[(3,.box [⟨tZ,mZ (lv (show LQ' from x.1)) k.1⟩])]) (fun k=>(show LQ' from x.1).length-k.1) ⟨0,by omega⟩ (fun _=>[]),
  .inv {k:Nat // k<=(show LQ' from x.1).length} (fun k=>[(46,.val tI (k.1:Int)),(10,.own 64 0),(64,.any)]) (fun k=>[(64,.row 45 tZ ((List.range k.1).map (lcN (show LQ' from x.1))) 0),(3,.box [⟨tZ,mZ (lv (show LQ' from x.1)) (show LQ' from x.1).length⟩]),(11,.box [⟨tZ,gsq (lcN (show LQ' from x.1)) k.1⟩]),(12,.box [⟨tZ,fsq (lcN (show LQ' from x.1)) k.1⟩])]) (fun k=>(show LQ' from x.1).length-k.1) ⟨0,by omega⟩ (fun _=>[]),
  .inv {k:Nat // k<=(show LQ' from x.1).length} (fun k=>[(81,.val tI (k.1:Int))]) (fun k=>[(64,.row 45 tZ (prO (lcN (show LQ' from x.1)) (show LQ' from x.1).length k.1) 0),(11,.box [⟨tZ,prG (lcN (show LQ' from x.1)) (show LQ' from x.1).length⟩])]) (fun k=>(show LQ' from x.1).length-k.1) ⟨0,by omega⟩ (fun _=>[])]) (fun x hp=>?_)
 obtain⟨l,u⟩:=x
 change List Rat at l
 refine aO (let A₀:=(mZ (lv l) l.length);let A₁:=(prG (lcN l) l.length);(bP 1/\True)/\(asT Int 0=0/\1=mZ (lv l) 0/\True)/\∀ (i:{ k:Nat // k<=List.length l }),let aN:=(mZ (lv l) (aA i));let A₂:=(Int.gcd aN (aB (Rat.den (List.getD l (aB (aA i)).toNat 0))));asT Bool true=true/\ifB (decide (aB (aA i)<aB l.length)) ((0<=aB (aA i)/\aB (aA i)<aB l.length/\True)/\((isz aN<=1000000000/\isz (aB (Rat.den (List.getD l (aB (aA i)).toNat 0)))<=1000000000)/\True)/\((isz (aB (Rat.den (List.getD l (aB (aA i)).toNat 0)))<=1000000000/\isz (aB A₂)<=1000000000/\aB A₂≠0)/\True)/\((isz aN<=1000000000/\isz (Int.fdiv (aB (Rat.den (List.getD l (aB (aA i)).toNat 0))) (aB A₂))<=1000000000)/\True)/\∃ (i':{ k:Nat // k<=List.length l }),List.length l-aA i'<List.length l-aA i/\IntKind.wrap IntKind.i64 (aB (aA i)+1)=aB (aA i')/\mZ (lv l) (aA i)*Int.fdiv (aB (Rat.den (List.getD l (aB (aA i)).toNat 0))) (aB A₂)=mZ (lv l) (aA i')/\True) ((asT Int 0=0/\(True/\asT (List Int) (aC Int)=aC Int)/\(asT (List Int) (aC Int)=aC Int/\0=0/\asT Bool true=true)/\mZ (lv l) (aA i)=mZ (lv l) l.length/\0=gsq (lcN l) 0/\0=fsq (lcN l) 0/\True)/\∀ (i:{ k:Nat // k<=List.length l }),let aU:=(List.getD l (aB (aA i)).toNat 0);let aX:=(Rat.num aU*Int.fdiv A₀ (aB (Rat.den aU)));let bJ:=(List.map (lcN l) (List.range (aA i)));let dA:=(gsq (lcN l) (aA i));asT Bool true=true/\ifB (decide (aB (aA i)<aB l.length)) ((0<=aB (aA i)/\aB (aA i)<aB l.length/\True)/\((isz A₀<=1000000000/\isz (aB (Rat.den aU))<=1000000000/\aB (Rat.den aU)≠0)/\True)/\((isz (Rat.num aU)<=1000000000/\isz (Int.fdiv A₀ (aB (Rat.den aU)))<=1000000000)/\True)/\(List.length bJ+List.length (Rat.num aU*Int.fdiv A₀ (aB (Rat.den aU))::aC Int)<=1000000000/\True)/\((isz dA<=1000000000/\isz aX<=1000000000)/\True)/\(True/\True)/\ifB (Int.sign (fsq (lcN l) (aA i))==0) (∃ (i':{ k:Nat // k<=List.length l }),List.length l-aA i'<List.length l-aA i/\IntKind.wrap IntKind.i64 (aB (aA i)+1)=aB (aA i')/\List.map (lcN l) (List.range (aA i))++Rat.num aU*Int.fdiv A₀ (aB (Rat.den aU))::aC Int=List.map (lcN l) (List.range (aA i'))/\mZ (lv l) l.length=mZ (lv l) l.length/\aB (Int.gcd dA aX)=gsq (lcN l) (aA i')/\Rat.num aU*Int.fdiv A₀ (aB (Rat.den aU))=fsq (lcN l) (aA i')/\True) (∃ (i':{ k:Nat // k<=List.length l }),List.length l-aA i'<List.length l-aA i/\IntKind.wrap IntKind.i64 (aB (aA i)+1)=aB (aA i')/\List.map (lcN l) (List.range (aA i))++Rat.num aU*Int.fdiv A₀ (aB (Rat.den aU))::aC Int=List.map (lcN l) (List.range (aA i'))/\mZ (lv l) l.length=mZ (lv l) l.length/\aB (Int.gcd dA aX)=gsq (lcN l) (aA i')/\fsq (lcN l) (aA i)=fsq (lcN l) (aA i')/\True)) ((True/\True)/\ifB (decide (Int.sign (fsq (lcN l) (aA i))<0)) ((isz dA<=1000000000/\True)/\(asT Int 0=0/\List.map (lcN l) (List.range (aA i))=prO (lcN l) l.length 0/\-gsq (lcN l) (aA i)=prG (lcN l) l.length/\True)/\∀ (i_1:{ k:Nat // k<=List.length l }),let dF:=(prO (lcN l) l.length (aA i_1));let dL:=(aB (aA i_1)).toNat;asT Bool true=true/\ifB (decide (aB (aA i_1)<aB bJ.length)) ((0<=aB (aA i_1)/\aB (aA i_1)<aB dF.length/\Int.toNat (aB (aA i_1))<List.length dF/\True)/\((isz (List.getD dF dL 0)<=1000000000/\isz A₁<=1000000000/\prG (lcN l) l.length≠0)/\0<=aB (aA i_1)/\aB (aA i_1)<aB dF.length/\Int.toNat (aB (aA i_1))<List.length dF/\True)/\∃ (i':{ k:Nat // k<=List.length l }),List.length l-aA i'<List.length l-aA i_1/\IntKind.wrap IntKind.i64 (aB (aA i_1)+1)=aB (aA i')/\List.set dF dL (Int.fdiv (List.getD dF dL 0) A₁)=prO (lcN l) l.length (aA i')/\prG (lcN l) l.length=prG (lcN l) l.length/\True) (True/\prO (lcN l) l.length (aA i_1)=EK l/\True)) ((asT Int 0=0/\List.map (lcN l) (List.range (aA i))=prO (lcN l) l.length 0/\gsq (lcN l) (aA i)=prG (lcN l) l.length/\True)/\∀ (i_1:{ k:Nat // k<=List.length l }),let dP:=(prO (lcN l) l.length (aA i_1));let fO:=(aB (aA i_1)).toNat;asT Bool true=true/\ifB (decide (aB (aA i_1)<aB bJ.length)) ((0<=aB (aA i_1)/\aB (aA i_1)<aB dP.length/\Int.toNat (aB (aA i_1))<List.length dP/\True)/\((isz (List.getD dP fO 0)<=1000000000/\isz A₁<=1000000000/\prG (lcN l) l.length≠0)/\0<=aB (aA i_1)/\aB (aA i_1)<aB dP.length/\Int.toNat (aB (aA i_1))<List.length dP/\True)/\∃ (i':{ k:Nat // k<=List.length l }),List.length l-aA i'<List.length l-aA i_1/\IntKind.wrap IntKind.i64 (aB (aA i_1)+1)=aB (aA i')/\List.set dP fO (Int.fdiv (List.getD dP fO 0) A₁)=prO (lcN l) l.length (aA i')/\prG (lcN l) l.length=prG (lcN l) l.length/\True) (True/\prO (lcN l) l.length (aA i_1)=EK l/\True))))) (by kernel_rfl) ?_
 try simp only[zP0]
 try dsimp only[aB,asT,aA,aC,Ty.den,Lf.den] at *
 try simp only[zP1]
 try simp only[zP2]
 have hp:TW l:=hp
 obtain⟨hK,j0,hj0,hx0⟩:=hp.at
 have hn:=hp.1
 have hv:∀ j,l.getD j 0=lv l j:=fun _=>rfl
 simp only[hv,jo,jy,b1J] at *
 have hL:∀ k,k<=l.length->isz (mZ (lv l) k)<=64000001:=fun k hk=>ak (SS hK k hk) (by omega)
 have hd:∀ k,k<l.length->isz ((lv l k).den:Int)<=1000000:=fun k hk=>ak (fU _) (hK k hk)
 have hm:∀ k,k<l.length->isz (lv l k).num<=1000000:=fun k hk=>ak (gX _) (hK k hk)
 have hN:∀ j,j<l.length->isz (lcN l j)<=65000001:=fun j hj=>ak (zL (hL _ (aj _)) (wY hj) (hK j hj)) (by omega)
 have hne:prG (lcN l) l.length≠0:=TV hj0 (CS (PD _ _) (wY hj0) hx0)
 have hG:isz (prG (lcN l) l.length)<=65000001:=a0s hN
 have hg:∀ k,k<=l.length->isz (gsq (lcN l) k)<=65000001:=fun k hk=>xX k fun j hj=>hN j (by omega)
 have hN2:∀ j,(lv l j).num*(mZ (lv l) l.length).fdiv ((lv l j).den:Int)=lcN l j:=fun _=>rfl
 simp only[hN2]
 refine⟨⟨by omega,by omega⟩,rfl,fun i=>⟨fun h1=>?_,fun h1=>⟨⟨by rw[show i.1=l.length by have:=i.2;omega],rfl,rfl⟩,fun i2=>⟨fun h2=>?_,fun h2=>?_⟩⟩⟩⟩
 ·have hi:i.1<l.length:=by omega
  exact⟨⟨by omega,h1⟩,⟨ak (hL _ i.2) (by omega),ak (hd _ hi) (by omega)⟩,⟨ak (hd _ hi) (by omega),ak (jT (IB _) (hd _ hi)) (by omega),b6p _ _⟩,⟨ak (hL _ i.2) (by omega),ak (b6q (hK _ hi)) (by omega)⟩,⟨i.1+1,by omega⟩,by simp only;omega,by rw[aJ (by omega) (by omega)];rfl,rfl⟩
 ·have hi:i2.1<l.length:=by omega
  refine⟨⟨by omega,h2⟩,⟨ak (hL _ (aj _)) (by omega),ak (hd _ hi) (by omega),IB _⟩,⟨ak (hm _ hi) (by omega),ak (QV (hL _ (aj _)) (wY hi)) (by omega)⟩,by omega,⟨ak (hg _ i2.2) (by omega),ak (hN _ hi) (by omega)⟩,fun h3=>⟨⟨i2.1+1,by omega⟩,by simp only;omega,by rw[aJ (by omega) (by omega)];rfl,?_,rfl,?_⟩,fun h3=>⟨⟨i2.1+1,by omega⟩,by simp only;omega,by rw[aJ (by omega) (by omega)];rfl,?_,rfl,?_⟩⟩
  ·rw[oh,ug];rfl
  ·exact(iw h3).symm
  ·rw[oh,ug];rfl
  ·exact(eu h3).symm
 ·have hi2:i2.1=l.length:=by have:=i2.2;omega
  rw[hi2]
  refine⟨fun h3=>⟨ak (hg _ (aj _)) (by omega),?_⟩,fun h3=>?_⟩
  ·refine⟨⟨a5K,(iw (Ac.1 h3)).symm⟩,fun i3=>⟨fun h4=>?_,fun h4=>?_⟩⟩
   ·have hi3:i3.1<l.length:=by omega
    rw[yD hi3,eu (by omega)]
    refine⟨⟨by omega,by rw[jL];omega,by rw[jL];exact hi3⟩,⟨⟨ak (hN _ hi3) (by omega),ak hG (by omega),hne⟩,by omega,by rw[jL];omega,by rw[jL];exact hi3⟩,⟨i3.1+1,by omega⟩,by simp only;omega,by rw[aJ (by omega) (by omega)];rfl,?_⟩
    have:=PS (N:=lcN l) hi3
    rw[yD hi3,eu (by omega)] at this
    exact this
   ·rw[show i3.1=l.length by have:=i3.2;omega,a5L];rfl
  ·refine⟨⟨a5K,(eu (fun e=>h3 (Ac.2 e))).symm⟩,fun i3=>⟨fun h4=>?_,fun h4=>?_⟩⟩
   ·have hi3:i3.1<l.length:=by omega
    rw[yD hi3,eu (by omega)]
    refine⟨⟨by omega,by rw[jL];omega,by rw[jL];exact hi3⟩,⟨⟨ak (hN _ hi3) (by omega),ak hG (by omega),hne⟩,by omega,by rw[jL];omega,by rw[jL];exact hi3⟩,⟨i3.1+1,by omega⟩,by simp only;omega,by rw[aJ (by omega) (by omega)];rfl,?_⟩
    have:=PS (N:=lcN l) hi3
    rw[yD hi3,eu (by omega)] at this
    exact this
   ·rw[show i3.1=l.length by have:=i3.2;omega,a5L];rfl
def lrN (l:LQ') (j:Nat):Int:=VN (dJ (lv l) l.length) (lv l) j
theorem b0u:aH Tryz.prog 102 c2y:=by
 refine aI ((((((nil0.ad OA).ad a2N).ad KQ).ad ED).ad wB).ad KR) ⟨[3,5,7,10,11,12,14],[],[]⟩ Tryz.func102 rfl (by decide) (fun x=>[.inv {k:Nat // k<=(show LQ' from x.1).length} (fun k=>[(19,.val tI (k.1:Int))]) (fun k=>[(3,.box [⟨tZ,dJ (lv (show LQ' from x.1)) k.1⟩])]) (fun k=>(show LQ' from x.1).length-k.1) ⟨0,by omega⟩ (fun _=>[]),
  .inv {k:Nat // k<=(show LQ' from x.1).length} (fun k=>[(31,.val tI (k.1:Int)),(8,.val tI (sgn (fsq (lrN (show LQ' from x.1)) k.1))),(6,.own 56 0),(56,.any)]) (fun k=>[(56,.row 45 tZ ((List.range k.1).map (lrN (show LQ' from x.1))) 0),(3,.box [⟨tZ,dJ (lv (show LQ' from x.1)) (show LQ' from x.1).length⟩]),(7,.box [⟨tZ,gsq (lrN (show LQ' from x.1)) k.1⟩])]) (fun k=>(show LQ' from x.1).length-k.1) ⟨0,by omega⟩ (fun _=>[]),
  .inv {k:Nat // k<=(show LQ' from x.1).length} (fun k=>[(65,.val tI (k.1:Int))]) (fun k=>[(56,.row 45 tZ (prO (lrN (show LQ' from x.1)) (show LQ' from x.1).length k.1) 0),(7,.box [⟨tZ,prG (lrN (show LQ' from x.1)) (show LQ' from x.1).length⟩])]) (fun k=>(show LQ' from x.1).length-k.1) ⟨0,by omega⟩ (fun _=>[])]) (fun x hp=>?_)
 obtain⟨l,u⟩:=x
 change List Rat at l
 refine aO (let A₀:=(dJ (lv l) l.length);let A₁:=(prG (lrN l) l.length);(bP 1/\True)/\(asT Int 0=0/\1=dJ (lv l) 0/\True)/\∀ (i:{ k:Nat // k<=List.length l }),asT Bool true=true/\ifB (decide (aB (aA i)<aB l.length)) ((0<=aB (aA i)/\aB (aA i)<aB l.length/\True)/\((isz (dJ (lv l) (aA i))<=1000000000/\isz (aB (Rat.den (List.getD l (aB (aA i)).toNat 0)))<=1000000000)/\True)/\∃ (i':{ k:Nat // k<=List.length l }),List.length l-aA i'<List.length l-aA i/\IntKind.wrap IntKind.i64 (aB (aA i)+1)=aB (aA i')/\dJ (lv l) (aA i)*aB (Rat.den (List.getD l (aB (aA i)).toNat 0))=dJ (lv l) (aA i')/\True) ((bP 0/\True)/\(asT Int 0=0/\0=sgn (fsq (lrN l) 0)/\(True/\asT (List Int) (aC Int)=aC Int)/\(asT (List Int) (aC Int)=aC Int/\0=0/\asT Bool true=true)/\dJ (lv l) (aA i)=dJ (lv l) l.length/\0=gsq (lrN l) 0/\True)/\∀ (i:{ k:Nat // k<=List.length l }),let A₂:=(List.getD l (aB (aA i)).toNat 0);let aN:=(Int.fdiv A₀ (aB (Rat.den A₂))*Rat.num A₂);let aX:=(List.map (lrN l) (List.range (aA i)));let aU:=(List.length aX+List.length (Int.fdiv A₀ (aB (Rat.den A₂))*Rat.num A₂::aC Int)<=1000000000/\True);let bJ:=(gsq (lrN l) (aA i));let dA:=(fsq (lrN l) (aA i));asT Bool true=true/\ifB (decide (aB (aA i)<aB l.length)) ((0<=aB (aA i)/\aB (aA i)<aB l.length/\True)/\((isz A₀<=400000000/\isz (aB (Rat.den A₂))<=400000000/\aB (Rat.den A₂)≠0)/\True)/\((isz (Int.fdiv A₀ (aB (Rat.den A₂)))<=1000000000/\isz (Rat.num A₂)<=1000000000)/\True)/\((isz bJ<=1000000000/\isz aN<=1000000000)/\True)/\ifB (sgn dA==0) ((isz aN<=1000000000/\True)/\aU/\∃ (i':{ k:Nat // k<=List.length l }),List.length l-aA i'<List.length l-aA i/\IntKind.wrap IntKind.i64 (aB (aA i)+1)=aB (aA i')/\sgn aN=sgn (fsq (lrN l) (aA i'))/\List.map (lrN l) (List.range (aA i))++Int.fdiv A₀ (aB (Rat.den A₂))*Rat.num A₂::aC Int=List.map (lrN l) (List.range (aA i'))/\dJ (lv l) l.length=dJ (lv l) l.length/\aB (Int.gcd bJ aN)=gsq (lrN l) (aA i')/\True) (aU/\∃ (i':{ k:Nat // k<=List.length l }),List.length l-aA i'<List.length l-aA i/\IntKind.wrap IntKind.i64 (aB (aA i)+1)=aB (aA i')/\sgn dA=sgn (fsq (lrN l) (aA i'))/\List.map (lrN l) (List.range (aA i))++Int.fdiv A₀ (aB (Rat.den A₂))*Rat.num A₂::aC Int=List.map (lrN l) (List.range (aA i'))/\dJ (lv l) l.length=dJ (lv l) l.length/\aB (Int.gcd bJ aN)=gsq (lrN l) (aA i')/\True)) (ifB (decide (sgn dA<0)) ((isz bJ<=1000000000/\True)/\(asT Int 0=0/\List.map (lrN l) (List.range (aA i))=prO (lrN l) l.length 0/\-gsq (lrN l) (aA i)=prG (lrN l) l.length/\True)/\∀ (i_1:{ k:Nat // k<=List.length l }),let dF:=(prO (lrN l) l.length (aA i_1));let dL:=(aB (aA i_1)).toNat;asT Bool true=true/\ifB (decide (aB (aA i_1)<aB aX.length)) ((0<=aB (aA i_1)/\aB (aA i_1)<aB dF.length/\Int.toNat (aB (aA i_1))<List.length dF/\(isz (List.getD dF dL 0)<=400000000/\isz A₁<=400000000/\prG (lrN l) l.length≠0)/\0<=aB (aA i_1)/\aB (aA i_1)<aB dF.length/\Int.toNat (aB (aA i_1))<List.length dF/\True)/\∃ (i':{ k:Nat // k<=List.length l }),List.length l-aA i'<List.length l-aA i_1/\IntKind.wrap IntKind.i64 (aB (aA i_1)+1)=aB (aA i')/\List.set dF dL (Int.fdiv (List.getD dF dL 0) A₁)=prO (lrN l) l.length (aA i')/\prG (lrN l) l.length=prG (lrN l) l.length/\True) (True/\prO (lrN l) l.length (aA i_1)=EK l/\True)) ((asT Int 0=0/\List.map (lrN l) (List.range (aA i))=prO (lrN l) l.length 0/\gsq (lrN l) (aA i)=prG (lrN l) l.length/\True)/\∀ (i_1:{ k:Nat // k<=List.length l }),let dP:=(prO (lrN l) l.length (aA i_1));let fO:=(aB (aA i_1)).toNat;asT Bool true=true/\ifB (decide (aB (aA i_1)<aB aX.length)) ((0<=aB (aA i_1)/\aB (aA i_1)<aB dP.length/\Int.toNat (aB (aA i_1))<List.length dP/\(isz (List.getD dP fO 0)<=400000000/\isz A₁<=400000000/\prG (lrN l) l.length≠0)/\0<=aB (aA i_1)/\aB (aA i_1)<aB dP.length/\Int.toNat (aB (aA i_1))<List.length dP/\True)/\∃ (i':{ k:Nat // k<=List.length l }),List.length l-aA i'<List.length l-aA i_1/\IntKind.wrap IntKind.i64 (aB (aA i_1)+1)=aB (aA i')/\List.set dP fO (Int.fdiv (List.getD dP fO 0) A₁)=prO (lrN l) l.length (aA i')/\prG (lrN l) l.length=prG (lrN l) l.length/\True) (True/\prO (lrN l) l.length (aA i_1)=EK l/\True))))) (by kernel_rfl) ?_
 try simp only[zP0]
 try dsimp only[aB,asT,aA,aC,Ty.den,Lf.den] at *
 try simp only[zP1]
 try simp only[zP2]
 have hp:TW l:=hp
 obtain⟨hK,j0,hj0,hx0⟩:=hp.at
 have hn:=hp.1
 have hv:∀ j,l.getD j 0=lv l j:=fun _=>rfl
 simp only[hv,jo,jy,b1J,a4b] at *
 have hL:∀ k,k<=l.length->isz (dJ (lv l) k)<=64000001:=fun k hk=>ak (JL hK k hk) (by omega)
 have hd:∀ k,k<l.length->isz ((lv l k).den:Int)<=1000000:=fun k hk=>ak (fU _) (hK k hk)
 have hm:∀ k,k<l.length->isz (lv l k).num<=1000000:=fun k hk=>ak (gX _) (hK k hk)
 have hN:∀ j,j<l.length->isz (lrN l j)<=65000001:=fun j hj=>ak (zL (hL _ (aj _)) (pG hj) (hK j hj)) (by omega)
 have hne:prG (lrN l) l.length≠0:=TV hj0 (CS (a0l _ _) (pG hj0) hx0)
 have hG:isz (prG (lrN l) l.length)<=65000001:=a0s hN
 have hg:∀ k,k<=l.length->isz (gsq (lrN l) k)<=65000001:=fun k hk=>xX k fun j hj=>hN j (by omega)
 have hN2:∀ j,(dJ (lv l) l.length).fdiv ((lv l j).den:Int)*(lv l j).num=lrN l j:=fun _=>Int.mul_comm _ _
 simp only[hN2]
 refine⟨⟨by omega,by omega⟩,rfl,fun i=>⟨fun h1=>?_,fun h1=>⟨⟨by omega,by omega⟩,⟨rfl,by rw[show i.1=l.length by have:=i.2;omega],rfl⟩,fun i2=>⟨fun h2=>?_,fun h2=>?_⟩⟩⟩⟩
 ·have hi:i.1<l.length:=by omega
  exact⟨⟨by omega,h1⟩,⟨ak (hL _ i.2) (by omega),ak (hd _ hi) (by omega)⟩,⟨i.1+1,by omega⟩,by simp only;omega,by rw[aJ (by omega) (by omega)];rfl,rfl⟩
 ·have hi:i2.1<l.length:=by omega
  refine⟨⟨by omega,h2⟩,⟨ak (hL _ (aj _)) (by omega),ak (hd _ hi) (by omega),IB _⟩,⟨ak (QV (hL _ (aj _)) (pG hi)) (by omega),ak (hm _ hi) (by omega)⟩,⟨ak (hg _ i2.2) (by omega),ak (hN _ hi) (by omega)⟩,fun h3=>⟨ak (hN _ hi) (by omega),by omega,⟨i2.1+1,by omega⟩,by simp only;omega,by rw[aJ (by omega) (by omega)];rfl,?_,?_,rfl⟩,fun h3=>⟨by omega,⟨i2.1+1,by omega⟩,by simp only;omega,by rw[aJ (by omega) (by omega)];rfl,?_,?_,rfl⟩⟩
  ·exact ql sgn (iw h3).symm
  ·rw[oh,ug];rfl
  ·exact ql sgn (eu h3).symm
  ·rw[oh,ug];rfl
 ·have hi2:i2.1=l.length:=by have:=i2.2;omega
  rw[hi2]
  refine⟨fun h3=>⟨ak (hg _ (aj _)) (by omega),?_⟩,fun h3=>?_⟩
  ·refine⟨⟨a5K,(iw (Ac.1 h3)).symm⟩,fun i3=>⟨fun h4=>?_,fun h4=>?_⟩⟩
   ·have hi3:i3.1<l.length:=by omega
    rw[yD hi3,eu (by omega)]
    refine⟨⟨by omega,by rw[jL];omega,by rw[jL];exact hi3,⟨ak (hN _ hi3) (by omega),ak hG (by omega),hne⟩,by omega,by rw[jL];omega,by rw[jL];exact hi3⟩,⟨i3.1+1,by omega⟩,by simp only;omega,by rw[aJ (by omega) (by omega)];rfl,?_⟩
    have:=PS (N:=lrN l) hi3
    rw[yD hi3,eu (by omega)] at this
    exact this
   ·rw[show i3.1=l.length by have:=i3.2;omega,a5L];exact b0Y _ _
  ·refine⟨⟨a5K,(eu (fun e=>h3 (Ac.2 e))).symm⟩,fun i3=>⟨fun h4=>?_,fun h4=>?_⟩⟩
   ·have hi3:i3.1<l.length:=by omega
    rw[yD hi3,eu (by omega)]
    refine⟨⟨by omega,by rw[jL];omega,by rw[jL];exact hi3,⟨ak (hN _ hi3) (by omega),ak hG (by omega),hne⟩,by omega,by rw[jL];omega,by rw[jL];exact hi3⟩,⟨i3.1+1,by omega⟩,by simp only;omega,by rw[aJ (by omega) (by omega)];rfl,?_⟩
    have:=PS (N:=lrN l) hi3
    rw[yD hi3,eu (by omega)] at this
    exact this
   ·rw[show i3.1=l.length by have:=i3.2;omega,a5L];exact b0Y _ _
theorem b0X (l:LQ'):(EK l).length=l.length:=by unfold EK a7q;simp
theorem a1h (n:Int):Rat.divInt n 1=aV n:=by
 rw[show (1:Int)=((1:Nat):Int) from rfl,Rat.divInt_ofNat];exact Rat.mkRat_one n
noncomputable def c2A:Ctr:=⟨[tZ],[tQ],fun x=>isz x.1<=390000000,fun x=>(aV x.1,())⟩
theorem a2l:aH Tryz.prog 150 c2A:=by
 refine aI ((nil0.ad NZ).ad IQ) ⟨[2,3],[],[]⟩ Tryz.func150 rfl (by decide) (fun x=>[]) (fun x hp=>?_)
 obtain⟨n,u⟩:=x
 change Int at n
 refine aO ((bP 1/\(isz n<=1000000000/\isz 1<=1000000000)/\True)/\(asT Bool true=true/\True)/\Rat.divInt n 1=aV n/\True) (by kernel_rfl) ?_
 try simp only[zP0]
 try dsimp only[aB,asT,aA,aC,Ty.den,Lf.den] at *
 try simp only[zP1]
 try simp only[zP2]
 have hp:isz n<=390000000:=hp
 exact⟨⟨⟨by omega,by omega⟩,by omega,by rw[show isz 1=1 by decide +kernel];omega⟩,(a1h n)⟩
end Go.Proofs.YtbkocjmmbkifjaaGreat
