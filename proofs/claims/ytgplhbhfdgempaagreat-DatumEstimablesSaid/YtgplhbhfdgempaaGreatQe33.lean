/-
  Lemmas for the theorem vestimables_holds, part 33 of 36.
-/
import Derived.Test.YtgplhbhfdgempaaGreatQe32
namespace Go.Proofs.YtgplhbhfdgempaaGreat
open Go Go.RowKit
set_option maxRecDepth 100000
set_option maxHeartbeats 1000000
set_option linter.unusedVariables false
set_option linter.unusedSimpArgs false
def QI (R C:Nat) (f g:Nat->Nat->Rat) (r c:Nat):MQ:=tab R C fun i j=>if i<r\/i=r/\j<c then f i j else g i j
theorem a8L {R C:Nat} {f g:Nat->Nat->Rat}:QI R C f g 0 0=tab R C g:=fU fun i _ j _=>iq (by omega)
theorem b2A {R C:Nat} {f g:Nat->Nat->Rat} {r c:Nat} (hr:r<R):(QI R C f g r c).set r (((QI R C f g r c).getD r []).set c (f r c))=QI R C f g r (c+1):=by
 unfold QI;rw[LZ _ hr]
 refine fU fun i _ j _=>?_
 by_cases e:i=r/\j=c
 ·obtain⟨rfl,rfl⟩:=e;rw[ig ⟨rfl,rfl⟩,ig (by omega)]
 ·rw[iq e]
  by_cases h:i<r\/i=r/\j<c
  ·rw[ig h,ig (by omega)]
  ·rw[iq h,iq (by omega)]
theorem b2z {R C:Nat} {f g:Nat->Nat->Rat} {r c:Nat} (hc:C<=c):QI R C f g r c=QI R C f g (r+1) 0:=by
 refine fU fun i _ j _=>?_
 by_cases h:i<r\/i=r/\j<c
 ·rw[ig h,ig (by omega)]
 ·rw[iq h,iq (by omega)]
theorem b2x {R C:Nat} {f g:Nat->Nat->Rat} {r:Nat} (hr:R<=r):QI R C f g r 0=tab R C f:=fU fun i _ j _=>ig (by omega)
theorem b2y {R C:Nat} {f g:Nat->Nat->Rat} {r c:Nat}:(QI R C f g r c).length=R:=bF
theorem b4X {R C:Nat} {f g:Nat->Nat->Rat} {r c i:Nat} (hi:i<R):((QI R C f g r c).getD i []).length=C:=by unfold QI;rw[jM hi];simp
def DJ (a b:MQ) (r c:Nat):MQ:=QI a.length (wdM b) (mm b.length (ent a) (ent b)) (fun _ _=>0) r c
def c1k:Ctr:=⟨[tM,tM],[tM],fun x=>okM x.1/\okM x.2.1/\wdM (show MQ from x.1)=(show MQ from x.2.1).length/\szM x.1 1000000/\szM x.2.1 1000000,fun x=>(mulM x.1 x.2.1,())⟩
theorem OC:aW Tryz.prog 26 c1k:=by
 refine bH ((((nil0.ad a5E).ad a1H).ad JH).an b1V) ⟨[8],[],[]⟩ Tryz.func26 rfl (by decide) (fun x=>[.inv {k:Nat // k<=(show MQ from x.1).length} (fun r=>[(6,.val tI (r.1:Int))]) (fun r=>[(16,.mat 32 64 tQ none (DJ (show MQ from x.1) (show MQ from x.2.1) r.1 0) 0)]) (fun r=>(show MQ from x.1).length-r.1) ⟨0,by omega⟩ (fun r=>[.inv {k:Nat // k<=wdM (show MQ from x.2.1)} (fun c=>[(7,.val tI (c.1:Int))]) (fun c=>[(16,.mat 32 64 tQ none (DJ (show MQ from x.1) (show MQ from x.2.1) r.1 c.1) 0)]) (fun c=>wdM (show MQ from x.2.1)-c.1) ⟨0,by omega⟩ (fun c=>[.inv {k:Nat // k<=(show MQ from x.2.1).length} (fun k=>[(9,.val tI (k.1:Int))]) (fun k=>[(16,.mat 32 64 tQ none (DJ (show MQ from x.1) (show MQ from x.2.1) r.1 c.1) 0),(8,.box [⟨tQ,mm k.1 (ent (show MQ from x.1)) (ent (show MQ from x.2.1)) r.1 c.1⟩])]) (fun k=>(show MQ from x.2.1).length-k.1) ⟨0,by omega⟩ (fun _=>[])])])]) (fun x hp=>?_)
 obtain⟨a,b,u⟩:=x
 change List (List Rat) at a
 change List (List Rat) at b
 refine bP (let A₀:=(List.getD b 0 (aC Rat)).length;(asT Int 0<=0/\0<aB b.length/\(0<=aB a.length/\aB a.length<=1000/\0<=aB A₀/\aB A₀<=1000)/\True)/\(asT Int 0=0/\GI (aB a.length).toNat (aB A₀).toNat=DJ a b 0 0/\True)/\∀ (i:{ k:Nat // k<=List.length a }),let A₁:=(aB (aA i)).toNat;let A₂:=(List.getD a A₁ (aC Rat));asT Bool true=true/\ifB (decide (aB (aA i)<aB a.length)) ((asT Int 0=0/\DJ a b (aA i) 0=DJ a b (aA i) 0/\True)/\∀ (i_1:{ k:Nat // k<=wdM b }),let aQ:=(DJ a b (aA i) (aA i_1));let bK:=(aB (aA i_1)).toNat;let bZ:=(rowAt aQ (nameAt none A₁));asT Bool true=true/\(asT Int 0<=0/\0<aB b.length/\True)/\ifB (decide (aB (aA i_1)<aB A₀)) ((iW 0/\True)/\(asT Int 0=0/\DJ a b (aA i) (aA i_1)=DJ a b (aA i) (aA i_1)/\fA 0=mm 0 (ent a) (ent b) (aA i) (aA i_1)/\True)/\∀ (i_2:{ k:Nat // k<=List.length b }),let dJ:=(aB (aA i_2)).toNat;let dS:=(List.getD b dJ (aC Rat));let gB:=(mm (aA i_2) (ent a) (ent b) (aA i) (aA i_1));asT Bool true=true/\ifB (decide (aB (aA i_2)<aB b.length)) ((0<=aB (aA i)/\aB (aA i)<aB a.length/\0<=aB (aA i_2)/\aB (aA i_2)<aB A₂.length/\0<=aB (aA i_2)/\aB (aA i_2)<aB b.length/\0<=aB (aA i_1)/\aB (aA i_1)<aB dS.length/\s19 (List.getD A₂ dJ 0) (List.getD dS bK 0)/\s19 gB (List.getD A₂ dJ 0*List.getD dS bK 0)/\True)/\∃ (i':{ k:Nat // k<=List.length b }),List.length b-aA i'<List.length b-aA i_2/\IntKind.wrap IntKind.i64 (aB (aA i_2)+1)=aB (aA i')/\DJ a b (aA i) (aA i_1)=DJ a b (aA i) (aA i_1)/\mm (aA i_2) (ent a) (ent b) (aA i) (aA i_1)+List.getD A₂ dJ 0*List.getD dS bK 0=mm (aA i') (ent a) (ent b) (aA i) (aA i_1)/\True) ((0<=aB (aA i)/\aB (aA i)<aB (aH none aQ)/\Int.toNat (aB (aA i))<aH none aQ/\0<=aB (aA i_1)/\aB (aA i_1)<aB bZ.length/\Int.toNat (aB (aA i_1))<List.length bZ/\True)/\∃ (i':{ k:Nat // k<=wdM b }),wdM b-aA i'<wdM b-aA i_1/\IntKind.wrap IntKind.i64 (aB (aA i_1)+1)=aB (aA i')/\List.set aQ (nameAt none A₁) (List.set bZ bK gB)=DJ a b (aA i) (aA i')/\True)) (∃ (i':{ k:Nat // k<=List.length a }),List.length a-aA i'<List.length a-aA i/\IntKind.wrap IntKind.i64 (aB (aA i)+1)=aB (aA i')/\DJ a b (aA i) (aA i_1)=DJ a b (aA i') 0/\True)) (True/\DJ a b (aA i) 0=mulM a b/\True)) (by kernel_rfl) ?_
 have hZ:(⟨false,0,[],[]⟩:aF)=bU:=rfl
 dsimp only[aB,asT,aA,aC,Ty.den,Lf.den] at *
 simp only[hZ,Int.toNat_natCast,aT,ay,au,oh,ny,aH,nameAt,aV,aS,bF,rowAt,iw,gy]
 have hp:okM a/\okM b/\wdM a=b.length/\szM a 1000000/\szM b 1000000:=hp
 obtain⟨ha,hb,hw,sa,sb⟩:=hp
 have q1:=ha.r64
 have q2:=ha.c64
 have q3:=hb.r64
 have q4:=hb.c64
 have q5:=hb.pos
 rw[show (b.getD 0 []).length=wdM b from rfl]
 refine⟨⟨xg 0,by omega,by omega,by omega,by omega,by omega⟩,a8L.symm,fun i=>⟨fun h1 c=>⟨⟨xg 0,by omega⟩,fun h2=>⟨by unfold iW;omega,rfl,fun k=>⟨fun h3=>?_,fun h3=>?_⟩⟩,fun h2=>⟨⟨i.1+1,by omega⟩,by simp only;omega,by rw[aZ (by omega) (by omega)];rfl,b2z (by omega)⟩⟩,fun h1=>b2x (by omega)⟩⟩
 ·have hi:i.1<a.length:=by omega
  have hc:c.1<wdM b:=by omega
  have hk:k.1<b.length:=by omega
  rw[ha.row hi,hb.row hk]
  have z1:rsz ((a.getD i.1 []).getD k.1 0)<=1000000:=sa i.1 hi k.1 (by omega)
  have z2:rsz ((b.getD k.1 []).getD c.1 0)<=1000000:=sb k.1 hk c.1 hc
  have z3:=lS ((a.getD i.1 []).getD k.1 0) ((b.getD k.1 []).getD c.1 0)
  have z4:rsz (mm k.1 (ent a) (ent b) i.1 c.1)<=140000000:=by
   have:=xH (K:=2000000) (f:=fun d=>ent a i.1 d*ent b d c.1) k.1 (fun d hd=>by
    have y1:=sa i.1 hi d (by omega)
    have y2:=sb d (by omega) c.1 hc
    have y3:=lS (ent a i.1 d) (ent b d c.1)
    show rsz (ent a i.1 d*ent b d c.1)<=_
    omega)
   have y4:k.1*(2000000+1)<=64*2000001:=ou (by omega) (by omega)
   show rsz (sm k.1 _)<=_
   omega
  exact⟨⟨by omega,by omega,by omega,by omega,by omega,by omega,by omega,by omega,⟨by omega,by omega⟩,by omega,by omega⟩,⟨k.1+1,by omega⟩,by simp only;omega,by rw[aZ (by omega) (by omega)];rfl,rfl⟩
 ·have hi:i.1<a.length:=by omega
  have hc:c.1<wdM b:=by omega
  have hk:k.1=b.length:=by have:=k.2;omega
  have e1:(DJ a b i.1 c.1).length=a.length:=b2y
  have e2:((DJ a b i.1 c.1).getD i.1 []).length=wdM b:=b4X hi
  rw[e1,e2,hk]
  exact⟨⟨by omega,by omega,hi,by omega,by omega,hc⟩,⟨c.1+1,by omega⟩,by simp only;omega,by rw[aZ (by omega) (by omega)];rfl,b2A hi⟩
def trU (a:MQ) (r c:Nat):MQ:=tab (wdM a) a.length fun i j=>if j<r\/j=r/\i<c then ent a j i else 0
def c3N:Ctr:=⟨[tM],[tM],fun x=>okM x.1,fun x=>(trM x.1,())⟩
theorem a1p:aW Tryz.prog 16 c3N:=by
 refine bH (nil0.an b1V) ⟨[],[],[]⟩ Tryz.func16 rfl (by decide) (fun x=>[.inv {k:Nat // k<=(show MQ from x.1).length} (fun r=>[(4,.val tI (r.1:Int))]) (fun r=>[(12,.mat 32 64 tQ none (trU (show MQ from x.1) r.1 0) 0)]) (fun r=>(show MQ from x.1).length-r.1) ⟨0,by omega⟩ (fun r=>[.inv {k:Nat // k<=wdM (show MQ from x.1)} (fun c=>[(5,.val tI (c.1:Int))]) (fun c=>[(12,.mat 32 64 tQ none (trU (show MQ from x.1) r.1 c.1) 0)]) (fun c=>wdM (show MQ from x.1)-c.1) ⟨0,by omega⟩ (fun _=>[])])]) (fun x hp=>?_)
 obtain⟨a,u⟩:=x
 change List (List Rat) at a
 refine bP (let A₀:=(List.getD a 0 (aC Rat)).length;(asT Int 0<=0/\0<aB a.length/\(0<=aB A₀/\aB A₀<=1000/\0<=aB a.length/\aB a.length<=1000)/\True)/\(asT Int 0=0/\GI (aB A₀).toNat (aB a.length).toNat=trU a 0 0/\True)/\∀ (i:{ k:Nat // k<=List.length a }),let A₁:=(List.getD a (aB (aA i)).toNat (aC Rat));asT Bool true=true/\ifB (decide (aB (aA i)<aB a.length)) ((asT Int 0=0/\trU a (aA i) 0=trU a (aA i) 0/\True)/\∀ (i_1:{ k:Nat // k<=wdM a }),let aQ:=(trU a (aA i) (aA i_1));let bK:=(aB (aA i_1)).toNat;let A₂:=(rowAt aQ (nameAt none bK));asT Bool true=true/\(0<=aB (aA i)/\aB (aA i)<aB a.length/\True)/\ifB (decide (aB (aA i_1)<aB A₁.length)) ((0<=aB (aA i_1)/\aB (aA i_1)<aB (aH none aQ)/\Int.toNat (aB (aA i_1))<aH none aQ/\0<=aB (aA i)/\aB (aA i)<aB a.length/\0<=aB (aA i_1)/\aB (aA i_1)<aB A₁.length/\0<=aB (aA i)/\aB (aA i)<aB A₂.length/\Int.toNat (aB (aA i))<List.length A₂/\True)/\∃ (i':{ k:Nat // k<=wdM a }),wdM a-aA i'<wdM a-aA i_1/\IntKind.wrap IntKind.i64 (aB (aA i_1)+1)=aB (aA i')/\List.set aQ (nameAt none bK) (List.set A₂ (aB (aA i)).toNat (List.getD A₁ bK 0))=trU a (aA i) (aA i')/\True) (∃ (i':{ k:Nat // k<=List.length a }),List.length a-aA i'<List.length a-aA i/\IntKind.wrap IntKind.i64 (aB (aA i)+1)=aB (aA i')/\trU a (aA i) (aA i_1)=trU a (aA i') 0/\True)) (True/\trU a (aA i) 0=trM a/\True)) (by kernel_rfl) ?_
 have hZ:(⟨false,0,[],[]⟩:aF)=bU:=rfl
 dsimp only[aB,asT,aA,aC,Ty.den,Lf.den] at *
 simp only[hZ,Int.toNat_natCast,aT,ay,au,oh,ny,aH,nameAt,aV,aS,bF,rowAt,iw,gy]
 have ha:okM a:=hp
 have q1:=ha.r64
 have q2:=ha.c64
 have q5:=ha.pos
 rw[show (a.getD 0 []).length=wdM a from rfl]
 refine⟨⟨xg 0,by omega,by omega,by omega,by omega,by omega⟩,fU fun p _ q _=>(iq (by omega)).symm,fun i=>⟨fun h1 c=>?_,fun h1=>fU fun p _ q hq=>ig (by omega)⟩⟩
 have hi:i.1<a.length:=by omega
 rw[ha.row hi]
 refine⟨⟨by omega,h1⟩,fun h2=>?_,fun h2=>⟨⟨i.1+1,by omega⟩,by simp only;omega,by rw[aZ (by omega) (by omega)];rfl,fU fun p hp q _=>?_⟩⟩
 ·have hc:c.1<wdM a:=by omega
  have e1:(trU a i.1 c.1).length=wdM a:=bF
  have e2:((trU a i.1 c.1).getD c.1 []).length=a.length:=by unfold trU;rw[jM hc];simp
  rw[e1,e2]
  refine⟨⟨by omega,by omega,hc,by omega,by omega,by omega,by omega,by omega,by omega,hi⟩,⟨c.1+1,by omega⟩,by simp only;omega,by rw[aZ (by omega) (by omega)];rfl,(LZ _ hc).trans (fU fun p _ q _=>?_)⟩
  show (if p=c.1/\q=i.1 then ent a i.1 c.1 else if q<i.1\/q=i.1/\p<c.1 then ent a q p else 0)=if q<i.1\/q=i.1/\p<c.1+1 then ent a q p else 0
  by_cases e:p=c.1/\q=i.1
  ·rw[ig e,ig (by omega),e.1,e.2]
  ·rw[iq e]
   by_cases e3:q<i.1\/q=i.1/\p<c.1
   ·rw[ig e3,ig (by omega)]
   ·rw[iq e3,iq (by omega)]
 ·show (if q<i.1\/q=i.1/\p<c.1 then ent a q p else 0)=if q<i.1+1\/q=i.1+1/\p<0 then ent a q p else 0
  by_cases e3:q<i.1\/q=i.1/\p<c.1
  ·rw[ig e3,ig (by omega)]
  ·rw[iq e3,iq (by omega)]
def vF (x:LQ'):MQ:=tab x.length 1 fun i _=>lv x i
def c0S:Ctr:=⟨[.list tQ],[tM],fun x=>(show LQ' from x.1).length<=1000,fun x=>(vF x.1,())⟩
def b5U:Ctr:=⟨[tM],[.list tQ],fun x=>(show MQ from x.1).length<=1000/\∀ r ∈ (show MQ from x.1),1<=r.length,fun x=>((List.range (show MQ from x.1).length).map (fun i=>ent x.1 i 0),())⟩
theorem b1A:aW Tryz.prog 74 c0S:=by
 refine bH nil0 ⟨[],[],[]⟩ Tryz.func74 rfl (by decide) (fun x=>[.inv {k:Nat // k<=(show LQ' from x.1).length} (fun k=>[(4,.val tI (k.1:Int)),(3,.own 5 0),(5,.any),(19,.any)]) (fun k=>[(5,.row 32 (.list tQ) ((vF (show LQ' from x.1)).take k.1) 0)]) (fun k=>(show LQ' from x.1).length-k.1) ⟨0,by omega⟩ (fun _=>[])]) (fun x hp=>?_)
 obtain⟨x,u⟩:=x
 change List Rat at x
 refine bP ((asT Int 0=0/\asT (List (List Rat)) (aC (List Rat))=aC (List Rat)/\True)/\∀ (i:{ k:Nat // k<=List.length x }),asT Bool true=true/\ifB (decide (aB (aA i)<aB x.length)) ((0<=aB (aA i)/\aB (aA i)<aB x.length/\List.length (List.take (aA i) (vF x))+List.length ((List.getD x (aB (aA i)).toNat 0::aC Rat)::aC (List Rat))<=1000000000/\True)/\∃ (i':{ k:Nat // k<=List.length x }),List.length x-aA i'<List.length x-aA i/\IntKind.wrap IntKind.i64 (aB (aA i)+1)=aB (aA i')/\List.take (aA i) (vF x)++(List.getD x (aB (aA i)).toNat 0::aC Rat)::aC (List Rat)=List.take (aA i') (vF x)/\True) (True/\List.take (aA i) (vF x)=vF x/\True)) (by kernel_rfl) ?_
 have hZ:(⟨false,0,[],[]⟩:aF)=bU:=rfl
 dsimp only[aB,asT,aA,aC,Ty.den,Lf.den] at *
 simp only[hZ,Int.toNat_natCast,aT,ay,au,oh,ny,aH,nameAt,aV,aS,bF,rowAt,iw,gy]
 have hp:x.length<=1000:=hp
 have hl:(vF x).length=x.length:=bF
 refine fun i=>⟨fun h1=>?_,fun h1=>jd (by rw[hl];omega)⟩
 have hi:i.1<x.length:=by omega
 refine⟨⟨by omega,h1,by rw[jq];simp;omega⟩,⟨i.1+1,by omega⟩,by simp only;omega,by rw[aZ (by omega) (by omega)];rfl,?_⟩
 rw[Di]
 have:(vF x)[i.1]?=some [x.getD i.1 0]:=by
  unfold vF tab;simp[hi]
 rw[this];rfl
theorem a5f:aW Tryz.prog 73 b5U:=by
 refine bH nil0 ⟨[],[],[]⟩ Tryz.func73 rfl (by decide) (fun x=>[.inv {k:Nat // k<=(show MQ from x.1).length} (fun k=>[(4,.val tI (k.1:Int)),(3,.own 5 0),(5,.any),(20,.any)]) (fun k=>[(5,.row 64 tQ ((List.range k.1).map (fun i=>ent (show MQ from x.1) i 0)) 0)]) (fun k=>(show MQ from x.1).length-k.1) ⟨0,by omega⟩ (fun _=>[])]) (fun x hp=>?_)
 obtain⟨a,u⟩:=x
 change List (List Rat) at a
 refine bP ((asT Int 0=0/\asT (List Rat) (aC Rat)=aC Rat/\True)/\∀ (i:{ k:Nat // k<=List.length a }),let A₀:=(fun(i:Nat)=>ent a i 0);let A₁:=(List.getD a (aB (aA i)).toNat (aC Rat));asT Bool true=true/\ifB (decide (aB (aA i)<aB a.length)) ((0<=aB (aA i)/\aB (aA i)<aB a.length/\asT Int 0<=0/\0<aB A₁.length/\List.length (List.map A₀ (List.range (aA i)))+List.length (List.getD A₁ 0 0::aC Rat)<=1000000000/\True)/\∃ (i':{ k:Nat // k<=List.length a }),List.length a-aA i'<List.length a-aA i/\IntKind.wrap IntKind.i64 (aB (aA i)+1)=aB (aA i')/\List.map A₀ (List.range (aA i))++List.getD A₁ 0 0::aC Rat=List.map A₀ (List.range (aA i'))/\True) (True/\List.map A₀ (List.range (aA i))=List.map A₀ (List.range a.length)/\True)) (by kernel_rfl) ?_
 have hZ:(⟨false,0,[],[]⟩:aF)=bU:=rfl
 dsimp only[aB,asT,aA,aC,Ty.den,Lf.den] at *
 simp only[hZ,Int.toNat_natCast,aT,ay,au,oh,ny,aH,nameAt,aV,aS,bF,rowAt,iw,gy]
 have hp:a.length<=1000/\∀ r ∈ a,1<=r.length:=hp
 refine fun i=>⟨fun h1=>?_,fun h1=>by rw[show i.1=a.length by have:=i.2;omega]⟩
 have hi:i.1<a.length:=by omega
 have hr:1<=(a.getD i.1 []).length:=dY (p:=fun r:List Rat=>1<=r.length) hp.2 hi
 refine⟨⟨by omega,h1,xg 0,by omega,by simp;omega⟩,⟨i.1+1,by omega⟩,by simp only;omega,by rw[aZ (by omega) (by omega)];rfl,?_⟩
 rw[Bv,List.map_append];rfl
def c3k:Ctr:=⟨[tM,.list tQ],[.list tQ],fun x=>okM x.1/\szM x.1 1000000/\(show LQ' from x.2.1).length=wdM (show MQ from x.1)/\∀ q ∈ (show LQ' from x.2.1),rsz q<=1000000,fun x=>(mvL x.1 x.2.1,())⟩
theorem VE:aW Tryz.prog 31 c3k:=by
 refine bH (((nil0.ad OC).ad b1A).ad a5f) ⟨[],[],[]⟩ Tryz.func31 rfl (by decide) (fun x=>[]) (fun x hp=>?_)
 obtain⟨a,x,u⟩:=x
 change List (List Rat) at a
 change List Rat at x
 refine bP ((List.length x<=1000/\(okM a/\okM (vF x)/\wdM a=List.length (vF x)/\szM a 1000000/\szM (vF x) 1000000)/\(List.length (mulM a (vF x))<=1000/\∀ (r:List Rat),r ∈ mulM a (vF x)->1<=List.length r)/\True)/\True/\List.map (fun(i:Nat)=>ent (mulM a (vF x)) i 0) (List.range (mulM a (vF x)).length)=mvL a x/\True) (by kernel_rfl) ?_
 have hZ:(⟨false,0,[],[]⟩:aF)=bU:=rfl
 dsimp only[aB,asT,aA,aC,Ty.den,Lf.den] at *
 simp only[hZ,Int.toNat_natCast,aT,ay,au,oh,ny,aH,nameAt,aV,aS,bF,rowAt,iw,gy]
 have hp:okM a/\szM a 1000000/\x.length=wdM a/\∀ q ∈ x,rsz q<=1000000:=hp
 obtain⟨ha,sa,hx,sx⟩:=hp
 have q1:=ha.r64
 have q2:=ha.c64
 have q3:=ha.c1
 have hc:isM (vF x) x.length 1:=uN (by omega) (by omega) (by omega) (by omega)
 have ec:∀ k,k<x.length->ent (vF x) k 0=lv x k:=fun k hk=>mF hk (by omega)
 have sc:szM (vF x) 1000000:=fun k hk j hj=>by
  rw[hc.len] at hk
  rw[hc.wd] at hj
  rw[show j=0 by omega,ec k hk]
  exact dY sx hk
 have hc2:isM (vF x) (wdM a) 1:=by rw[<-hx];exact hc
 have hm:isM (mulM a (vF x)) a.length 1:=ha.1.mul hc2
 refine⟨⟨by omega,⟨ha,⟨hc.self,fun k hk j hj=>jg (sc k hk j hj) (by omega)⟩,by rw[hc.len];exact hx.symm,sa,sc⟩,by rw[hm.len];omega,fun r hr=>by rw[hm.2.1 r hr];omega⟩,?_⟩
 rw[hm.len]
 refine jl fun k hk=>?_
 have hk:=vk.mp hk
 show ent (mulM a (vF x)) k 0=mv (wdM a) (ent a) (lv x) k
 unfold mulM
 rw[hc.wd,mF hk (by omega),hc.len,hx]
 exact fE _ fun d hd=>by rw[ec d (by omega)]
abbrev edm (a:MQ) (j:Nat):Mt:=(red a.length (ent a) j).1
abbrev edp (a:MQ) (j:Nat):List Nat:=(red a.length (ent a) j).2
def ekk (a:MQ) (j:Nat):Nat:=fk (edm a j) j (edp a j).length (a.length-(edp a j).length)
def esw (a:MQ) (j:Nat):Mt:=iO (edm a j) (edp a j).length (ekk a j)
def VR (m:Mt) (r c:Nat) (p:Rat):Mt:=fun i d=>if i=r/\d<c then m i d / p else m i d
def xA (m:Mt) (r j t:Nat):Mt:=fun i d=>if i≠r/\i<t then m i d-m i j*m r d else m i d
def qY (m:Mt) (r j t c:Nat):Mt:=fun i d=>if i=t/\d<c then m i d-m i j*m r d else xA m r j t i d
def sN (a:MQ) (j c:Nat):Mt:=VR (esw a j) (edp a j).length c (edm a j (ekk a j) j)
def a4f (a:MQ) (j:Nat):Type:={p:Nat × Int // (p.2=-1/\(edp a j).length<=p.1/\p.1<=a.length/\∀ i,(edp a j).length<=i->i<p.1->edm a j i j=0)\/(∃ k:Nat,p.2=k/\p.1=k+1/\(edp a j).length<=k/\k<a.length/\edm a j k j≠0/\∀ i,(edp a j).length<=i->i<k->edm a j i j=0)}
abbrev er (a:MQ) (j:Nat) (m:Mt):Rho:=[(16,.mat 32 64 tQ none (tab a.length (wdM a) m) 0),(17,.row 3 tI (dA (edp a j)) 0)]
theorem a7f (m:Mt) {r c d:Nat} (p:Rat) (h:c<=d) (i:Nat):VR m r c p i d=m i d:=iq (by omega)
theorem XQ (m:Mt) {r j t d:Nat}:xA m r j t t d=m t d:=iq (by omega)
theorem a9G (m:Mt) {r j t d:Nat}:xA m r j t r d=m r d:=iq (by simp)
theorem a7O (m:Mt) {r j t:Nat} (h:t=r\/m t j=0) (i d:Nat):xA m r j t i d=xA m r j (t+1) i d:=by
 unfold xA
 by_cases h1:i≠r/\i<t
 ·rw[ig h1,ig ⟨h1.1,by omega⟩]
 ·rw[iq h1]
  by_cases h2:i≠r/\i<t+1
  ·rw[ig h2]
   have h3:i=t:=by omega
   subst h3
   rcases h with h|h
   ·exact absurd h h2.1
   ·rw[h];grind
  ·rw[iq h2]
theorem a4p (m:Mt) {r j t:Nat} (i d:Nat):qY m r j t 0 i d=xA m r j t i d:=iq (by omega)
theorem a7P (m:Mt) {r j t c:Nat} (ht:t≠r) {d:Nat} (hd:d<c) (i:Nat):qY m r j t c i d=xA m r j (t+1) i d:=by
 unfold qY
 by_cases h1:i=t
 ·subst h1;rw[ig ⟨rfl,hd⟩];unfold xA;rw[ig ⟨ht,by omega⟩]
 ·rw[iq (by omega)];unfold xA
  by_cases h2:i≠r/\i<t
  ·rw[ig h2,ig ⟨h2.1,by omega⟩]
  ·rw[iq h2,iq (by omega)]
theorem QN {b c:Bool}:(bif b then c else false)=true↔b=true/\c=true:=by cases b<;>simp
theorem b4A (a:MQ) (hp:okE a):let A₀:=(List.getD a 0 (aC Rat)).length;((List.length a<=1000/\∀ (r:List Rat),r ∈ a->List.length r<=1000)/\True)/\(asT Int 0=0/\a=tab a.length (wdM a) (edm a 0)/\asT (List Int) (aC Int)=aC Int/\True)/\∀ (i:{ j:Nat // j<=wdM a }),let A₁:=(dA (edp a (aA i))).length;let A₂:=(tab a.length (wdM a) (edm a (aA i)));let aQ:=(edp a (aA i)).length;let bK:=(sN a (aA i) (wdM a));let bZ:=(nameAt none (aB A₁).toNat);let dS:=(aB (aA i)).toNat;let gB:=(aB (aA i)<aB A₀);let dJ:=(decide gB==true);let gQ:=(dJ=true->dJ=true/\True);asT Bool true=true/\(asT Int 0<=0/\0<aB a.length/\gQ/\gQ/\(dJ=true->dJ=true/\dJ=true/\True)/\(decide gB=true->dJ=true)/\True)/\ifB (bif decide gB then decide (aB A₁<aB a.length) else false) ((aB A₁=aB aQ/\asT Int (-1)=-1/\tab a.length (wdM a) (edm a (aA i))=tab a.length (wdM a) (edm a (aA i))/\dA (edp a (aA i))=dA (edp a (aA i))/\True)/\∀ (i_1:a4f a (aA i)),let iH:=(aB (aA i_1).1<aB (aH none A₂));let kV:=(aA i_1).2.toNat;let iY:=(some (List.set (aV none A₂) (aB A₁).toNat (nameAt none kV)));let eU:=(List.set (aV iY A₂) kV bZ);let lF:=(rowAt A₂ (nameAt (some eU) (aB A₁).toNat));let oH:=(aB (aA i_1).1+1);let pY:=(aB (aA i_1).1);let lJ:=(rowAt A₂ (nameAt none pY.toNat));asT Bool true=true/\(((decide iH==true)=true->(decide iH==true)=true/\True)/\(decide iH=true->(decide iH==true)=true)/\True)/\ifB (bif decide iH then decide (Prod.snd (aA i_1)<0) else false) ((0<=aB (aA i_1).1/\aB (aA i_1).1<aB (aH none A₂)/\Int.toNat pY<aH none A₂/\0<=aB (aA i)/\aB (aA i)<aB lJ.length/\Int.toNat (aB (aA i))<List.length lJ/\rsz (List.getD lJ dS 0)<=190000000/\True)/\ifB (sgn (Rat.num (List.getD lJ dS 0)) != 0) (∃ (i':a4f a (aA i)),List.length a+1-Prod.fst (aA i')<List.length a+1-Prod.fst (aA i_1)/\IntKind.wrap IntKind.i64 oH=aB (aA i').1/\aB (aA i_1).1=Prod.snd (aA i')/\tab a.length (wdM a) (edm a (aA i))=tab a.length (wdM a) (edm a (aA i))/\dA (edp a (aA i))=dA (edp a (aA i))/\True) (∃ (i':a4f a (aA i)),List.length a+1-Prod.fst (aA i')<List.length a+1-Prod.fst (aA i_1)/\IntKind.wrap IntKind.i64 oH=aB (aA i').1/\Prod.snd (aA i_1)=Prod.snd (aA i')/\tab a.length (wdM a) (edm a (aA i))=tab a.length (wdM a) (edm a (aA i))/\dA (edp a (aA i))=dA (edp a (aA i))/\True)) (ifB (decide (Prod.snd (aA i_1)<0)) (∃ (i':{ j:Nat // j<=wdM a }),wdM a-aA i'<wdM a-aA i/\IntKind.wrap IntKind.i64 (aB (aA i)+1)=aB (aA i')/\tab a.length (wdM a) (edm a (aA i))=tab a.length (wdM a) (edm a (aA i'))/\dA (edp a (aA i))=dA (edp a (aA i'))/\True) ((0<=Prod.snd (aA i_1)/\Prod.snd (aA i_1)<aB (aH none A₂)/\Int.toNat (aA i_1).2<aH none A₂/\0<=aB A₁/\aB A₁<aB (aH none A₂)/\Int.toNat (aB A₁)<aH none A₂/\0<=aB A₁/\aB A₁<aB (aH none A₂)/\Int.toNat (aB A₁)<aH none A₂/\0<=Prod.snd (aA i_1)/\Prod.snd (aA i_1)<aB (aH iY A₂)/\Int.toNat (aA i_1).2<aH iY A₂/\True)/\(0<=aB A₁/\aB A₁<aB (aH (some eU) A₂)/\Int.toNat (aB A₁)<aH (some eU) A₂/\0<=aB (aA i)/\aB (aA i)<aB lF.length/\Int.toNat (aB (aA i))<List.length lF/\True)/\(asT Int 0=0/\List.Nodup eU/\List.map (fun(i_2:Nat)=>List.getD A₂ i_2 (aC Rat)) eU=tab a.length (wdM a) (sN a (aA i) 0)/\dA (edp a (aA i))=dA (edp a (aA i))/\List.getD lF dS 0=edm a (aA i) (ekk a (aA i)) (aA i)/\True)/\∀ (i_2:{ c:Nat // c<=wdM a }),let uH:=(aB (aA i_2)).toNat;let C₁:=(sN a (aA i) (aA i_2));let gG:=(tab a.length (wdM a) C₁);let rC:=(rowAt gG bZ).length;asT Bool true=true/\(0<=aB A₁/\aB A₁<aB (aH none gG)/\Int.toNat (aB A₁)<aH none gG/\True)/\ifB (decide (aB (aA i_2)<aB rC)) ((0<=aB A₁/\aB A₁<aB (aH none gG)/\Int.toNat (aB A₁)<aH none gG/\0<=aB A₁/\aB A₁<aB (aH none gG)/\Int.toNat (aB A₁)<aH none gG/\0<=aB (aA i_2)/\aB (aA i_2)<aB rC/\Int.toNat (aB (aA i_2))<List.length (rowAt gG bZ)/\(s19 (List.getD (rowAt gG bZ) uH 0) (edm a (aA i) (ekk a (aA i)) (aA i))/\edm a (aA i) (ekk a (aA i)) (aA i)≠0)/\0<=aB (aA i_2)/\aB (aA i_2)<aB rC/\Int.toNat (aB (aA i_2))<List.length (rowAt gG bZ)/\True)/\∃ (i':{ c:Nat // c<=wdM a }),wdM a-aA i'<wdM a-aA i_2/\IntKind.wrap IntKind.i64 (aB (aA i_2)+1)=aB (aA i')/\List.set gG bZ (List.set (rowAt gG bZ) uH (List.getD (rowAt gG bZ) uH 0 / edm a (aA i) (ekk a (aA i)) (aA i)))=tab a.length (wdM a) (sN a (aA i) (aA i'))/\dA (edp a (aA i))=dA (edp a (aA i))/\edm a (aA i) (ekk a (aA i)) (aA i)=edm a (aA i) (ekk a (aA i)) (aA i)/\True) ((asT Int 0=0/\tab a.length (wdM a) C₁=tab a.length (wdM a) (xA bK aQ (aA i) 0)/\dA (edp a (aA i))=dA (edp a (aA i))/\True)/\∀ (i_3:{ i:Nat // i<=List.length a }),let kC:=(aB (aA i_3)).toNat;let C₂:=(nameAt none kC);let sF:=(xA bK aQ (aA i) (aA i_3));let C₃:=(tab a.length (wdM a) sF);let xJ:=(qY bK aQ (aA i) (aA i_3) 0);let AX:=(tab a.length (wdM a) xJ);let IC:=(List.getD (rowAt C₃ C₂) dS 0);let JQ:=(aB (aA i_3)==aB A₁);let jO:=(JQ==false);asT Bool true=true/\ifB (decide (aB (aA i_3)<aB (aH none C₃))) ((0<=aB (aA i_3)/\aB (aA i_3)<aB (aH none C₃)/\Int.toNat (aB (aA i_3))<aH none C₃/\0<=aB (aA i)/\aB (aA i)<aB (rowAt C₃ C₂).length/\Int.toNat (aB (aA i))<List.length (rowAt C₃ C₂)/\True)/\((jO=true->jO=true/\rsz IC<=190000000/\True)/\(jO=true->jO=true/\True)/\(JQ=false->jO=true)/\True)/\ifB (bif aB (aA i_3)==aB A₁ then true else sgn (Rat.num IC)==0) (∃ (i':{ i:Nat // i<=List.length a }),List.length a-aA i'<List.length a-aA i_3/\IntKind.wrap IntKind.i64 (aB (aA i_3)+1)=aB (aA i')/\tab a.length (wdM a) sF=tab a.length (wdM a) (xA bK aQ (aA i) (aA i'))/\dA (edp a (aA i))=dA (edp a (aA i))/\True) ((asT Int 0=0/\nameAt none kC=nameAt none kC/\Int.toNat (aB (aA i))=Int.toNat (aB (aA i))/\List.length C₃=List.length AX/\nameAt none kC=nameAt none kC/\List.length C₃=List.length AX/\Int.toNat (aB (aA i_3))=Int.toNat (aB (aA i_3))/\tab a.length (wdM a) sF=tab a.length (wdM a) xJ/\dA (edp a (aA i))=dA (edp a (aA i))/\List.getD (rowAt C₃ C₂) dS 0=sN a (aA i) (wdM a) (aA i_3) (aA i)/\True)/\∀ (i_4:{ c:Nat // c<=wdM a }),let BH:=(aB (aA i_4)).toNat;let a0c:=(qY bK aQ (aA i) (aA i_3) (aA i_4));let D₁:=(tab a.length (wdM a) a0c);let D₂:=(List.set (rowAt D₁ C₂) BH (List.getD (rowAt D₁ C₂) BH 0-sN a (aA i) (wdM a) (aA i_3) (aA i)*List.getD (rowAt D₁ bZ) BH 0));let RJ:=(rowAt D₁ C₂).length;asT Bool true=true/\(0<=aB (aA i_3)/\aB (aA i_3)<aB (aH none D₁)/\Int.toNat (aB (aA i_3))<aH none D₁/\True)/\ifB (decide (aB (aA i_4)<aB RJ)) ((0<=aB (aA i_3)/\aB (aA i_3)<aB (aH none D₁)/\Int.toNat (aB (aA i_3))<aH none D₁/\0<=aB (aA i_3)/\aB (aA i_3)<aB (aH none D₁)/\Int.toNat (aB (aA i_3))<aH none D₁/\0<=aB (aA i_4)/\aB (aA i_4)<aB RJ/\Int.toNat (aB (aA i_4))<List.length (rowAt D₁ C₂)/\0<=aB A₁/\aB A₁<aB (aH none D₁)/\Int.toNat (aB A₁)<aH none D₁/\0<=aB (aA i_4)/\aB (aA i_4)<aB (rowAt D₁ bZ).length/\Int.toNat (aB (aA i_4))<List.length (rowAt D₁ bZ)/\s19 (sN a (aA i) (wdM a) (aA i_3) (aA i)) (List.getD (rowAt D₁ bZ) BH 0)/\s19 (List.getD (rowAt D₁ C₂) BH 0) (sN a (aA i) (wdM a) (aA i_3) (aA i)*List.getD (rowAt D₁ bZ) BH 0)/\0<=aB (aA i_4)/\aB (aA i_4)<aB RJ/\Int.toNat (aB (aA i_4))<List.length (rowAt D₁ C₂)/\True)/\∃ (i':{ c:Nat // c<=wdM a }),let a1K:=(qY bK aQ (aA i) (aA i_3) (aA i'));let a1L:=(tab a.length (wdM a) a1K);wdM a-aA i'<wdM a-aA i_4/\IntKind.wrap IntKind.i64 (aB (aA i_4)+1)=aB (aA i')/\nameAt none kC=nameAt none kC/\Int.toNat (aB (aA i))=Int.toNat (aB (aA i))/\List.length (List.set D₁ C₂ D₂)=List.length a1L/\nameAt none kC=nameAt none kC/\List.length (List.set D₁ C₂ D₂)=List.length a1L/\Int.toNat (aB (aA i_3))=Int.toNat (aB (aA i_3))/\List.set D₁ C₂ D₂=tab a.length (wdM a) a1K/\dA (edp a (aA i))=dA (edp a (aA i))/\sN a (aA i) (wdM a) (aA i_3) (aA i)=sN a (aA i) (wdM a) (aA i_3) (aA i)/\True) (∃ (i':{ i:Nat // i<=List.length a }),List.length a-aA i'<List.length a-aA i_3/\IntKind.wrap IntKind.i64 (aB (aA i_3)+1)=aB (aA i')/\tab a.length (wdM a) a0c=tab a.length (wdM a) (xA bK aQ (aA i) (aA i'))/\dA (edp a (aA i))=dA (edp a (aA i))/\True))) ((List.length (dA (edp a (aA i)))+List.length (aB (aA i)::aC Int)<=1000000000/\True)/\∃ (i':{ j:Nat // j<=wdM a }),wdM a-aA i'<wdM a-aA i/\IntKind.wrap IntKind.i64 (aB (aA i)+1)=aB (aA i')/\tab a.length (wdM a) sF=tab a.length (wdM a) (edm a (aA i'))/\dA (edp a (aA i))++aB (aA i)::aC Int=dA (edp a (aA i'))/\True))))) (True/\tab a.length (wdM a) (edm a (aA i))=JY a/\True/\dA (edp a (aA i))=dA (lN a)/\True):=by
 have hZ:(⟨false,0,[],[]⟩:aF)=bU:=rfl
 dsimp only[aB,asT,aA,aC,Ty.den,Lf.den] at *
 simp only[hZ,Int.toNat_natCast,aT,ay,au,oh,ny,aH,nameAt,aV,aS,bF,rowAt,iw,gy,sO]
 have ha:=hp.1
 have hok:=hp.2
 have q1:=ha.r64
 have q2:=ha.c64
 have q3:=ha.c1
 have q4:=ha.pos
 have hw:∀ q:Nat,(q:Int)<=1000->IntKind.wrap .i64 ((q:Int)+1)=((q+1:Nat):Int):=fun q hq=>by rw[aZ (by omega) (by omega)];rfl
 have hw0:(List.getD a 0 []).length=wdM a:=rfl
 simp only[hw0]
 refine⟨⟨by omega,fun r hr=>by rw[ha.1.2.1 r hr];omega⟩,ha.1.tab.symm,fun i=>⟨⟨xg 0,ha.poz,fun h=>h,fun h=>h,fun h=>⟨h,h⟩,fun h=>by rw[pz h];rfl⟩,fun h p=>?_,fun h=>?_⟩⟩
 ·obtain⟨g1,g2⟩:=QN.mp h
  have g1:=ru g1
  have g2:=ru g2
  have hjC:i.1<wdM a:=by omega
  have hPR:(edp a i.1).length<a.length:=by omega
  have E:=jD a.length (ent a) i.1
  have hle:=E.le
  have zm:∀ b,b<a.length->∀ c,c<wdM a->rsz (edm a i.1 b c)<=10000000:=hok i.1 (by omega)
  have zn:∀ b,b<a.length->∀ c,c<wdM a->rsz (edm a (i.1+1) b c)<=10000000:=hok (i.1+1) (by omega)
  refine⟨⟨fun h=>h,fun h=>by rw[pz h];rfl⟩,fun h2=>?_,fun h2=>⟨fun h3=>?_,fun h3=>?_⟩⟩
  ·obtain⟨f1,f2⟩:=QN.mp h2
   have f1:=ru f1
   have f2:=ru f2
   rcases p.2 with⟨e1,l1,l2,l0⟩|⟨k,e1,l1⟩
   ·have hk:p.1.1<a.length:=by omega
    simp only[jM hk,gZ hjC,uj,gy]
    have z:=zm p.1.1 hk i.1 hjC
    refine⟨⟨by omega,f1,hk,by omega,by omega,hjC,by omega⟩,fun h4=>⟨⟨(p.1.1+1,(p.1.1:Int)),.inr ⟨p.1.1,rfl,rfl,l1,hk,fun e=>?_,l0⟩⟩,by show a.length+1-(p.1.1+1)<a.length+1-p.1.1;omega,hw _ (by omega),rfl⟩,fun h4=>⟨⟨(p.1.1+1,-1),.inl ⟨rfl,by show _<=p.1.1+1;omega,by show p.1.1+1<=_;omega,fun b h5 h6=>?_⟩⟩,by show a.length+1-(p.1.1+1)<a.length+1-p.1.1;omega,hw _ (by omega),e1⟩⟩
    ·rw[e] at h4;cases h4
    ·have h6:b<p.1.1+1:=h6
     by_cases eb:b=p.1.1
     ·rw[eb];exact nZ.mp (by simpa using h4)
     ·exact l0 b h5 (by omega)
   ·have:p.1.2=(k:Int):=e1
    omega
  ·rcases p.2 with⟨e1,l1,l2,l0⟩|⟨k,e1,l1⟩
   ·have hk:p.1.1=a.length:=by
     by_cases f:(p.1.1:Int)<a.length
     ·rw[QN.mpr ⟨pz f,pz h3⟩] at h2;cases h2
     ·omega
    have hkk:ekk a i.1=a.length:=by rw[<-hk];exact a2o _ _ _ _ _ l1 (by omega) l0 (fun h=>by omega)
    have hst:red a.length (ent a) (i.1+1)=red a.length (ent a) i.1:=a3o hkk
    refine⟨⟨i.1+1,by omega⟩,by simp only;omega,hw _ (by omega),?_,?_⟩
    ·show _=tab _ _ (red a.length (ent a) (i.1+1)).1
     rw[hst]
    ·show _=dA (red a.length (ent a) (i.1+1)).2
     rw[hst]
   ·have:p.1.2=(k:Int):=e1
    omega
  ·rcases p.2 with⟨e1,l1⟩|⟨k,e1,e0,hk1,hkR,hne,hk0⟩
   ·have:p.1.2=-1:=e1
    omega
   have hkk:ekk a i.1=k:=a2o _ _ _ _ _ hk1 (by omega) hk0 (fun _=>hne)
   have hst:red a.length (ent a) (i.1+1)=(kR (edm a i.1) (edp a i.1).length k i.1,edp a i.1++[i.1]):=a3p hkk (by omega)
   have e2:edm a (i.1+1)=kR (edm a i.1) (edp a i.1).length k i.1:=xw Prod.fst hst
   have e3:edp a (i.1+1)=edp a i.1++[i.1]:=xw Prod.snd hst
   rw[e2] at zn
   have hr:=hPR
   rw[e1]
   have hes:∀ c,sN a i.1 c=VR (iO (edm a i.1) (edp a i.1).length k) (edp a i.1).length c (edm a i.1 k i.1):=fun c=>by unfold sN esw;rw[hkk]
   simp only[hes,hkk,Int.toNat_natCast,swp_get hr,jM hkR,gZ hjC,uj,gy]
   clear h2 h3 e1 e0 p
   generalize hP:(edp a i.1).length=r at *
   generalize hM:edm a i.1=m at *
   have hsr:∀ d,iO m r k r d=m k d:=fun d=>by unfold iO;rw[ig rfl]
   have zs:∀ b,b<a.length->∀ d,d<wdM a->rsz (iO m r k b d)<=10000000:=fun b hb d hd=>by
    unfold iO;split
    ·exact zm _ hkR d hd
    ·split
     ·exact zm _ hr d hd
     ·exact zm _ hb d hd
   have zp:=zm k hkR i.1 hjC
   refine⟨⟨by omega,by omega,by omega,by omega,by omega,by omega,by omega,by omega,by omega,by omega,by omega,by omega⟩,⟨by omega,by omega,by omega,by omega,by omega,hjC⟩,⟨b2v _ hr hkR,?_,trivial⟩,fun c=>⟨⟨by omega,by omega,by omega⟩,fun h4=>?_,fun h4=>?_⟩⟩
   ·rw[b2u hr hkR]
    exact fU fun b _ d _=>(a7f _ _ (uq _) _).symm
   ·rw[jM hr] at h4 ⊢
    simp only[uj,gy] at h4 ⊢
    have hc:c.1<wdM a:=by omega
    rw[gZ hc,a7f _ _ (aj _),hsr]
    have z3:=zm k hkR c.1 hc
    refine⟨⟨by omega,by omega,by omega,by omega,by omega,by omega,by omega,by omega,hc,⟨⟨by omega,by omega⟩,hne⟩,by omega,by omega,hc⟩,⟨c.1+1,by omega⟩,by simp only;omega,hw _ (by omega),?_⟩
    rw[<-jM (f:=VR (iO m r k) r c.1 (m k i.1)) hr]
    refine(LZ _ hr).trans (fU fun b _ d _=>?_)
    show (if b=r/\d=c.1 then m k c.1 / m k i.1 else VR (iO m r k) r c.1 (m k i.1) b d)=VR (iO m r k) r (c.1+1) (m k i.1) b d
    unfold VR
    by_cases eb:b=r/\d=c.1
    ·rw[ig eb,ig ⟨eb.1,by omega⟩,eb.1,eb.2,hsr]
    ·rw[iq eb]
     by_cases ec:b=r/\d<c.1
     ·rw[ig ec,ig ⟨ec.1,by omega⟩]
     ·rw[iq ec,iq (by omega)]
   ·rw[jM hr] at h4
    simp only[uj,gy] at h4
    have hc:c.1=wdM a:=by have:=c.2;omega
    rw[hc]
    have hS:∀ b,b<a.length->∀ d,d<wdM a->xA (VR (iO m r k) r (wdM a) (m k i.1)) r i.1 a.length b d=kR m r k i.1 b d:=fun b hb d hd=>by
     rw[<-b2k (R:=a.length) (C:=wdM a) (m:=m) (r:=r) (k:=k) (j:=i.1) b hb d hd]
     unfold xA VR
     by_cases e:b=r
     ·subst e;rw[iq (by simp),ig ⟨rfl,hd⟩,ig rfl,hsr]
     ·rw[ig ⟨e,hb⟩,iq (by simp[e]),iq (by simp[e]),ig ⟨rfl,hd⟩,iq e]
    generalize hN:VR (iO m r k) r (wdM a) (m k i.1)=s at *
    have hrs:∀ d,d<wdM a->rsz (s r d)<=10000000:=fun d hd=>by
     have:=zn r hr d hd
     rw[<-hS r hr d hd,a9G] at this;exact this
    have has:∀ b,b<a.length->∀ d,d<wdM a->rsz (s b d)<=10000000:=fun b hb d hd=>by
     by_cases e:b=r
     ·rw[e];exact hrs d hd
     ·rw[<-hN];unfold VR;rw[iq (by simp[e])];exact zs b hb d hd
    refine⟨fU fun b _ d _=>(iq (by omega)).symm,fun t=>⟨fun h5=>?_,fun h5=>?_⟩⟩
    ·have ht:t.1<a.length:=by omega
     simp only[jM ht,gZ hjC,uj,gy,XQ]
     have z4:=has t.1 ht i.1 hjC
     refine⟨⟨by omega,by omega,ht,by omega,by omega,hjC⟩,⟨fun h=>⟨h,by omega⟩,fun h=>h,fun h=>by rw[h];rfl⟩,fun h6=>⟨⟨t.1+1,by omega⟩,by simp only;omega,hw _ (by omega),fU fun b _ d _=>a7O s ?_ b d⟩,fun h6=>?_⟩
     ·by_cases e:t.1=r
      ·exact .inl e
      ·right
       rw[show ((t.1:Int)==(r:Int))=false from jo.mpr (fun h=>e (by omega))] at h6
       have h6:(sgn (s t.1 i.1).num==0)=true:=h6
       exact nZ.mp (by simpa using h6)
     ·have htr:t.1≠r:=fun e=>by
       rw[e,show (((r:Nat):Int)==(r:Int))=true by simp] at h6;cases h6
      refine⟨⟨fU fun b _ d _=>(a4p s b d).symm,trivial⟩,fun c=>⟨⟨by omega,by omega,ht⟩,fun h7=>?_,fun h7=>?_⟩⟩
      ·have h7:=ru h7
       have hc:c.1<wdM a:=by omega
       have et:qY s r i.1 t.1 c.1 t.1 c.1=s t.1 c.1:=by unfold qY;rw[iq (by omega)];exact XQ s
       have er':qY s r i.1 t.1 c.1 r c.1=s r c.1:=by unfold qY;rw[iq (by omega)];exact a9G s
       have z5:=has t.1 ht c.1 hc
       have z6:=hrs c.1 hc
       have z7:=lS (s t.1 i.1) (s r c.1)
       simp only[jM ht,jM hr,gZ hc,uj,gy,et,er']
       refine⟨⟨by omega,by omega,ht,by omega,by omega,ht,by omega,by omega,hc,by omega,by omega,hr,by omega,by omega,hc,⟨by omega,by omega⟩,⟨by omega,by omega⟩,by omega,by omega,hc⟩,⟨c.1+1,by omega⟩,by simp only;omega,hw _ (by omega),?_⟩
       rw[<-jM (f:=qY s r i.1 t.1 c.1) ht]
       refine(LZ _ ht).trans (fU fun b _ d _=>?_)
       show (if b=t.1/\d=c.1 then s t.1 c.1-s t.1 i.1*s r c.1 else qY s r i.1 t.1 c.1 b d)=qY s r i.1 t.1 (c.1+1) b d
       unfold qY
       by_cases eb:b=t.1/\d=c.1
       ·rw[ig eb,ig ⟨eb.1,by omega⟩,eb.1,eb.2]
       ·rw[iq eb]
        by_cases ec:b=t.1/\d<c.1
        ·rw[ig ec,ig ⟨ec.1,by omega⟩]
        ·rw[iq ec,iq (by omega)]
      ·have h7:=Ce h7
       exact⟨⟨t.1+1,by omega⟩,by simp only;omega,hw _ (by omega),fU fun b _ d hd=>a7P s htr (by omega) b⟩
    ·have ht:t.1=a.length:=by have:=t.2;omega
     have hl:=(QY a.length (ent a) i.1).1
     refine⟨by simp;omega,⟨i.1+1,by omega⟩,by simp only;omega,hw _ (by omega),?_,?_⟩
     ·rw[ht]
      show _=tab _ _ (edm a (i.1+1))
      rw[e2];exact fU fun b hb d hd=>hS b hb d hd
     ·show _=dA (edp a (i.1+1))
      rw[e3];simp[dA]
 ·have hle:=(jD a.length (ent a) i.1).le
  have e:red a.length (ent a) (wdM a)=red a.length (ent a) i.1:=by
   by_cases f:i.1<wdM a
   ·have g:(red a.length (ent a) i.1).2.length=a.length:=by
     by_cases g:(edp a i.1).length<a.length
     ·rw[QN.mpr ⟨pz (by omega),pz (by omega)⟩] at h;cases h
     ·have:(red a.length (ent a) i.1).2.length=(edp a i.1).length:=rfl
      omega
    have:=a3n g (wdM a-i.1)
    rwa [show i.1+(wdM a-i.1)=wdM a by omega] at this
   ·rw[show i.1=wdM a by have:=i.2;omega]
  refine⟨?_,?_⟩
  ·show _=tab a.length (wdM a) (red a.length (ent a) (wdM a)).1
   rw[e]
  ·show _=dA (red a.length (ent a) (wdM a)).2
   rw[e]
def c1d:Ctr:=⟨[tM],[tM,.list tI],fun x=>okE x.1,fun x=>(JY x.1,dA (lN x.1),())⟩
theorem b1D:aW Tryz.prog 53 c1d:=by
 refine bH (((((nil0.ad a1H).ad c0A).ad b2M).ad c0B).an b4y) ⟨[10,13],[],[]⟩ Tryz.func53 rfl (by decide) (fun x=>[.inv {j:Nat // j<=wdM (show MQ from x.1)} (fun j=>[(6,.val tI (j.1:Int)),(5,.own 17 0)]++[(7,.any),(8,.any),(9,.any),(10,.any),(11,.any),(12,.any),(13,.any),(14,.any),(17,.any),(18,.any),(19,.any),(20,.any),(21,.any),(22,.any),(23,.any),(24,.any),(25,.any),(26,.any),(27,.any),(28,.any),(29,.any),(30,.any),(31,.any),(32,.any),(33,.any),(34,.any),(35,.any),(36,.any),(37,.any),(38,.any),(39,.any),(40,.any),(41,.any),(42,.any),(43,.any),(44,.any),(45,.any),(46,.any),(47,.any),(48,.any),(49,.any),(50,.any),(51,.any),(52,.any),(53,.any),(54,.any),(55,.any),(56,.any),(57,.any),(58,.any),(59,.any),(60,.any),(61,.any),(62,.any),(63,.any),(64,.any),(65,.any),(66,.any),(67,.any),(68,.any),(69,.any),(70,.any),(71,.any),(72,.any),(73,.any),(74,.any),(75,.any),(76,.any),(77,.any),(78,.any),(79,.any),(80,.any),(81,.any),(82,.any),(83,.any),(84,.any),(85,.any),(86,.any),(87,.any),(88,.any),(89,.any),(90,.any),(91,.any),(92,.any),(93,.any),(94,.any),(95,.any),(96,.any),(97,.any),(98,.any),(99,.any),(100,.any),(101,.any),(102,.any),(103,.any),(104,.any),(105,.any),(106,.any),(107,.any),(108,.any),(109,.any),(110,.any),(111,.any),(112,.any),(113,.any),(114,.any),(115,.any),(116,.any),(117,.any),(118,.any),(119,.any),(120,.any),(121,.any),(122,.any),(123,.any),(124,.any),(125,.any),(126,.any),(127,.any),(128,.any),(129,.any),(130,.any),(131,.any),(132,.any),(133,.any),(134,.any),(135,.any),(136,.any),(137,.any),(138,.any),(139,.any),(140,.any),(141,.any),(142,.any),(143,.any),(144,.any),(145,.any),(146,.any),(147,.any),(148,.any),(149,.any),(150,.any),(151,.any),(152,.any),(153,.any),(154,.any),(155,.any),(156,.any),(157,.any),(158,.any),(159,.any),(160,.any),(161,.any),(162,.any)]) (fun j=>er (show MQ from x.1) j.1 (edm (show MQ from x.1) j.1)) (fun j=>wdM (show MQ from x.1)-j.1) ⟨0,by omega⟩ (fun j=>[
  .inv (a4f (show MQ from x.1) j.1) (fun p=>[(9,.val tI (p.1.1:Int)),(8,.val tI p.1.2)]) (fun p=>er (show MQ from x.1) j.1 (edm (show MQ from x.1) j.1)) (fun p=>(show MQ from x.1).length+1-p.1.1) ⟨((edp (show MQ from x.1) j.1).length,-1),.inl ⟨rfl,aj _,(jD _ _ _).le,fun i h1 h2=>absurd h2 (by show ¬ i<_;omega)⟩⟩ (fun _=>[]),
  .inv {c:Nat // c<=wdM (show MQ from x.1)} (fun c=>[(11,.val tI (c.1:Int))]++[(36,.any),(37,.any),(38,.any),(39,.any),(40,.any),(41,.any),(42,.any),(43,.any),(44,.any),(45,.any),(46,.any),(47,.any),(48,.any),(49,.any),(50,.any),(51,.any),(52,.any),(53,.any),(54,.any),(55,.any),(56,.any),(57,.any),(58,.any),(59,.any),(60,.any),(61,.any),(62,.any),(63,.any),(64,.any),(65,.any),(66,.any),(67,.any),(68,.any),(69,.any),(70,.any),(71,.any),(72,.any),(73,.any),(74,.any),(75,.any),(76,.any),(77,.any),(78,.any)]) (fun c=>er (show MQ from x.1) j.1 (sN (show MQ from x.1) j.1 c.1)++[(10,.box [⟨tQ,edm (show MQ from x.1) j.1 (ekk (show MQ from x.1) j.1) j.1⟩])]) (fun c=>wdM (show MQ from x.1)-c.1) ⟨0,by omega⟩ (fun _=>[]),
  .inv {i:Nat // i<=(show MQ from x.1).length} (fun i=>[(12,.val tI (i.1:Int))]++[(79,.any),(80,.any),(81,.any),(82,.any),(83,.any),(84,.any),(85,.any),(86,.any),(87,.any),(88,.any),(89,.any),(90,.any),(91,.any),(92,.any),(93,.any),(94,.any),(95,.any),(96,.any),(97,.any),(98,.any),(99,.any),(100,.any),(101,.any),(102,.any),(103,.any),(104,.any),(105,.any)]) (fun i=>er (show MQ from x.1) j.1 (xA (sN (show MQ from x.1) j.1 (wdM (show MQ from x.1))) (edp (show MQ from x.1) j.1).length j.1 i.1)) (fun i=>(show MQ from x.1).length-i.1) ⟨0,by omega⟩ (fun i=>[
   .inv {c:Nat // c<=wdM (show MQ from x.1)} (fun c=>[(14,.val tI (c.1:Int))]) (fun c=>er (show MQ from x.1) j.1 (qY (sN (show MQ from x.1) j.1 (wdM (show MQ from x.1))) (edp (show MQ from x.1) j.1).length j.1 i.1 c.1)++[(13,.box [⟨tQ,sN (show MQ from x.1) j.1 (wdM (show MQ from x.1)) i.1 j.1⟩])]) (fun c=>wdM (show MQ from x.1)-c.1) ⟨0,by omega⟩ (fun _=>[])])])]) (fun x hp=>?_)
 obtain⟨a,u⟩:=x
 change List (List Rat) at a
 refine bP (let A₀:=(List.getD a 0 (aC Rat)).length;((List.length a<=1000/\∀ (r:List Rat),r ∈ a->List.length r<=1000)/\True)/\(asT Int 0=0/\a=tab a.length (wdM a) (edm a 0)/\asT (List Int) (aC Int)=aC Int/\True)/\∀ (i:{ j:Nat // j<=wdM a }),let A₁:=(dA (edp a (aA i))).length;let A₂:=(tab a.length (wdM a) (edm a (aA i)));let aQ:=(edp a (aA i)).length;let bK:=(sN a (aA i) (wdM a));let bZ:=(nameAt none (aB A₁).toNat);let dS:=(aB (aA i)).toNat;let gB:=(aB (aA i)<aB A₀);let dJ:=(decide gB==true);let gQ:=(dJ=true->dJ=true/\True);asT Bool true=true/\(asT Int 0<=0/\0<aB a.length/\gQ/\gQ/\(dJ=true->dJ=true/\dJ=true/\True)/\(decide gB=true->dJ=true)/\True)/\ifB (bif decide gB then decide (aB A₁<aB a.length) else false) ((aB A₁=aB aQ/\asT Int (-1)=-1/\tab a.length (wdM a) (edm a (aA i))=tab a.length (wdM a) (edm a (aA i))/\dA (edp a (aA i))=dA (edp a (aA i))/\True)/\∀ (i_1:a4f a (aA i)),let iH:=(aB (aA i_1).1<aB (aH none A₂));let kV:=(aA i_1).2.toNat;let iY:=(some (List.set (aV none A₂) (aB A₁).toNat (nameAt none kV)));let eU:=(List.set (aV iY A₂) kV bZ);let lF:=(rowAt A₂ (nameAt (some eU) (aB A₁).toNat));let oH:=(aB (aA i_1).1+1);let pY:=(aB (aA i_1).1);let lJ:=(rowAt A₂ (nameAt none pY.toNat));asT Bool true=true/\(((decide iH==true)=true->(decide iH==true)=true/\True)/\(decide iH=true->(decide iH==true)=true)/\True)/\ifB (bif decide iH then decide (Prod.snd (aA i_1)<0) else false) ((0<=aB (aA i_1).1/\aB (aA i_1).1<aB (aH none A₂)/\Int.toNat pY<aH none A₂/\0<=aB (aA i)/\aB (aA i)<aB lJ.length/\Int.toNat (aB (aA i))<List.length lJ/\rsz (List.getD lJ dS 0)<=190000000/\True)/\ifB (sgn (Rat.num (List.getD lJ dS 0)) != 0) (∃ (i':a4f a (aA i)),List.length a+1-Prod.fst (aA i')<List.length a+1-Prod.fst (aA i_1)/\IntKind.wrap IntKind.i64 oH=aB (aA i').1/\aB (aA i_1).1=Prod.snd (aA i')/\tab a.length (wdM a) (edm a (aA i))=tab a.length (wdM a) (edm a (aA i))/\dA (edp a (aA i))=dA (edp a (aA i))/\True) (∃ (i':a4f a (aA i)),List.length a+1-Prod.fst (aA i')<List.length a+1-Prod.fst (aA i_1)/\IntKind.wrap IntKind.i64 oH=aB (aA i').1/\Prod.snd (aA i_1)=Prod.snd (aA i')/\tab a.length (wdM a) (edm a (aA i))=tab a.length (wdM a) (edm a (aA i))/\dA (edp a (aA i))=dA (edp a (aA i))/\True)) (ifB (decide (Prod.snd (aA i_1)<0)) (∃ (i':{ j:Nat // j<=wdM a }),wdM a-aA i'<wdM a-aA i/\IntKind.wrap IntKind.i64 (aB (aA i)+1)=aB (aA i')/\tab a.length (wdM a) (edm a (aA i))=tab a.length (wdM a) (edm a (aA i'))/\dA (edp a (aA i))=dA (edp a (aA i'))/\True) ((0<=Prod.snd (aA i_1)/\Prod.snd (aA i_1)<aB (aH none A₂)/\Int.toNat (aA i_1).2<aH none A₂/\0<=aB A₁/\aB A₁<aB (aH none A₂)/\Int.toNat (aB A₁)<aH none A₂/\0<=aB A₁/\aB A₁<aB (aH none A₂)/\Int.toNat (aB A₁)<aH none A₂/\0<=Prod.snd (aA i_1)/\Prod.snd (aA i_1)<aB (aH iY A₂)/\Int.toNat (aA i_1).2<aH iY A₂/\True)/\(0<=aB A₁/\aB A₁<aB (aH (some eU) A₂)/\Int.toNat (aB A₁)<aH (some eU) A₂/\0<=aB (aA i)/\aB (aA i)<aB lF.length/\Int.toNat (aB (aA i))<List.length lF/\True)/\(asT Int 0=0/\List.Nodup eU/\List.map (fun(i_2:Nat)=>List.getD A₂ i_2 (aC Rat)) eU=tab a.length (wdM a) (sN a (aA i) 0)/\dA (edp a (aA i))=dA (edp a (aA i))/\List.getD lF dS 0=edm a (aA i) (ekk a (aA i)) (aA i)/\True)/\∀ (i_2:{ c:Nat // c<=wdM a }),let uH:=(aB (aA i_2)).toNat;let C₁:=(sN a (aA i) (aA i_2));let gG:=(tab a.length (wdM a) C₁);let rC:=(rowAt gG bZ).length;asT Bool true=true/\(0<=aB A₁/\aB A₁<aB (aH none gG)/\Int.toNat (aB A₁)<aH none gG/\True)/\ifB (decide (aB (aA i_2)<aB rC)) ((0<=aB A₁/\aB A₁<aB (aH none gG)/\Int.toNat (aB A₁)<aH none gG/\0<=aB A₁/\aB A₁<aB (aH none gG)/\Int.toNat (aB A₁)<aH none gG/\0<=aB (aA i_2)/\aB (aA i_2)<aB rC/\Int.toNat (aB (aA i_2))<List.length (rowAt gG bZ)/\(s19 (List.getD (rowAt gG bZ) uH 0) (edm a (aA i) (ekk a (aA i)) (aA i))/\edm a (aA i) (ekk a (aA i)) (aA i)≠0)/\0<=aB (aA i_2)/\aB (aA i_2)<aB rC/\Int.toNat (aB (aA i_2))<List.length (rowAt gG bZ)/\True)/\∃ (i':{ c:Nat // c<=wdM a }),wdM a-aA i'<wdM a-aA i_2/\IntKind.wrap IntKind.i64 (aB (aA i_2)+1)=aB (aA i')/\List.set gG bZ (List.set (rowAt gG bZ) uH (List.getD (rowAt gG bZ) uH 0 / edm a (aA i) (ekk a (aA i)) (aA i)))=tab a.length (wdM a) (sN a (aA i) (aA i'))/\dA (edp a (aA i))=dA (edp a (aA i))/\edm a (aA i) (ekk a (aA i)) (aA i)=edm a (aA i) (ekk a (aA i)) (aA i)/\True) ((asT Int 0=0/\tab a.length (wdM a) C₁=tab a.length (wdM a) (xA bK aQ (aA i) 0)/\dA (edp a (aA i))=dA (edp a (aA i))/\True)/\∀ (i_3:{ i:Nat // i<=List.length a }),let kC:=(aB (aA i_3)).toNat;let C₂:=(nameAt none kC);let sF:=(xA bK aQ (aA i) (aA i_3));let C₃:=(tab a.length (wdM a) sF);let xJ:=(qY bK aQ (aA i) (aA i_3) 0);let AX:=(tab a.length (wdM a) xJ);let IC:=(List.getD (rowAt C₃ C₂) dS 0);let JQ:=(aB (aA i_3)==aB A₁);let jO:=(JQ==false);asT Bool true=true/\ifB (decide (aB (aA i_3)<aB (aH none C₃))) ((0<=aB (aA i_3)/\aB (aA i_3)<aB (aH none C₃)/\Int.toNat (aB (aA i_3))<aH none C₃/\0<=aB (aA i)/\aB (aA i)<aB (rowAt C₃ C₂).length/\Int.toNat (aB (aA i))<List.length (rowAt C₃ C₂)/\True)/\((jO=true->jO=true/\rsz IC<=190000000/\True)/\(jO=true->jO=true/\True)/\(JQ=false->jO=true)/\True)/\ifB (bif aB (aA i_3)==aB A₁ then true else sgn (Rat.num IC)==0) (∃ (i':{ i:Nat // i<=List.length a }),List.length a-aA i'<List.length a-aA i_3/\IntKind.wrap IntKind.i64 (aB (aA i_3)+1)=aB (aA i')/\tab a.length (wdM a) sF=tab a.length (wdM a) (xA bK aQ (aA i) (aA i'))/\dA (edp a (aA i))=dA (edp a (aA i))/\True) ((asT Int 0=0/\nameAt none kC=nameAt none kC/\Int.toNat (aB (aA i))=Int.toNat (aB (aA i))/\List.length C₃=List.length AX/\nameAt none kC=nameAt none kC/\List.length C₃=List.length AX/\Int.toNat (aB (aA i_3))=Int.toNat (aB (aA i_3))/\tab a.length (wdM a) sF=tab a.length (wdM a) xJ/\dA (edp a (aA i))=dA (edp a (aA i))/\List.getD (rowAt C₃ C₂) dS 0=sN a (aA i) (wdM a) (aA i_3) (aA i)/\True)/\∀ (i_4:{ c:Nat // c<=wdM a }),let BH:=(aB (aA i_4)).toNat;let a0c:=(qY bK aQ (aA i) (aA i_3) (aA i_4));let D₁:=(tab a.length (wdM a) a0c);let D₂:=(List.set (rowAt D₁ C₂) BH (List.getD (rowAt D₁ C₂) BH 0-sN a (aA i) (wdM a) (aA i_3) (aA i)*List.getD (rowAt D₁ bZ) BH 0));let RJ:=(rowAt D₁ C₂).length;asT Bool true=true/\(0<=aB (aA i_3)/\aB (aA i_3)<aB (aH none D₁)/\Int.toNat (aB (aA i_3))<aH none D₁/\True)/\ifB (decide (aB (aA i_4)<aB RJ)) ((0<=aB (aA i_3)/\aB (aA i_3)<aB (aH none D₁)/\Int.toNat (aB (aA i_3))<aH none D₁/\0<=aB (aA i_3)/\aB (aA i_3)<aB (aH none D₁)/\Int.toNat (aB (aA i_3))<aH none D₁/\0<=aB (aA i_4)/\aB (aA i_4)<aB RJ/\Int.toNat (aB (aA i_4))<List.length (rowAt D₁ C₂)/\0<=aB A₁/\aB A₁<aB (aH none D₁)/\Int.toNat (aB A₁)<aH none D₁/\0<=aB (aA i_4)/\aB (aA i_4)<aB (rowAt D₁ bZ).length/\Int.toNat (aB (aA i_4))<List.length (rowAt D₁ bZ)/\s19 (sN a (aA i) (wdM a) (aA i_3) (aA i)) (List.getD (rowAt D₁ bZ) BH 0)/\s19 (List.getD (rowAt D₁ C₂) BH 0) (sN a (aA i) (wdM a) (aA i_3) (aA i)*List.getD (rowAt D₁ bZ) BH 0)/\0<=aB (aA i_4)/\aB (aA i_4)<aB RJ/\Int.toNat (aB (aA i_4))<List.length (rowAt D₁ C₂)/\True)/\∃ (i':{ c:Nat // c<=wdM a }),let a1K:=(qY bK aQ (aA i) (aA i_3) (aA i'));let a1L:=(tab a.length (wdM a) a1K);wdM a-aA i'<wdM a-aA i_4/\IntKind.wrap IntKind.i64 (aB (aA i_4)+1)=aB (aA i')/\nameAt none kC=nameAt none kC/\Int.toNat (aB (aA i))=Int.toNat (aB (aA i))/\List.length (List.set D₁ C₂ D₂)=List.length a1L/\nameAt none kC=nameAt none kC/\List.length (List.set D₁ C₂ D₂)=List.length a1L/\Int.toNat (aB (aA i_3))=Int.toNat (aB (aA i_3))/\List.set D₁ C₂ D₂=tab a.length (wdM a) a1K/\dA (edp a (aA i))=dA (edp a (aA i))/\sN a (aA i) (wdM a) (aA i_3) (aA i)=sN a (aA i) (wdM a) (aA i_3) (aA i)/\True) (∃ (i':{ i:Nat // i<=List.length a }),List.length a-aA i'<List.length a-aA i_3/\IntKind.wrap IntKind.i64 (aB (aA i_3)+1)=aB (aA i')/\tab a.length (wdM a) a0c=tab a.length (wdM a) (xA bK aQ (aA i) (aA i'))/\dA (edp a (aA i))=dA (edp a (aA i))/\True))) ((List.length (dA (edp a (aA i)))+List.length (aB (aA i)::aC Int)<=1000000000/\True)/\∃ (i':{ j:Nat // j<=wdM a }),wdM a-aA i'<wdM a-aA i/\IntKind.wrap IntKind.i64 (aB (aA i)+1)=aB (aA i')/\tab a.length (wdM a) sF=tab a.length (wdM a) (edm a (aA i'))/\dA (edp a (aA i))++aB (aA i)::aC Int=dA (edp a (aA i'))/\True))))) (True/\tab a.length (wdM a) (edm a (aA i))=JY a/\True/\dA (edp a (aA i))=dA (lN a)/\True)) (by kernel_rfl) ?_
 exact b4A a hp
end Go.Proofs.YtgplhbhfdgempaaGreat
