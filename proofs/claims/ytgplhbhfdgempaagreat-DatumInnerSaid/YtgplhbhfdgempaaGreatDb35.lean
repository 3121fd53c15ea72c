/-
  Lemmas for the statements about datums, part 35 of 37.
-/
import Derived.Test.YtgplhbhfdgempaaGreatDb34
namespace Go.Proofs.YtgplhbhfdgempaaGreat
open Go Go.RowKit
set_option maxRecDepth 100000
set_option maxHeartbeats 1000000
set_option linter.unusedVariables false
set_option linter.unusedSimpArgs false
def SH (R C:Nat) (f g:Nat->Nat->Rat) (r c:Nat):MQ:=tab R C fun i j=>if i<r\/i=r/\j<c then f i j else g i j
theorem a9O {R C:Nat} {f g:Nat->Nat->Rat}:SH R C f g 0 0=tab R C g:=fE fun i _ j _=>dw (by omega)
theorem b3B {R C:Nat} {f g:Nat->Nat->Rat} {r c:Nat} (hr:r<R):(SH R C f g r c).set r (((SH R C f g r c).getD r []).set c (f r c))=SH R C f g r (c+1):=by
 unfold SH;rw[NW _ hr]
 refine fE fun i _ j _=>?_
 by_cases e:i=r/\j=c
 ·obtain⟨rfl,rfl⟩:=e;rw[eY ⟨rfl,rfl⟩,eY (by omega)]
 ·rw[dw e]
  by_cases h:i<r\/i=r/\j<c
  ·rw[eY h,eY (by omega)]
  ·rw[dw h,dw (by omega)]
theorem b3A {R C:Nat} {f g:Nat->Nat->Rat} {r c:Nat} (hc:C<=c):SH R C f g r c=SH R C f g (r+1) 0:=by
 refine fE fun i _ j _=>?_
 by_cases h:i<r\/i=r/\j<c
 ·rw[eY h,eY (by omega)]
 ·rw[dw h,dw (by omega)]
theorem b3y {R C:Nat} {f g:Nat->Nat->Rat} {r:Nat} (hr:R<=r):SH R C f g r 0=tab R C f:=fE fun i _ j _=>eY (by omega)
theorem b3z {R C:Nat} {f g:Nat->Nat->Rat} {r c:Nat}:(SH R C f g r c).length=R:=aZ
theorem b5U {R C:Nat} {f g:Nat->Nat->Rat} {r c i:Nat} (hi:i<R):((SH R C f g r c).getD i []).length=C:=by unfold SH;rw[jI hi];simp
def EU (a b:MQ) (r c:Nat):MQ:=SH a.length (wdM b) (mm b.length (ent a) (ent b)) (fun _ _=>0) r c
def c2p:Ctr:=⟨[tM,tM],[tM],fun x=>okM x.1/\okM x.2.1/\wdM (show MQ from x.1)=(show MQ from x.2.1).length/\szM x.1 1000000/\szM x.2.1 1000000,fun x=>(mulM x.1 x.2.1,())⟩
theorem zD:aY Tryz.prog 26 c2p:=by
 refine bH ((((nil0.ad b3M).ad a6x).ad XK).an a2h) ⟨[8],[],[]⟩ Tryz.func26 rfl (by decide) (fun x=>[.inv {k:Nat // k<=(show MQ from x.1).length} (fun r=>[(6,.val tI (r.1:Int))]) (fun r=>[(16,.mat 32 64 tQ none (EU (show MQ from x.1) (show MQ from x.2.1) r.1 0) 0)]) (fun r=>(show MQ from x.1).length-r.1) ⟨0,by omega⟩ (fun r=>[.inv {k:Nat // k<=wdM (show MQ from x.2.1)} (fun c=>[(7,.val tI (c.1:Int))]) (fun c=>[(16,.mat 32 64 tQ none (EU (show MQ from x.1) (show MQ from x.2.1) r.1 c.1) 0)]) (fun c=>wdM (show MQ from x.2.1)-c.1) ⟨0,by omega⟩ (fun c=>[.inv {k:Nat // k<=(show MQ from x.2.1).length} (fun k=>[(9,.val tI (k.1:Int))]) (fun k=>[(16,.mat 32 64 tQ none (EU (show MQ from x.1) (show MQ from x.2.1) r.1 c.1) 0),(8,.box [⟨tQ,mm k.1 (ent (show MQ from x.1)) (ent (show MQ from x.2.1)) r.1 c.1⟩])]) (fun k=>(show MQ from x.2.1).length-k.1) ⟨0,by omega⟩ (fun _=>[])])])]) (fun x hp=>?_)
 obtain⟨a,b,u⟩:=x
 change List (List Rat) at a
 change List (List Rat) at b
 refine bP (let A₀:=(List.getD b 0 (aC Rat)).length;(asT Int 0<=0/\0<aA b.length/\(0<=aA a.length/\aA a.length<=1000/\0<=aA A₀/\aA A₀<=1000)/\True)/\(asT Int 0=0/\CW (aA a.length).toNat (aA A₀).toNat=EU a b 0 0/\True)/\∀ (i:{ k:Nat // k<=List.length a }),let A₁:=(aA (aB i)).toNat;let A₂:=(List.getD a A₁ (aC Rat));asT Bool true=true/\ifB (decide (aA (aB i)<aA a.length)) ((asT Int 0=0/\EU a b (aB i) 0=EU a b (aB i) 0/\True)/\∀ (i_1:{ k:Nat // k<=wdM b }),let aV:=(EU a b (aB i) (aB i_1));let aP:=(aA (aB i_1)).toNat;let dB:=(rowAt aV (nameAt none A₁));asT Bool true=true/\(asT Int 0<=0/\0<aA b.length/\True)/\ifB (decide (aA (aB i_1)<aA A₀)) ((gZ 0/\True)/\(asT Int 0=0/\EU a b (aB i) (aB i_1)=EU a b (aB i) (aB i_1)/\dD 0=mm 0 (ent a) (ent b) (aB i) (aB i_1)/\True)/\∀ (i_2:{ k:Nat // k<=List.length b }),let dO:=(aA (aB i_2)).toNat;let eH:=(List.getD b dO (aC Rat));let dU:=(mm (aB i_2) (ent a) (ent b) (aB i) (aB i_1));asT Bool true=true/\ifB (decide (aA (aB i_2)<aA b.length)) ((0<=aA (aB i)/\aA (aB i)<aA a.length/\0<=aA (aB i_2)/\aA (aB i_2)<aA A₂.length/\0<=aA (aB i_2)/\aA (aB i_2)<aA b.length/\0<=aA (aB i_1)/\aA (aB i_1)<aA eH.length/\s19 (List.getD A₂ dO 0) (List.getD eH aP 0)/\s19 dU (List.getD A₂ dO 0*List.getD eH aP 0)/\True)/\∃ (i':{ k:Nat // k<=List.length b }),List.length b-aB i'<List.length b-aB i_2/\IntKind.wrap IntKind.i64 (aA (aB i_2)+1)=aA (aB i')/\EU a b (aB i) (aB i_1)=EU a b (aB i) (aB i_1)/\mm (aB i_2) (ent a) (ent b) (aB i) (aB i_1)+List.getD A₂ dO 0*List.getD eH aP 0=mm (aB i') (ent a) (ent b) (aB i) (aB i_1)/\True) ((0<=aA (aB i)/\aA (aB i)<aA (aH none aV)/\Int.toNat (aA (aB i))<aH none aV/\0<=aA (aB i_1)/\aA (aB i_1)<aA dB.length/\Int.toNat (aA (aB i_1))<List.length dB/\True)/\∃ (i':{ k:Nat // k<=wdM b }),wdM b-aB i'<wdM b-aB i_1/\IntKind.wrap IntKind.i64 (aA (aB i_1)+1)=aA (aB i')/\List.set aV (nameAt none A₁) (List.set dB aP dU)=EU a b (aB i) (aB i')/\True)) (∃ (i':{ k:Nat // k<=List.length a }),List.length a-aB i'<List.length a-aB i/\IntKind.wrap IntKind.i64 (aA (aB i)+1)=aA (aB i')/\EU a b (aB i) (aB i_1)=EU a b (aB i') 0/\True)) (True/\EU a b (aB i) 0=mulM a b/\True)) (by kernel_rfl) ?_
 have hZ:(⟨false,0,[],[]⟩:aF)=bV:=rfl
 dsimp only[aA,asT,aB,aC,Ty.den,Lf.den] at *
 simp only[hZ,Int.toNat_natCast,aJ,dh,bn,mg,mW,aH,nameAt,aX,aN,aZ,rowAt,iw,gJ]
 have hp:okM a/\okM b/\wdM a=b.length/\szM a 1000000/\szM b 1000000:=hp
 obtain⟨ha,hb,hw,sa,sb⟩:=hp
 have q1:=ha.r64
 have q2:=ha.c64
 have q3:=hb.r64
 have q4:=hb.c64
 have q5:=hb.pos
 rw[show (b.getD 0 []).length=wdM b from rfl]
 refine⟨⟨qh 0,by omega,by omega,by omega,by omega,by omega⟩,a9O.symm,fun i=>⟨fun h1 c=>⟨⟨qh 0,by omega⟩,fun h2=>⟨by unfold gZ;omega,rfl,fun k=>⟨fun h3=>?_,fun h3=>?_⟩⟩,fun h2=>⟨⟨i.1+1,by omega⟩,by simp only;omega,by rw[bF (by omega) (by omega)];rfl,b3A (by omega)⟩⟩,fun h1=>b3y (by omega)⟩⟩
 ·have hi:i.1<a.length:=by omega
  have hc:c.1<wdM b:=by omega
  have hk:k.1<b.length:=by omega
  rw[ha.row hi,hb.row hk]
  have z1:rsz ((a.getD i.1 []).getD k.1 0)<=1000000:=sa i.1 hi k.1 (by omega)
  have z2:rsz ((b.getD k.1 []).getD c.1 0)<=1000000:=sb k.1 hk c.1 hc
  have z3:=oI ((a.getD i.1 []).getD k.1 0) ((b.getD k.1 []).getD c.1 0)
  have z4:rsz (mm k.1 (ent a) (ent b) i.1 c.1)<=140000000:=by
   have:=BK (K:=2000000) (f:=fun d=>ent a i.1 d*ent b d c.1) k.1 (fun d hd=>by
    have y1:=sa i.1 hi d (by omega)
    have y2:=sb d (by omega) c.1 hc
    have y3:=oI (ent a i.1 d) (ent b d c.1)
    show rsz (ent a i.1 d*ent b d c.1)<=_
    omega)
   have y4:k.1*(2000000+1)<=64*2000001:=oh (by omega) (by omega)
   show rsz (sm k.1 _)<=_
   omega
  exact⟨⟨by omega,by omega,by omega,by omega,by omega,by omega,by omega,by omega,⟨by omega,by omega⟩,by omega,by omega⟩,⟨k.1+1,by omega⟩,by simp only;omega,by rw[bF (by omega) (by omega)];rfl,rfl⟩
 ·have hi:i.1<a.length:=by omega
  have hc:c.1<wdM b:=by omega
  have hk:k.1=b.length:=by have:=k.2;omega
  have e1:(EU a b i.1 c.1).length=a.length:=b3z
  have e2:((EU a b i.1 c.1).getD i.1 []).length=wdM b:=b5U hi
  rw[e1,e2,hk]
  exact⟨⟨by omega,by omega,hi,by omega,by omega,hc⟩,⟨c.1+1,by omega⟩,by simp only;omega,by rw[bF (by omega) (by omega)];rfl,b3B hi⟩
def trU (a:MQ) (r c:Nat):MQ:=tab (wdM a) a.length fun i j=>if j<r\/j=r/\i<c then ent a j i else 0
def c4N:Ctr:=⟨[tM],[tM],fun x=>okM x.1,fun x=>(trM x.1,())⟩
theorem NR:aY Tryz.prog 16 c4N:=by
 refine bH (nil0.an a2h) ⟨[],[],[]⟩ Tryz.func16 rfl (by decide) (fun x=>[.inv {k:Nat // k<=(show MQ from x.1).length} (fun r=>[(4,.val tI (r.1:Int))]) (fun r=>[(12,.mat 32 64 tQ none (trU (show MQ from x.1) r.1 0) 0)]) (fun r=>(show MQ from x.1).length-r.1) ⟨0,by omega⟩ (fun r=>[.inv {k:Nat // k<=wdM (show MQ from x.1)} (fun c=>[(5,.val tI (c.1:Int))]) (fun c=>[(12,.mat 32 64 tQ none (trU (show MQ from x.1) r.1 c.1) 0)]) (fun c=>wdM (show MQ from x.1)-c.1) ⟨0,by omega⟩ (fun _=>[])])]) (fun x hp=>?_)
 obtain⟨a,u⟩:=x
 change List (List Rat) at a
 refine bP (let A₀:=(List.getD a 0 (aC Rat)).length;(asT Int 0<=0/\0<aA a.length/\(0<=aA A₀/\aA A₀<=1000/\0<=aA a.length/\aA a.length<=1000)/\True)/\(asT Int 0=0/\CW (aA A₀).toNat (aA a.length).toNat=trU a 0 0/\True)/\∀ (i:{ k:Nat // k<=List.length a }),let A₁:=(List.getD a (aA (aB i)).toNat (aC Rat));asT Bool true=true/\ifB (decide (aA (aB i)<aA a.length)) ((asT Int 0=0/\trU a (aB i) 0=trU a (aB i) 0/\True)/\∀ (i_1:{ k:Nat // k<=wdM a }),let aV:=(trU a (aB i) (aB i_1));let aP:=(aA (aB i_1)).toNat;let A₂:=(rowAt aV (nameAt none aP));asT Bool true=true/\(0<=aA (aB i)/\aA (aB i)<aA a.length/\True)/\ifB (decide (aA (aB i_1)<aA A₁.length)) ((0<=aA (aB i_1)/\aA (aB i_1)<aA (aH none aV)/\Int.toNat (aA (aB i_1))<aH none aV/\0<=aA (aB i)/\aA (aB i)<aA a.length/\0<=aA (aB i_1)/\aA (aB i_1)<aA A₁.length/\0<=aA (aB i)/\aA (aB i)<aA A₂.length/\Int.toNat (aA (aB i))<List.length A₂/\True)/\∃ (i':{ k:Nat // k<=wdM a }),wdM a-aB i'<wdM a-aB i_1/\IntKind.wrap IntKind.i64 (aA (aB i_1)+1)=aA (aB i')/\List.set aV (nameAt none aP) (List.set A₂ (aA (aB i)).toNat (List.getD A₁ aP 0))=trU a (aB i) (aB i')/\True) (∃ (i':{ k:Nat // k<=List.length a }),List.length a-aB i'<List.length a-aB i/\IntKind.wrap IntKind.i64 (aA (aB i)+1)=aA (aB i')/\trU a (aB i) (aB i_1)=trU a (aB i') 0/\True)) (True/\trU a (aB i) 0=trM a/\True)) (by kernel_rfl) ?_
 have hZ:(⟨false,0,[],[]⟩:aF)=bV:=rfl
 dsimp only[aA,asT,aB,aC,Ty.den,Lf.den] at *
 simp only[hZ,Int.toNat_natCast,aJ,dh,bn,mg,mW,aH,nameAt,aX,aN,aZ,rowAt,iw,gJ]
 have ha:okM a:=hp
 have q1:=ha.r64
 have q2:=ha.c64
 have q5:=ha.pos
 rw[show (a.getD 0 []).length=wdM a from rfl]
 refine⟨⟨qh 0,by omega,by omega,by omega,by omega,by omega⟩,fE fun p _ q _=>(dw (by omega)).symm,fun i=>⟨fun h1 c=>?_,fun h1=>fE fun p _ q hq=>eY (by omega)⟩⟩
 have hi:i.1<a.length:=by omega
 rw[ha.row hi]
 refine⟨⟨by omega,h1⟩,fun h2=>?_,fun h2=>⟨⟨i.1+1,by omega⟩,by simp only;omega,by rw[bF (by omega) (by omega)];rfl,fE fun p hp q _=>?_⟩⟩
 ·have hc:c.1<wdM a:=by omega
  have e1:(trU a i.1 c.1).length=wdM a:=aZ
  have e2:((trU a i.1 c.1).getD c.1 []).length=a.length:=by unfold trU;rw[jI hc];simp
  rw[e1,e2]
  refine⟨⟨by omega,by omega,hc,by omega,by omega,by omega,by omega,by omega,by omega,hi⟩,⟨c.1+1,by omega⟩,by simp only;omega,by rw[bF (by omega) (by omega)];rfl,(NW _ hc).trans (fE fun p _ q _=>?_)⟩
  show (if p=c.1/\q=i.1 then ent a i.1 c.1 else if q<i.1\/q=i.1/\p<c.1 then ent a q p else 0)=if q<i.1\/q=i.1/\p<c.1+1 then ent a q p else 0
  by_cases e:p=c.1/\q=i.1
  ·rw[eY e,eY (by omega),e.1,e.2]
  ·rw[dw e]
   by_cases e3:q<i.1\/q=i.1/\p<c.1
   ·rw[eY e3,eY (by omega)]
   ·rw[dw e3,dw (by omega)]
 ·show (if q<i.1\/q=i.1/\p<c.1 then ent a q p else 0)=if q<i.1+1\/q=i.1+1/\p<0 then ent a q p else 0
  by_cases e3:q<i.1\/q=i.1/\p<c.1
  ·rw[eY e3,eY (by omega)]
  ·rw[dw e3,dw (by omega)]
abbrev edm (a:MQ) (j:Nat):Mt:=(red a.length (ent a) j).1
abbrev edp (a:MQ) (j:Nat):List Nat:=(red a.length (ent a) j).2
def ekk (a:MQ) (j:Nat):Nat:=fk (edm a j) j (edp a j).length (a.length-(edp a j).length)
def esw (a:MQ) (j:Nat):Mt:=iV (edm a j) (edp a j).length (ekk a j)
def XL (m:Mt) (r c:Nat) (p:Rat):Mt:=fun i d=>if i=r/\d<c then m i d / p else m i d
def xX (m:Mt) (r j t:Nat):Mt:=fun i d=>if i≠r/\i<t then m i d-m i j*m r d else m i d
def rV (m:Mt) (r j t c:Nat):Mt:=fun i d=>if i=t/\d<c then m i d-m i j*m r d else xX m r j t i d
def tX (a:MQ) (j c:Nat):Mt:=XL (esw a j) (edp a j).length c (edm a j (ekk a j) j)
def a4T (a:MQ) (j:Nat):Type:={p:Nat × Int // (p.2=-1/\(edp a j).length<=p.1/\p.1<=a.length/\∀ i,(edp a j).length<=i->i<p.1->edm a j i j=0)\/(∃ k:Nat,p.2=k/\p.1=k+1/\(edp a j).length<=k/\k<a.length/\edm a j k j≠0/\∀ i,(edp a j).length<=i->i<k->edm a j i j=0)}
abbrev er (a:MQ) (j:Nat) (m:Mt):Rho:=[(16,.mat 32 64 tQ none (tab a.length (wdM a) m) 0),(17,.row 3 tI (dA (edp a j)) 0)]
theorem a8d (m:Mt) {r c d:Nat} (p:Rat) (h:c<=d) (i:Nat):XL m r c p i d=m i d:=dw (by omega)
theorem ZB (m:Mt) {r j t d:Nat}:xX m r j t t d=m t d:=dw (by omega)
theorem b0P (m:Mt) {r j t d:Nat}:xX m r j t r d=m r d:=dw (by simp)
theorem a8P (m:Mt) {r j t:Nat} (h:t=r\/m t j=0) (i d:Nat):xX m r j t i d=xX m r j (t+1) i d:=by
 unfold xX
 by_cases h1:i≠r/\i<t
 ·rw[eY h1,eY ⟨h1.1,by omega⟩]
 ·rw[dw h1]
  by_cases h2:i≠r/\i<t+1
  ·rw[eY h2]
   have h3:i=t:=by omega
   subst h3
   rcases h with h|h
   ·exact absurd h h2.1
   ·rw[h];grind
  ·rw[dw h2]
theorem a5e (m:Mt) {r j t:Nat} (i d:Nat):rV m r j t 0 i d=xX m r j t i d:=dw (by omega)
theorem a8Q (m:Mt) {r j t c:Nat} (ht:t≠r) {d:Nat} (hd:d<c) (i:Nat):rV m r j t c i d=xX m r j (t+1) i d:=by
 unfold rV
 by_cases h1:i=t
 ·subst h1;rw[eY ⟨rfl,hd⟩];unfold xX;rw[eY ⟨ht,by omega⟩]
 ·rw[dw (by omega)];unfold xX
  by_cases h2:i≠r/\i<t
  ·rw[eY h2,eY ⟨h2.1,by omega⟩]
  ·rw[dw h2,dw (by omega)]
theorem SQ {b c:Bool}:(bif b then c else false)=true↔b=true/\c=true:=by cases b<;>simp
theorem b5u (a:MQ) (hp:okE a):let A₀:=(List.getD a 0 (aC Rat)).length;((List.length a<=1000/\∀ (r:List Rat),r ∈ a->List.length r<=1000)/\True)/\(asT Int 0=0/\a=tab a.length (wdM a) (edm a 0)/\asT (List Int) (aC Int)=aC Int/\True)/\∀ (i:{ j:Nat // j<=wdM a }),let A₁:=(dA (edp a (aB i))).length;let A₂:=(tab a.length (wdM a) (edm a (aB i)));let aV:=(edp a (aB i)).length;let aP:=(tX a (aB i) (wdM a));let dB:=(nameAt none (aA A₁).toNat);let dO:=(aA (aB i)).toNat;asT Bool true=true/\(asT Int 0<=0/\0<aA a.length/\((decide (aA (aB i)<aA A₀)==true)=true->(decide (aA (aB i)<aA A₀)==true)=true/\True)/\((decide (aA (aB i)<aA A₀)==true)=true->(decide (aA (aB i)<aA A₀)==true)=true/\True)/\((decide (aA (aB i)<aA A₀)==true)=true->(decide (aA (aB i)<aA A₀)==true)=true/\(decide (aA (aB i)<aA A₀)==true)=true/\True)/\(decide (aA (aB i)<aA A₀)=true->(decide (aA (aB i)<aA A₀)==true)=true)/\True)/\ifB (bif decide (aA (aB i)<aA A₀) then decide (aA A₁<aA a.length) else false) ((aA A₁=aA aV/\asT Int (-1)=-1/\tab a.length (wdM a) (edm a (aB i))=tab a.length (wdM a) (edm a (aB i))/\dA (edp a (aB i))=dA (edp a (aB i))/\True)/\∀ (i_1:a4T a (aB i)),let jQ:=(aB i_1).2.toNat;let dU:=(some (List.set (aX none A₂) (aA A₁).toNat (nameAt none jQ)));let eH:=(List.set (aX dU A₂) jQ dB);let iG:=(rowAt A₂ (nameAt (some eH) (aA A₁).toNat));let tH:=(aA (aB i_1).1+1);let wU:=(aA (aB i_1).1);let dX:=(rowAt A₂ (nameAt none wU.toNat));asT Bool true=true/\(((decide (aA (aB i_1).1<aA (aH none A₂))==true)=true->(decide (aA (aB i_1).1<aA (aH none A₂))==true)=true/\True)/\(decide (aA (aB i_1).1<aA (aH none A₂))=true->(decide (aA (aB i_1).1<aA (aH none A₂))==true)=true)/\True)/\ifB (bif decide (aA (aB i_1).1<aA (aH none A₂)) then decide (Prod.snd (aB i_1)<0) else false) ((0<=aA (aB i_1).1/\aA (aB i_1).1<aA (aH none A₂)/\Int.toNat wU<aH none A₂/\0<=aA (aB i)/\aA (aB i)<aA dX.length/\Int.toNat (aA (aB i))<List.length dX/\rsz (List.getD dX dO 0)<=190000000/\True)/\ifB (sgn (Rat.num (List.getD dX dO 0)) != 0) (∃ (i':a4T a (aB i)),List.length a+1-Prod.fst (aB i')<List.length a+1-Prod.fst (aB i_1)/\IntKind.wrap IntKind.i64 tH=aA (aB i').1/\aA (aB i_1).1=Prod.snd (aB i')/\tab a.length (wdM a) (edm a (aB i))=tab a.length (wdM a) (edm a (aB i))/\dA (edp a (aB i))=dA (edp a (aB i))/\True) (∃ (i':a4T a (aB i)),List.length a+1-Prod.fst (aB i')<List.length a+1-Prod.fst (aB i_1)/\IntKind.wrap IntKind.i64 tH=aA (aB i').1/\Prod.snd (aB i_1)=Prod.snd (aB i')/\tab a.length (wdM a) (edm a (aB i))=tab a.length (wdM a) (edm a (aB i))/\dA (edp a (aB i))=dA (edp a (aB i))/\True)) (ifB (decide (Prod.snd (aB i_1)<0)) (∃ (i':{ j:Nat // j<=wdM a }),wdM a-aB i'<wdM a-aB i/\IntKind.wrap IntKind.i64 (aA (aB i)+1)=aA (aB i')/\tab a.length (wdM a) (edm a (aB i))=tab a.length (wdM a) (edm a (aB i'))/\dA (edp a (aB i))=dA (edp a (aB i'))/\True) ((0<=Prod.snd (aB i_1)/\Prod.snd (aB i_1)<aA (aH none A₂)/\Int.toNat (aB i_1).2<aH none A₂/\0<=aA A₁/\aA A₁<aA (aH none A₂)/\Int.toNat (aA A₁)<aH none A₂/\0<=aA A₁/\aA A₁<aA (aH none A₂)/\Int.toNat (aA A₁)<aH none A₂/\0<=Prod.snd (aB i_1)/\Prod.snd (aB i_1)<aA (aH dU A₂)/\Int.toNat (aB i_1).2<aH dU A₂/\True)/\(0<=aA A₁/\aA A₁<aA (aH (some eH) A₂)/\Int.toNat (aA A₁)<aH (some eH) A₂/\0<=aA (aB i)/\aA (aB i)<aA iG.length/\Int.toNat (aA (aB i))<List.length iG/\True)/\(asT Int 0=0/\List.Nodup eH/\List.map (fun(i_2:Nat)=>List.getD A₂ i_2 (aC Rat)) eH=tab a.length (wdM a) (tX a (aB i) 0)/\dA (edp a (aB i))=dA (edp a (aB i))/\List.getD iG dO 0=edm a (aB i) (ekk a (aB i)) (aB i)/\True)/\∀ (i_2:{ c:Nat // c<=wdM a }),let yC:=(aA (aB i_2)).toNat;let CZ:=(tX a (aB i) (aB i_2));let iO:=(tab a.length (wdM a) CZ);let CY:=(rowAt iO dB).length;asT Bool true=true/\(0<=aA A₁/\aA A₁<aA (aH none iO)/\Int.toNat (aA A₁)<aH none iO/\True)/\ifB (decide (aA (aB i_2)<aA CY)) ((0<=aA A₁/\aA A₁<aA (aH none iO)/\Int.toNat (aA A₁)<aH none iO/\0<=aA A₁/\aA A₁<aA (aH none iO)/\Int.toNat (aA A₁)<aH none iO/\0<=aA (aB i_2)/\aA (aB i_2)<aA CY/\Int.toNat (aA (aB i_2))<List.length (rowAt iO dB)/\(s19 (List.getD (rowAt iO dB) yC 0) (edm a (aB i) (ekk a (aB i)) (aB i))/\edm a (aB i) (ekk a (aB i)) (aB i)≠0)/\0<=aA (aB i_2)/\aA (aB i_2)<aA CY/\Int.toNat (aA (aB i_2))<List.length (rowAt iO dB)/\True)/\∃ (i':{ c:Nat // c<=wdM a }),wdM a-aB i'<wdM a-aB i_2/\IntKind.wrap IntKind.i64 (aA (aB i_2)+1)=aA (aB i')/\List.set iO dB (List.set (rowAt iO dB) yC (List.getD (rowAt iO dB) yC 0 / edm a (aB i) (ekk a (aB i)) (aB i)))=tab a.length (wdM a) (tX a (aB i) (aB i'))/\dA (edp a (aB i))=dA (edp a (aB i))/\edm a (aB i) (ekk a (aB i)) (aB i)=edm a (aB i) (ekk a (aB i)) (aB i)/\True) ((asT Int 0=0/\tab a.length (wdM a) CZ=tab a.length (wdM a) (xX aP aV (aB i) 0)/\dA (edp a (aB i))=dA (edp a (aB i))/\True)/\∀ (i_3:{ i:Nat // i<=List.length a }),let jR:=(aA (aB i_3)).toNat;let lM:=(nameAt none jR);let C₁:=(xX aP aV (aB i) (aB i_3));let jF:=(tab a.length (wdM a) C₁);let C₂:=(rV aP aV (aB i) (aB i_3) 0);let C₃:=(tab a.length (wdM a) C₂);let yD:=(List.getD (rowAt jF lM) dO 0);asT Bool true=true/\ifB (decide (aA (aB i_3)<aA (aH none jF))) ((0<=aA (aB i_3)/\aA (aB i_3)<aA (aH none jF)/\Int.toNat (aA (aB i_3))<aH none jF/\0<=aA (aB i)/\aA (aB i)<aA (rowAt jF lM).length/\Int.toNat (aA (aB i))<List.length (rowAt jF lM)/\True)/\((((aA (aB i_3)==aA A₁)==false)=true->((aA (aB i_3)==aA A₁)==false)=true/\rsz yD<=190000000/\True)/\(((aA (aB i_3)==aA A₁)==false)=true->((aA (aB i_3)==aA A₁)==false)=true/\True)/\((aA (aB i_3)==aA A₁)=false->((aA (aB i_3)==aA A₁)==false)=true)/\True)/\ifB (bif aA (aB i_3)==aA A₁ then true else sgn (Rat.num yD)==0) (∃ (i':{ i:Nat // i<=List.length a }),List.length a-aB i'<List.length a-aB i_3/\IntKind.wrap IntKind.i64 (aA (aB i_3)+1)=aA (aB i')/\tab a.length (wdM a) C₁=tab a.length (wdM a) (xX aP aV (aB i) (aB i'))/\dA (edp a (aB i))=dA (edp a (aB i))/\True) ((asT Int 0=0/\nameAt none jR=nameAt none jR/\Int.toNat (aA (aB i))=Int.toNat (aA (aB i))/\List.length jF=List.length C₃/\nameAt none jR=nameAt none jR/\List.length jF=List.length C₃/\Int.toNat (aA (aB i_3))=Int.toNat (aA (aB i_3))/\tab a.length (wdM a) C₁=tab a.length (wdM a) C₂/\dA (edp a (aB i))=dA (edp a (aB i))/\List.getD (rowAt jF lM) dO 0=tX a (aB i) (wdM a) (aB i_3) (aB i)/\True)/\∀ (i_4:{ c:Nat // c<=wdM a }),let OC:=(aA (aB i_4)).toNat;let a9X:=(rV aP aV (aB i) (aB i_3) (aB i_4));let jD:=(tab a.length (wdM a) a9X);let a4L:=(List.set (rowAt jD lM) OC (List.getD (rowAt jD lM) OC 0-tX a (aB i) (wdM a) (aB i_3) (aB i)*List.getD (rowAt jD dB) OC 0));let a4M:=(rowAt jD lM).length;asT Bool true=true/\(0<=aA (aB i_3)/\aA (aB i_3)<aA (aH none jD)/\Int.toNat (aA (aB i_3))<aH none jD/\True)/\ifB (decide (aA (aB i_4)<aA a4M)) ((0<=aA (aB i_3)/\aA (aB i_3)<aA (aH none jD)/\Int.toNat (aA (aB i_3))<aH none jD/\0<=aA (aB i_3)/\aA (aB i_3)<aA (aH none jD)/\Int.toNat (aA (aB i_3))<aH none jD/\0<=aA (aB i_4)/\aA (aB i_4)<aA a4M/\Int.toNat (aA (aB i_4))<List.length (rowAt jD lM)/\0<=aA A₁/\aA A₁<aA (aH none jD)/\Int.toNat (aA A₁)<aH none jD/\0<=aA (aB i_4)/\aA (aB i_4)<aA (rowAt jD dB).length/\Int.toNat (aA (aB i_4))<List.length (rowAt jD dB)/\s19 (tX a (aB i) (wdM a) (aB i_3) (aB i)) (List.getD (rowAt jD dB) OC 0)/\s19 (List.getD (rowAt jD lM) OC 0) (tX a (aB i) (wdM a) (aB i_3) (aB i)*List.getD (rowAt jD dB) OC 0)/\0<=aA (aB i_4)/\aA (aB i_4)<aA a4M/\Int.toNat (aA (aB i_4))<List.length (rowAt jD lM)/\True)/\∃ (i':{ c:Nat // c<=wdM a }),let a9Y:=(rV aP aV (aB i) (aB i_3) (aB i'));let D₁:=(tab a.length (wdM a) a9Y);wdM a-aB i'<wdM a-aB i_4/\IntKind.wrap IntKind.i64 (aA (aB i_4)+1)=aA (aB i')/\nameAt none jR=nameAt none jR/\Int.toNat (aA (aB i))=Int.toNat (aA (aB i))/\List.length (List.set jD lM a4L)=List.length D₁/\nameAt none jR=nameAt none jR/\List.length (List.set jD lM a4L)=List.length D₁/\Int.toNat (aA (aB i_3))=Int.toNat (aA (aB i_3))/\List.set jD lM a4L=tab a.length (wdM a) a9Y/\dA (edp a (aB i))=dA (edp a (aB i))/\tX a (aB i) (wdM a) (aB i_3) (aB i)=tX a (aB i) (wdM a) (aB i_3) (aB i)/\True) (∃ (i':{ i:Nat // i<=List.length a }),List.length a-aB i'<List.length a-aB i_3/\IntKind.wrap IntKind.i64 (aA (aB i_3)+1)=aA (aB i')/\tab a.length (wdM a) a9X=tab a.length (wdM a) (xX aP aV (aB i) (aB i'))/\dA (edp a (aB i))=dA (edp a (aB i))/\True))) ((List.length (dA (edp a (aB i)))+List.length (aA (aB i)::aC Int)<=1000000000/\True)/\∃ (i':{ j:Nat // j<=wdM a }),wdM a-aB i'<wdM a-aB i/\IntKind.wrap IntKind.i64 (aA (aB i)+1)=aA (aB i')/\tab a.length (wdM a) C₁=tab a.length (wdM a) (edm a (aB i'))/\dA (edp a (aB i))++aA (aB i)::aC Int=dA (edp a (aB i'))/\True))))) (True/\tab a.length (wdM a) (edm a (aB i))=zV a/\True/\dA (edp a (aB i))=dA (lC a)/\True):=by
 have hZ:(⟨false,0,[],[]⟩:aF)=bV:=rfl
 dsimp only[aA,asT,aB,aC,Ty.den,Lf.den] at *
 simp only[hZ,Int.toNat_natCast,aJ,dh,bn,mg,mW,aH,nameAt,aX,aN,aZ,rowAt,iw,gJ,qX]
 have ha:=hp.1
 have hok:=hp.2
 have q1:=ha.r64
 have q2:=ha.c64
 have q3:=ha.c1
 have q4:=ha.pos
 have hw:∀ q:Nat,(q:Int)<=1000->IntKind.wrap .i64 ((q:Int)+1)=((q+1:Nat):Int):=fun q hq=>by rw[bF (by omega) (by omega)];rfl
 have hw0:(List.getD a 0 []).length=wdM a:=rfl
 simp only[hw0]
 refine⟨⟨by omega,fun r hr=>by rw[ha.1.2.1 r hr];omega⟩,ha.1.tab.symm,fun i=>⟨⟨qh 0,ha.poz,fun h=>h,fun h=>h,fun h=>⟨h,h⟩,fun h=>by rw[jw h];rfl⟩,fun h p=>?_,fun h=>?_⟩⟩
 ·obtain⟨g1,g2⟩:=SQ.mp h
  have g1:=oz g1
  have g2:=oz g2
  have hjC:i.1<wdM a:=by omega
  have hPR:(edp a i.1).length<a.length:=by omega
  have E:=iL a.length (ent a) i.1
  have hle:=E.le
  have zm:∀ b,b<a.length->∀ c,c<wdM a->rsz (edm a i.1 b c)<=10000000:=hok i.1 (by omega)
  have zn:∀ b,b<a.length->∀ c,c<wdM a->rsz (edm a (i.1+1) b c)<=10000000:=hok (i.1+1) (by omega)
  refine⟨⟨fun h=>h,fun h=>by rw[jw h];rfl⟩,fun h2=>?_,fun h2=>⟨fun h3=>?_,fun h3=>?_⟩⟩
  ·obtain⟨f1,f2⟩:=SQ.mp h2
   have f1:=oz f1
   have f2:=oz f2
   rcases p.2 with⟨e1,l1,l2,l0⟩|⟨k,e1,l1⟩
   ·have hk:p.1.1<a.length:=by omega
    simp only[jI hk,gG hjC,ny,gJ]
    have z:=zm p.1.1 hk i.1 hjC
    refine⟨⟨by omega,f1,hk,by omega,by omega,hjC,by omega⟩,fun h4=>⟨⟨(p.1.1+1,(p.1.1:Int)),.inr ⟨p.1.1,rfl,rfl,l1,hk,fun e=>?_,l0⟩⟩,by show a.length+1-(p.1.1+1)<a.length+1-p.1.1;omega,hw _ (by omega),rfl⟩,fun h4=>⟨⟨(p.1.1+1,-1),.inl ⟨rfl,by show _<=p.1.1+1;omega,by show p.1.1+1<=_;omega,fun b h5 h6=>?_⟩⟩,by show a.length+1-(p.1.1+1)<a.length+1-p.1.1;omega,hw _ (by omega),e1⟩⟩
    ·rw[e] at h4;cases h4
    ·have h6:b<p.1.1+1:=h6
     by_cases eb:b=p.1.1
     ·rw[eb];exact mQ.mp (by simpa using h4)
     ·exact l0 b h5 (by omega)
   ·have:p.1.2=(k:Int):=e1
    omega
  ·rcases p.2 with⟨e1,l1,l2,l0⟩|⟨k,e1,l1⟩
   ·have hk:p.1.1=a.length:=by
     by_cases f:(p.1.1:Int)<a.length
     ·rw[SQ.mpr ⟨jw f,jw h3⟩] at h2;cases h2
     ·omega
    have hkk:ekk a i.1=a.length:=by rw[<-hk];exact ZN _ _ _ _ _ l1 (by omega) l0 (fun h=>by omega)
    have hst:red a.length (ent a) (i.1+1)=red a.length (ent a) i.1:=EZ hkk
    refine⟨⟨i.1+1,by omega⟩,by simp only;omega,hw _ (by omega),?_,?_⟩
    ·show _=tab _ _ (red a.length (ent a) (i.1+1)).1
     rw[hst]
    ·show _=dA (red a.length (ent a) (i.1+1)).2
     rw[hst]
   ·have:p.1.2=(k:Int):=e1
    omega
  ·rcases p.2 with⟨e1,l1⟩|⟨k,e1,e0,hk1,hkR,hne,hk0⟩
   ·have:p.1.2=-1:=e1
    omega
   have hkk:ekk a i.1=k:=ZN _ _ _ _ _ hk1 (by omega) hk0 (fun _=>hne)
   have hst:red a.length (ent a) (i.1+1)=(kZ (edm a i.1) (edp a i.1).length k i.1,edp a i.1++[i.1]):=NK hkk (by omega)
   have e2:edm a (i.1+1)=kZ (edm a i.1) (edp a i.1).length k i.1:=rD Prod.fst hst
   have e3:edp a (i.1+1)=edp a i.1++[i.1]:=rD Prod.snd hst
   rw[e2] at zn
   have hr:=hPR
   rw[e1]
   have hes:∀ c,tX a i.1 c=XL (iV (edm a i.1) (edp a i.1).length k) (edp a i.1).length c (edm a i.1 k i.1):=fun c=>by unfold tX esw;rw[hkk]
   simp only[hes,hkk,Int.toNat_natCast,swp_get hr,jI hkR,gG hjC,ny,gJ]
   clear h2 h3 e1 e0 p
   generalize hP:(edp a i.1).length=r at *
   generalize hM:edm a i.1=m at *
   have hsr:∀ d,iV m r k r d=m k d:=fun d=>by unfold iV;rw[eY rfl]
   have zs:∀ b,b<a.length->∀ d,d<wdM a->rsz (iV m r k b d)<=10000000:=fun b hb d hd=>by
    unfold iV;split
    ·exact zm _ hkR d hd
    ·split
     ·exact zm _ hr d hd
     ·exact zm _ hb d hd
   have zp:=zm k hkR i.1 hjC
   refine⟨⟨by omega,by omega,by omega,by omega,by omega,by omega,by omega,by omega,by omega,by omega,by omega,by omega⟩,⟨by omega,by omega,by omega,by omega,by omega,hjC⟩,⟨b3w _ hr hkR,?_,trivial⟩,fun c=>⟨⟨by omega,by omega,by omega⟩,fun h4=>?_,fun h4=>?_⟩⟩
   ·rw[b3v hr hkR]
    exact fE fun b _ d _=>(a8d _ _ (pq _) _).symm
   ·rw[jI hr] at h4 ⊢
    simp only[ny,gJ] at h4 ⊢
    have hc:c.1<wdM a:=by omega
    rw[gG hc,a8d _ _ (aj _),hsr]
    have z3:=zm k hkR c.1 hc
    refine⟨⟨by omega,by omega,by omega,by omega,by omega,by omega,by omega,by omega,hc,⟨⟨by omega,by omega⟩,hne⟩,by omega,by omega,hc⟩,⟨c.1+1,by omega⟩,by simp only;omega,hw _ (by omega),?_⟩
    rw[<-jI (f:=XL (iV m r k) r c.1 (m k i.1)) hr]
    refine(NW _ hr).trans (fE fun b _ d _=>?_)
    show (if b=r/\d=c.1 then m k c.1 / m k i.1 else XL (iV m r k) r c.1 (m k i.1) b d)=XL (iV m r k) r (c.1+1) (m k i.1) b d
    unfold XL
    by_cases eb:b=r/\d=c.1
    ·rw[eY eb,eY ⟨eb.1,by omega⟩,eb.1,eb.2,hsr]
    ·rw[dw eb]
     by_cases ec:b=r/\d<c.1
     ·rw[eY ec,eY ⟨ec.1,by omega⟩]
     ·rw[dw ec,dw (by omega)]
   ·rw[jI hr] at h4
    simp only[ny,gJ] at h4
    have hc:c.1=wdM a:=by have:=c.2;omega
    rw[hc]
    have hS:∀ b,b<a.length->∀ d,d<wdM a->xX (XL (iV m r k) r (wdM a) (m k i.1)) r i.1 a.length b d=kZ m r k i.1 b d:=fun b hb d hd=>by
     rw[<-b3l (R:=a.length) (C:=wdM a) (m:=m) (r:=r) (k:=k) (j:=i.1) b hb d hd]
     unfold xX XL
     by_cases e:b=r
     ·subst e;rw[dw (by simp),eY ⟨rfl,hd⟩,eY rfl,hsr]
     ·rw[eY ⟨e,hb⟩,dw (by simp[e]),dw (by simp[e]),eY ⟨rfl,hd⟩,dw e]
    generalize hN:XL (iV m r k) r (wdM a) (m k i.1)=s at *
    have hrs:∀ d,d<wdM a->rsz (s r d)<=10000000:=fun d hd=>by
     have:=zn r hr d hd
     rw[<-hS r hr d hd,b0P] at this;exact this
    have has:∀ b,b<a.length->∀ d,d<wdM a->rsz (s b d)<=10000000:=fun b hb d hd=>by
     by_cases e:b=r
     ·rw[e];exact hrs d hd
     ·rw[<-hN];unfold XL;rw[dw (by simp[e])];exact zs b hb d hd
    refine⟨fE fun b _ d _=>(dw (by omega)).symm,fun t=>⟨fun h5=>?_,fun h5=>?_⟩⟩
    ·have ht:t.1<a.length:=by omega
     simp only[jI ht,gG hjC,ny,gJ,ZB]
     have z4:=has t.1 ht i.1 hjC
     refine⟨⟨by omega,by omega,ht,by omega,by omega,hjC⟩,⟨fun h=>⟨h,by omega⟩,fun h=>h,fun h=>by rw[h];rfl⟩,fun h6=>⟨⟨t.1+1,by omega⟩,by simp only;omega,hw _ (by omega),fE fun b _ d _=>a8P s ?_ b d⟩,fun h6=>?_⟩
     ·by_cases e:t.1=r
      ·exact .inl e
      ·right
       rw[show ((t.1:Int)==(r:Int))=false from nS.mpr (fun h=>e (by omega))] at h6
       have h6:(sgn (s t.1 i.1).num==0)=true:=h6
       exact mQ.mp (by simpa using h6)
     ·have htr:t.1≠r:=fun e=>by
       rw[e,show (((r:Nat):Int)==(r:Int))=true by simp] at h6;cases h6
      refine⟨⟨fE fun b _ d _=>(a5e s b d).symm,trivial⟩,fun c=>⟨⟨by omega,by omega,ht⟩,fun h7=>?_,fun h7=>?_⟩⟩
      ·have h7:=oz h7
       have hc:c.1<wdM a:=by omega
       have et:rV s r i.1 t.1 c.1 t.1 c.1=s t.1 c.1:=by unfold rV;rw[dw (by omega)];exact ZB s
       have er':rV s r i.1 t.1 c.1 r c.1=s r c.1:=by unfold rV;rw[dw (by omega)];exact b0P s
       have z5:=has t.1 ht c.1 hc
       have z6:=hrs c.1 hc
       have z7:=oI (s t.1 i.1) (s r c.1)
       simp only[jI ht,jI hr,gG hc,ny,gJ,et,er']
       refine⟨⟨by omega,by omega,ht,by omega,by omega,ht,by omega,by omega,hc,by omega,by omega,hr,by omega,by omega,hc,⟨by omega,by omega⟩,⟨by omega,by omega⟩,by omega,by omega,hc⟩,⟨c.1+1,by omega⟩,by simp only;omega,hw _ (by omega),?_⟩
       rw[<-jI (f:=rV s r i.1 t.1 c.1) ht]
       refine(NW _ ht).trans (fE fun b _ d _=>?_)
       show (if b=t.1/\d=c.1 then s t.1 c.1-s t.1 i.1*s r c.1 else rV s r i.1 t.1 c.1 b d)=rV s r i.1 t.1 (c.1+1) b d
       unfold rV
       by_cases eb:b=t.1/\d=c.1
       ·rw[eY eb,eY ⟨eb.1,by omega⟩,eb.1,eb.2]
       ·rw[dw eb]
        by_cases ec:b=t.1/\d<c.1
        ·rw[eY ec,eY ⟨ec.1,by omega⟩]
        ·rw[dw ec,dw (by omega)]
      ·have h7:=zy h7
       exact⟨⟨t.1+1,by omega⟩,by simp only;omega,hw _ (by omega),fE fun b _ d hd=>a8Q s htr (by omega) b⟩
    ·have ht:t.1=a.length:=by have:=t.2;omega
     have hl:=(TG a.length (ent a) i.1).1
     refine⟨by simp;omega,⟨i.1+1,by omega⟩,by simp only;omega,hw _ (by omega),?_,?_⟩
     ·rw[ht]
      show _=tab _ _ (edm a (i.1+1))
      rw[e2];exact fE fun b hb d hd=>hS b hb d hd
     ·show _=dA (edp a (i.1+1))
      rw[e3];simp[dA]
 ·have hle:=(iL a.length (ent a) i.1).le
  have e:red a.length (ent a) (wdM a)=red a.length (ent a) i.1:=by
   by_cases f:i.1<wdM a
   ·have g:(red a.length (ent a) i.1).2.length=a.length:=by
     by_cases g:(edp a i.1).length<a.length
     ·rw[SQ.mpr ⟨jw (by omega),jw (by omega)⟩] at h;cases h
     ·have:(red a.length (ent a) i.1).2.length=(edp a i.1).length:=rfl
      omega
    have:=a3Z g (wdM a-i.1)
    rwa [show i.1+(wdM a-i.1)=wdM a by omega] at this
   ·rw[show i.1=wdM a by have:=i.2;omega]
  refine⟨?_,?_⟩
  ·show _=tab a.length (wdM a) (red a.length (ent a) (wdM a)).1
   rw[e]
  ·show _=dA (red a.length (ent a) (wdM a)).2
   rw[e]
def c2h:Ctr:=⟨[tM],[tM,.list tI],fun x=>okE x.1,fun x=>(zV x.1,dA (lC x.1),())⟩
theorem a3Y:aY Tryz.prog 53 c2h:=by
 refine bH (((((nil0.ad a6x).ad b3N).ad a6y).ad c1E).an a7S) ⟨[10,13],[],[]⟩ Tryz.func53 rfl (by decide) (fun x=>[.inv {j:Nat // j<=wdM (show MQ from x.1)} (fun j=>[(6,.val tI (j.1:Int)),(5,.own 17 0)]++[(7,.any),(8,.any),(9,.any),(10,.any),(11,.any),(12,.any),(13,.any),(14,.any),(17,.any),(18,.any),(19,.any),(20,.any),(21,.any),(22,.any),(23,.any),(24,.any),(25,.any),(26,.any),(27,.any),(28,.any),(29,.any),(30,.any),(31,.any),(32,.any),(33,.any),(34,.any),(35,.any),(36,.any),(37,.any),(38,.any),(39,.any),(40,.any),(41,.any),(42,.any),(43,.any),(44,.any),(45,.any),(46,.any),(47,.any),(48,.any),(49,.any),(50,.any),(51,.any),(52,.any),(53,.any),(54,.any),(55,.any),(56,.any),(57,.any),(58,.any),(59,.any),(60,.any),(61,.any),(62,.any),(63,.any),(64,.any),(65,.any),(66,.any),(67,.any),(68,.any),(69,.any),(70,.any),(71,.any),(72,.any),(73,.any),(74,.any),(75,.any),(76,.any),(77,.any),(78,.any),(79,.any),(80,.any),(81,.any),(82,.any),(83,.any),(84,.any),(85,.any),(86,.any),(87,.any),(88,.any),(89,.any),(90,.any),(91,.any),(92,.any),(93,.any),(94,.any),(95,.any),(96,.any),(97,.any),(98,.any),(99,.any),(100,.any),(101,.any),(102,.any),(103,.any),(104,.any),(105,.any),(106,.any),(107,.any),(108,.any),(109,.any),(110,.any),(111,.any),(112,.any),(113,.any),(114,.any),(115,.any),(116,.any),(117,.any),(118,.any),(119,.any),(120,.any),(121,.any),(122,.any),(123,.any),(124,.any),(125,.any),(126,.any),(127,.any),(128,.any),(129,.any),(130,.any),(131,.any),(132,.any),(133,.any),(134,.any),(135,.any),(136,.any),(137,.any),(138,.any),(139,.any),(140,.any),(141,.any),(142,.any),(143,.any),(144,.any),(145,.any),(146,.any),(147,.any),(148,.any),(149,.any),(150,.any),(151,.any),(152,.any),(153,.any),(154,.any),(155,.any),(156,.any),(157,.any),(158,.any),(159,.any),(160,.any),(161,.any),(162,.any)]) (fun j=>er (show MQ from x.1) j.1 (edm (show MQ from x.1) j.1)) (fun j=>wdM (show MQ from x.1)-j.1) ⟨0,by omega⟩ (fun j=>[
  .inv (a4T (show MQ from x.1) j.1) (fun p=>[(9,.val tI (p.1.1:Int)),(8,.val tI p.1.2)]) (fun p=>er (show MQ from x.1) j.1 (edm (show MQ from x.1) j.1)) (fun p=>(show MQ from x.1).length+1-p.1.1) ⟨((edp (show MQ from x.1) j.1).length,-1),.inl ⟨rfl,aj _,(iL _ _ _).le,fun i h1 h2=>absurd h2 (by show ¬ i<_;omega)⟩⟩ (fun _=>[]),
  .inv {c:Nat // c<=wdM (show MQ from x.1)} (fun c=>[(11,.val tI (c.1:Int))]++[(36,.any),(37,.any),(38,.any),(39,.any),(40,.any),(41,.any),(42,.any),(43,.any),(44,.any),(45,.any),(46,.any),(47,.any),(48,.any),(49,.any),(50,.any),(51,.any),(52,.any),(53,.any),(54,.any),(55,.any),(56,.any),(57,.any),(58,.any),(59,.any),(60,.any),(61,.any),(62,.any),(63,.any),(64,.any),(65,.any),(66,.any),(67,.any),(68,.any),(69,.any),(70,.any),(71,.any),(72,.any),(73,.any),(74,.any),(75,.any),(76,.any),(77,.any),(78,.any)]) (fun c=>er (show MQ from x.1) j.1 (tX (show MQ from x.1) j.1 c.1)++[(10,.box [⟨tQ,edm (show MQ from x.1) j.1 (ekk (show MQ from x.1) j.1) j.1⟩])]) (fun c=>wdM (show MQ from x.1)-c.1) ⟨0,by omega⟩ (fun _=>[]),
  .inv {i:Nat // i<=(show MQ from x.1).length} (fun i=>[(12,.val tI (i.1:Int))]++[(79,.any),(80,.any),(81,.any),(82,.any),(83,.any),(84,.any),(85,.any),(86,.any),(87,.any),(88,.any),(89,.any),(90,.any),(91,.any),(92,.any),(93,.any),(94,.any),(95,.any),(96,.any),(97,.any),(98,.any),(99,.any),(100,.any),(101,.any),(102,.any),(103,.any),(104,.any),(105,.any)]) (fun i=>er (show MQ from x.1) j.1 (xX (tX (show MQ from x.1) j.1 (wdM (show MQ from x.1))) (edp (show MQ from x.1) j.1).length j.1 i.1)) (fun i=>(show MQ from x.1).length-i.1) ⟨0,by omega⟩ (fun i=>[
   .inv {c:Nat // c<=wdM (show MQ from x.1)} (fun c=>[(14,.val tI (c.1:Int))]) (fun c=>er (show MQ from x.1) j.1 (rV (tX (show MQ from x.1) j.1 (wdM (show MQ from x.1))) (edp (show MQ from x.1) j.1).length j.1 i.1 c.1)++[(13,.box [⟨tQ,tX (show MQ from x.1) j.1 (wdM (show MQ from x.1)) i.1 j.1⟩])]) (fun c=>wdM (show MQ from x.1)-c.1) ⟨0,by omega⟩ (fun _=>[])])])]) (fun x hp=>?_)
 obtain⟨a,u⟩:=x
 change List (List Rat) at a
 refine bP (let A₀:=(List.getD a 0 (aC Rat)).length;((List.length a<=1000/\∀ (r:List Rat),r ∈ a->List.length r<=1000)/\True)/\(asT Int 0=0/\a=tab a.length (wdM a) (edm a 0)/\asT (List Int) (aC Int)=aC Int/\True)/\∀ (i:{ j:Nat // j<=wdM a }),let A₁:=(dA (edp a (aB i))).length;let A₂:=(tab a.length (wdM a) (edm a (aB i)));let aV:=(edp a (aB i)).length;let aP:=(tX a (aB i) (wdM a));let dB:=(nameAt none (aA A₁).toNat);let dO:=(aA (aB i)).toNat;asT Bool true=true/\(asT Int 0<=0/\0<aA a.length/\((decide (aA (aB i)<aA A₀)==true)=true->(decide (aA (aB i)<aA A₀)==true)=true/\True)/\((decide (aA (aB i)<aA A₀)==true)=true->(decide (aA (aB i)<aA A₀)==true)=true/\True)/\((decide (aA (aB i)<aA A₀)==true)=true->(decide (aA (aB i)<aA A₀)==true)=true/\(decide (aA (aB i)<aA A₀)==true)=true/\True)/\(decide (aA (aB i)<aA A₀)=true->(decide (aA (aB i)<aA A₀)==true)=true)/\True)/\ifB (bif decide (aA (aB i)<aA A₀) then decide (aA A₁<aA a.length) else false) ((aA A₁=aA aV/\asT Int (-1)=-1/\tab a.length (wdM a) (edm a (aB i))=tab a.length (wdM a) (edm a (aB i))/\dA (edp a (aB i))=dA (edp a (aB i))/\True)/\∀ (i_1:a4T a (aB i)),let jQ:=(aB i_1).2.toNat;let dU:=(some (List.set (aX none A₂) (aA A₁).toNat (nameAt none jQ)));let eH:=(List.set (aX dU A₂) jQ dB);let iG:=(rowAt A₂ (nameAt (some eH) (aA A₁).toNat));let tH:=(aA (aB i_1).1+1);let wU:=(aA (aB i_1).1);let dX:=(rowAt A₂ (nameAt none wU.toNat));asT Bool true=true/\(((decide (aA (aB i_1).1<aA (aH none A₂))==true)=true->(decide (aA (aB i_1).1<aA (aH none A₂))==true)=true/\True)/\(decide (aA (aB i_1).1<aA (aH none A₂))=true->(decide (aA (aB i_1).1<aA (aH none A₂))==true)=true)/\True)/\ifB (bif decide (aA (aB i_1).1<aA (aH none A₂)) then decide (Prod.snd (aB i_1)<0) else false) ((0<=aA (aB i_1).1/\aA (aB i_1).1<aA (aH none A₂)/\Int.toNat wU<aH none A₂/\0<=aA (aB i)/\aA (aB i)<aA dX.length/\Int.toNat (aA (aB i))<List.length dX/\rsz (List.getD dX dO 0)<=190000000/\True)/\ifB (sgn (Rat.num (List.getD dX dO 0)) != 0) (∃ (i':a4T a (aB i)),List.length a+1-Prod.fst (aB i')<List.length a+1-Prod.fst (aB i_1)/\IntKind.wrap IntKind.i64 tH=aA (aB i').1/\aA (aB i_1).1=Prod.snd (aB i')/\tab a.length (wdM a) (edm a (aB i))=tab a.length (wdM a) (edm a (aB i))/\dA (edp a (aB i))=dA (edp a (aB i))/\True) (∃ (i':a4T a (aB i)),List.length a+1-Prod.fst (aB i')<List.length a+1-Prod.fst (aB i_1)/\IntKind.wrap IntKind.i64 tH=aA (aB i').1/\Prod.snd (aB i_1)=Prod.snd (aB i')/\tab a.length (wdM a) (edm a (aB i))=tab a.length (wdM a) (edm a (aB i))/\dA (edp a (aB i))=dA (edp a (aB i))/\True)) (ifB (decide (Prod.snd (aB i_1)<0)) (∃ (i':{ j:Nat // j<=wdM a }),wdM a-aB i'<wdM a-aB i/\IntKind.wrap IntKind.i64 (aA (aB i)+1)=aA (aB i')/\tab a.length (wdM a) (edm a (aB i))=tab a.length (wdM a) (edm a (aB i'))/\dA (edp a (aB i))=dA (edp a (aB i'))/\True) ((0<=Prod.snd (aB i_1)/\Prod.snd (aB i_1)<aA (aH none A₂)/\Int.toNat (aB i_1).2<aH none A₂/\0<=aA A₁/\aA A₁<aA (aH none A₂)/\Int.toNat (aA A₁)<aH none A₂/\0<=aA A₁/\aA A₁<aA (aH none A₂)/\Int.toNat (aA A₁)<aH none A₂/\0<=Prod.snd (aB i_1)/\Prod.snd (aB i_1)<aA (aH dU A₂)/\Int.toNat (aB i_1).2<aH dU A₂/\True)/\(0<=aA A₁/\aA A₁<aA (aH (some eH) A₂)/\Int.toNat (aA A₁)<aH (some eH) A₂/\0<=aA (aB i)/\aA (aB i)<aA iG.length/\Int.toNat (aA (aB i))<List.length iG/\True)/\(asT Int 0=0/\List.Nodup eH/\List.map (fun(i_2:Nat)=>List.getD A₂ i_2 (aC Rat)) eH=tab a.length (wdM a) (tX a (aB i) 0)/\dA (edp a (aB i))=dA (edp a (aB i))/\List.getD iG dO 0=edm a (aB i) (ekk a (aB i)) (aB i)/\True)/\∀ (i_2:{ c:Nat // c<=wdM a }),let yC:=(aA (aB i_2)).toNat;let CZ:=(tX a (aB i) (aB i_2));let iO:=(tab a.length (wdM a) CZ);let CY:=(rowAt iO dB).length;asT Bool true=true/\(0<=aA A₁/\aA A₁<aA (aH none iO)/\Int.toNat (aA A₁)<aH none iO/\True)/\ifB (decide (aA (aB i_2)<aA CY)) ((0<=aA A₁/\aA A₁<aA (aH none iO)/\Int.toNat (aA A₁)<aH none iO/\0<=aA A₁/\aA A₁<aA (aH none iO)/\Int.toNat (aA A₁)<aH none iO/\0<=aA (aB i_2)/\aA (aB i_2)<aA CY/\Int.toNat (aA (aB i_2))<List.length (rowAt iO dB)/\(s19 (List.getD (rowAt iO dB) yC 0) (edm a (aB i) (ekk a (aB i)) (aB i))/\edm a (aB i) (ekk a (aB i)) (aB i)≠0)/\0<=aA (aB i_2)/\aA (aB i_2)<aA CY/\Int.toNat (aA (aB i_2))<List.length (rowAt iO dB)/\True)/\∃ (i':{ c:Nat // c<=wdM a }),wdM a-aB i'<wdM a-aB i_2/\IntKind.wrap IntKind.i64 (aA (aB i_2)+1)=aA (aB i')/\List.set iO dB (List.set (rowAt iO dB) yC (List.getD (rowAt iO dB) yC 0 / edm a (aB i) (ekk a (aB i)) (aB i)))=tab a.length (wdM a) (tX a (aB i) (aB i'))/\dA (edp a (aB i))=dA (edp a (aB i))/\edm a (aB i) (ekk a (aB i)) (aB i)=edm a (aB i) (ekk a (aB i)) (aB i)/\True) ((asT Int 0=0/\tab a.length (wdM a) CZ=tab a.length (wdM a) (xX aP aV (aB i) 0)/\dA (edp a (aB i))=dA (edp a (aB i))/\True)/\∀ (i_3:{ i:Nat // i<=List.length a }),let jR:=(aA (aB i_3)).toNat;let lM:=(nameAt none jR);let C₁:=(xX aP aV (aB i) (aB i_3));let jF:=(tab a.length (wdM a) C₁);let C₂:=(rV aP aV (aB i) (aB i_3) 0);let C₃:=(tab a.length (wdM a) C₂);let yD:=(List.getD (rowAt jF lM) dO 0);asT Bool true=true/\ifB (decide (aA (aB i_3)<aA (aH none jF))) ((0<=aA (aB i_3)/\aA (aB i_3)<aA (aH none jF)/\Int.toNat (aA (aB i_3))<aH none jF/\0<=aA (aB i)/\aA (aB i)<aA (rowAt jF lM).length/\Int.toNat (aA (aB i))<List.length (rowAt jF lM)/\True)/\((((aA (aB i_3)==aA A₁)==false)=true->((aA (aB i_3)==aA A₁)==false)=true/\rsz yD<=190000000/\True)/\(((aA (aB i_3)==aA A₁)==false)=true->((aA (aB i_3)==aA A₁)==false)=true/\True)/\((aA (aB i_3)==aA A₁)=false->((aA (aB i_3)==aA A₁)==false)=true)/\True)/\ifB (bif aA (aB i_3)==aA A₁ then true else sgn (Rat.num yD)==0) (∃ (i':{ i:Nat // i<=List.length a }),List.length a-aB i'<List.length a-aB i_3/\IntKind.wrap IntKind.i64 (aA (aB i_3)+1)=aA (aB i')/\tab a.length (wdM a) C₁=tab a.length (wdM a) (xX aP aV (aB i) (aB i'))/\dA (edp a (aB i))=dA (edp a (aB i))/\True) ((asT Int 0=0/\nameAt none jR=nameAt none jR/\Int.toNat (aA (aB i))=Int.toNat (aA (aB i))/\List.length jF=List.length C₃/\nameAt none jR=nameAt none jR/\List.length jF=List.length C₃/\Int.toNat (aA (aB i_3))=Int.toNat (aA (aB i_3))/\tab a.length (wdM a) C₁=tab a.length (wdM a) C₂/\dA (edp a (aB i))=dA (edp a (aB i))/\List.getD (rowAt jF lM) dO 0=tX a (aB i) (wdM a) (aB i_3) (aB i)/\True)/\∀ (i_4:{ c:Nat // c<=wdM a }),let OC:=(aA (aB i_4)).toNat;let a9X:=(rV aP aV (aB i) (aB i_3) (aB i_4));let jD:=(tab a.length (wdM a) a9X);let a4L:=(List.set (rowAt jD lM) OC (List.getD (rowAt jD lM) OC 0-tX a (aB i) (wdM a) (aB i_3) (aB i)*List.getD (rowAt jD dB) OC 0));let a4M:=(rowAt jD lM).length;asT Bool true=true/\(0<=aA (aB i_3)/\aA (aB i_3)<aA (aH none jD)/\Int.toNat (aA (aB i_3))<aH none jD/\True)/\ifB (decide (aA (aB i_4)<aA a4M)) ((0<=aA (aB i_3)/\aA (aB i_3)<aA (aH none jD)/\Int.toNat (aA (aB i_3))<aH none jD/\0<=aA (aB i_3)/\aA (aB i_3)<aA (aH none jD)/\Int.toNat (aA (aB i_3))<aH none jD/\0<=aA (aB i_4)/\aA (aB i_4)<aA a4M/\Int.toNat (aA (aB i_4))<List.length (rowAt jD lM)/\0<=aA A₁/\aA A₁<aA (aH none jD)/\Int.toNat (aA A₁)<aH none jD/\0<=aA (aB i_4)/\aA (aB i_4)<aA (rowAt jD dB).length/\Int.toNat (aA (aB i_4))<List.length (rowAt jD dB)/\s19 (tX a (aB i) (wdM a) (aB i_3) (aB i)) (List.getD (rowAt jD dB) OC 0)/\s19 (List.getD (rowAt jD lM) OC 0) (tX a (aB i) (wdM a) (aB i_3) (aB i)*List.getD (rowAt jD dB) OC 0)/\0<=aA (aB i_4)/\aA (aB i_4)<aA a4M/\Int.toNat (aA (aB i_4))<List.length (rowAt jD lM)/\True)/\∃ (i':{ c:Nat // c<=wdM a }),let a9Y:=(rV aP aV (aB i) (aB i_3) (aB i'));let D₁:=(tab a.length (wdM a) a9Y);wdM a-aB i'<wdM a-aB i_4/\IntKind.wrap IntKind.i64 (aA (aB i_4)+1)=aA (aB i')/\nameAt none jR=nameAt none jR/\Int.toNat (aA (aB i))=Int.toNat (aA (aB i))/\List.length (List.set jD lM a4L)=List.length D₁/\nameAt none jR=nameAt none jR/\List.length (List.set jD lM a4L)=List.length D₁/\Int.toNat (aA (aB i_3))=Int.toNat (aA (aB i_3))/\List.set jD lM a4L=tab a.length (wdM a) a9Y/\dA (edp a (aB i))=dA (edp a (aB i))/\tX a (aB i) (wdM a) (aB i_3) (aB i)=tX a (aB i) (wdM a) (aB i_3) (aB i)/\True) (∃ (i':{ i:Nat // i<=List.length a }),List.length a-aB i'<List.length a-aB i_3/\IntKind.wrap IntKind.i64 (aA (aB i_3)+1)=aA (aB i')/\tab a.length (wdM a) a9X=tab a.length (wdM a) (xX aP aV (aB i) (aB i'))/\dA (edp a (aB i))=dA (edp a (aB i))/\True))) ((List.length (dA (edp a (aB i)))+List.length (aA (aB i)::aC Int)<=1000000000/\True)/\∃ (i':{ j:Nat // j<=wdM a }),wdM a-aB i'<wdM a-aB i/\IntKind.wrap IntKind.i64 (aA (aB i)+1)=aA (aB i')/\tab a.length (wdM a) C₁=tab a.length (wdM a) (edm a (aB i'))/\dA (edp a (aB i))++aA (aB i)::aC Int=dA (edp a (aB i'))/\True))))) (True/\tab a.length (wdM a) (edm a (aB i))=zV a/\True/\dA (edp a (aB i))=dA (lC a)/\True)) (by kernel_rfl) ?_
 exact b5u a hp
theorem okM.oP {a:MQ} (h:okM a):Proofs.YtgplhbhfdgempaaGreat.oP a:=⟨by have:=h.r64;omega,fun r hr=>⟨by rw[h.1.2.1 r hr];have:=h.c64;omega,fun q hq=>h.ent hr hq⟩⟩
def b6W:Ctr:=⟨[tM],[tI],fun x=>okE x.1,fun x=>((rkM x.1:Int),())⟩
theorem QA:aY Tryz.prog 14 b6W:=by
 refine bH (nil0.ad a3Y) ⟨[],[],[]⟩ Tryz.func14 rfl (by decide) (fun x=>[]) (fun x hp=>?_)
 obtain⟨a,u⟩:=x
 change List (List Rat) at a
 refine bP ((okE a/\True)/\True/\aA (dA (lC a)).length=aA (rkM a)/\True) (by kernel_rfl) ?_
 have hZ:(⟨false,0,[],[]⟩:aF)=bV:=rfl
 dsimp only[aA,asT,aB,aC,Ty.den,Lf.den] at *
 simp only[hZ,Int.toNat_natCast,aJ,dh,bn,mg,mW,aH,nameAt,aX,aN,aZ,rowAt,iw,gJ]
 have hE:okE a:=hp
 exact⟨hE,by rw[qX];rfl⟩
end Go.Proofs.YtgplhbhfdgempaaGreat
