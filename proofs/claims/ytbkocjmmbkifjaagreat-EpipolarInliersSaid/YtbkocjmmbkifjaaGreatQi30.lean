/-
  Lemmas for the theorem vinliers_holds, part 30 of 32.
-/
import Derived.Test.YtbkocjmmbkifjaaGreatQi29
namespace Go.Proofs.YtbkocjmmbkifjaaGreat
open Go Go.RowKit
set_option maxRecDepth 100000
set_option maxHeartbeats 1000000
set_option linter.unusedVariables false
set_option linter.unusedSimpArgs false
def cdI (n:Int):Prop:=-1048576<=n/\n<=1048576
abbrev DX:Type:=Int × Int × Unit
def cdP (p:DX):Prop:=cdI p.1/\cdI p.2.1
def DR (p:DX):List Int:=[p.1,p.2.1,1]
noncomputable def c0x:Ctr:=⟨[b2B],[.arr 3 tI],fun x=>True,fun x=>(DR x.1,())⟩
theorem a4T:aT Tryz.prog 210 c0x:=by
 refine bY Lib.nil ⟨[2],[],[]⟩ Tryz.func210 rfl (by decide) (fun x=>[]) (fun x hp=>?_)
 obtain⟨p,u⟩:=x
 change DX at p
 refine dM (True/\asT Int p.1::asT Int p.2.1::1::aP Int=DR p/\True) (by kernel_rfl) ?_
 have hZ:(⟨false,0,[],[]⟩:aF)=cZ:=rfl
 try simp only[aQ,ay,au]
 try dsimp only[aB,asT,aA,aP,Ty.den,Lf.den] at *
 try simp only[hZ,Int.toNat_natCast,aQ,ay,au,og,ny,jg,jf]
 try simp only[iH,iG,List.all_cons,List.all_nil,qh,jc,jr,je,qo,ne_eq,aj,jo,jm,jv,oh,yw,qp,yx,og,ny,lg,ji,List.length_cons,List.length_nil]
 rfl
def m33 (K:Nat) (f:MQ):Prop:=isM f 3 3/\szM f K
theorem cdI.word {n:Int} (h:cdI n):gX n:=⟨by have:=h.1;omega,by have:=h.2;omega⟩
theorem cdI.sz {n:Int} (h:cdI n):rsz (fK n)<=2:=by
 have h1:=a4B n
 have h2:isz n<=1:=qI (by obtain⟨a,b⟩:=h;unfold BB;omega)
 exact iq h1 (by omega)
theorem m33.ok {K:Nat} {f:MQ} (h:m33 K f) (hK:K<=1000000):okM f/\szM f 1000000/\wdM f=3/\f.length=3:=⟨⟨by rw[h.1.len,h.1.wd];exact h.1,fun i hi j hj=>iq (h.2 i hi j hj) (by omega)⟩,fun i hi j hj=>iq (h.2 i hi j hj) (by omega),h.1.wd,h.1.len⟩
def fP (p:DX):List Rat:=(DR p).map fun i=>fK i
noncomputable def c0i:Ctr:=⟨[tM,b2B],[.list tQ],fun x=>m33 100 x.1/\cdP x.2.1,fun x=>(mvL x.1 (fP x.2.1),())⟩
theorem a3Q:aT Tryz.prog 209 c0i:=by
 refine bY (((nil0.ad a5a).ad a6J).ad a4T) ⟨[],[],[]⟩ Tryz.func209 rfl (by decide) (fun x=>[.inv {k:Nat // k<=3} (fun k=>[(12,.val tI (k.1:Int)),(5,.own 18 0),(18,.any)]) (fun k=>[(18,.row 47 tQ ((fP (show DX from x.2.1)).take k.1) 0)]) (fun k=>3-k.1) ⟨0,by omega⟩ (fun _=>[])]) (fun x hp=>?_)
 obtain⟨f,p,u⟩:=x
 change List (List Rat) at f
 change DX at p
 refine dM (let A₀:=(asT Int p.1::asT Int p.2.1::1::aP Int);(True/\True)/\(asT Int 0=0/\(True/\asT (List Rat) (aP Rat)=aP Rat)/\(asT (List Rat) (aP Rat)=aP Rat/\0=0/\asT Bool true=true)/\True)/\∀ (i:{ k:Nat // k<=3 }),let A₁:=(List.getD A₀ (aB (aA i)).toNat 0);let A₂:=(List.take (aA i) (fP p));asT Bool true=true/\ifB (decide (aB (aA i)<3)) ((0<=aB (aA i)/\aB (aA i)<3/\True)/\(gX A₁/\List.length A₂+List.length (fK A₁::aP Rat)<=1000000000/\True)/\∃ (i':{ k:Nat // k<=3 }),3-aA i'<3-aA i/\IntKind.wrap IntKind.i64 (aB (aA i)+1)=aB (aA i')/\List.take (aA i) (fP p)++fK A₁::aP Rat=List.take (aA i') (fP p)/\True) (((okM f/\szM f 1000000/\List.length A₂=wdM f/\∀ (q:Rat),q ∈ List.take (aA i) (fP p)->rsz q<=1000000)/\True)/\True/\mvL f A₂=mvL f (fP p)/\True)) (by kernel_rfl) ?_
 have hZ:(⟨false,0,[],[]⟩:aF)=cZ:=rfl
 try simp only[aQ,ay,au]
 try dsimp only[aB,asT,aA,aP,Ty.den,Lf.den] at *
 try simp only[hZ,Int.toNat_natCast,aQ,ay,au,og,ny,jg,jf]
 try simp only[iH,iG,List.all_cons,List.all_nil,qh,jc,jr,je,qo,ne_eq,aj,jo,jm,jv,oh,yw,qp,yx,og,ny,lg,ji,List.length_cons,List.length_nil]
 obtain⟨hf,hp⟩:m33 100 f/\cdP p:=hp
 obtain⟨ho,hs,hw,hl⟩:=hf.ok (by omega)
 have h3:(DR p).length=3:=rfl
 have hv:∀ n ∈ DR p,cdI n:=fun n hn=>by
  simp only[DR,qj,Df,or_false] at hn
  rcases hn with rfl|rfl|rfl
  ·exact hp.1
  ·exact hp.2
  ·exact⟨by omega,by omega⟩
 refine fun i=>⟨fun h1=>⟨⟨by omega,h1⟩,⟨(bF (p:=cdI) hv (i:=i.1) (d:=0) (by omega)).word,by rw[jy];omega⟩,⟨i.1+1,by omega⟩,by simp only;omega,by rw[cO (by omega) (by omega)];rfl,?_⟩,fun h1=>?_⟩
 ·show _=List.take (i.1+1) (fP p)
  rw[Dq]
  congr 1
  unfold fP
  rw[vk,dn (show i.1<(DR p).length by omega),dh,show [p.1,p.2.1,1]=DR p from rfl,dn (show i.1<(DR p).length by omega)];rfl
 ·have e:List.take i.1 (fP p)=fP p:=jh (by show (fP p).length<=_;unfold fP;rw[Bf];omega)
  rw[e]
  refine⟨⟨ho,hs,hw.symm ▸ rfl,fun q hq=>?_⟩,rfl⟩
  obtain⟨n,hn,rfl⟩:=uq.mp hq
  exact iq (hv n hn).sz (by omega)
theorem a4S {p:DX} (hp:cdP p):∀ n ∈ DR p,cdI n:=fun n hn=>by
 simp only[DR,qj,Df,or_false] at hn
 rcases hn with rfl|rfl|rfl
 ·exact hp.1
 ·exact hp.2
 ·exact⟨by omega,by omega⟩
theorem nX (p:DX):(fP p).length=3:=rfl
theorem GN {p:DX} (hp:cdP p):∀ q ∈ fP p,rsz q<=2:=fun q hq=>by
 obtain⟨n,hn,rfl⟩:=uq.mp hq
 exact(a4S hp n hn).sz
theorem b2G (p:DX) {i:Nat} (hi:i<3):fK ((DR p).getD i 0)=(fP p).getD i 0:=by
 unfold fP
 rw[dh,dh,vk,dn (show i<(DR p).length from hi)];rfl
theorem qQ {K:Nat} {f:MQ} (hf:m33 K f) (p:DX):(mvL f (fP p)).length=3:=by rw[a4d];exact hf.1.len
theorem CZ {f:MQ} (hf:m33 100 f) {p:DX} (hp:cdP p):∀ q ∈ mvL f (fP p),rsz q<=1000:=fun q hq=>iq (b4B hf.1 hf.2 (GN hp) (nX p) q hq) (by omega)
theorem a4y {f:MQ} (hf:m33 100 f) {p:dQ} (h1:cdP p.1) (h2:cdP p.2.1):XM (fP p.2.1) (mvL f (fP p.1)):=⟨by rw[qQ hf,nX],by rw[nX];omega,fun i hi=>⟨iq (bF (GN h2) hi) (by omega),iq (bF (CZ hf h1) (by rw[qQ hf];exact hi)) (by omega)⟩⟩
theorem m33.tr {K:Nat} {f:MQ} (h:m33 K f):m33 K (trM f):=by
 unfold trM
 rw[h.1.wd,h.1.len]
 have e:isM (tab 3 3 (_root_.Go.Proofs.YtbkocjmmbkifjaaGreat.tr (ent f))) 3 3:=GH (by omega) (by omega) (by omega) (by omega)
 refine⟨e,fun i hi j hj=>?_⟩
 rw[e.len] at hi
 rw[e.wd] at hj
 rw[a3I hi hj]
 exact h.2 j (by rw[h.1.len];exact hj) i (by rw[h.1.wd];exact hi)
def uS (f:MQ) (p:dQ):Rat:=fE (fP p.2.1) (mvL f (fP p.1)) 3
noncomputable def c0p:Ctr:=⟨[tM,KR],[tQ],fun x=>m33 100 x.1/\cdP x.2.1.1/\cdP x.2.1.2.1,fun x=>(uS x.1 x.2.1,())⟩
theorem b2k:aT Tryz.prog 117 c0p:=by
 refine bY (((((nil0.ad a5a).ad b0v).ad b0w).ad a4T).ad a3Q) ⟨[4,6],[],[]⟩ Tryz.func117 rfl (by decide) (fun x=>[.inv {k:Nat // k<=3} (fun k=>[(17,.val tI (k.1:Int))]) (fun k=>[(4,.box [⟨tR,cZ⟩]),(6,.box [⟨tQ,fE (fP (show dQ from x.2.1).2.1) (mvL x.1 (fP (show dQ from x.2.1).1)) k.1⟩])]) (fun k=>3-k.1) ⟨0,by omega⟩ (fun _=>[])]) (fun x hp=>?_)
 obtain⟨f,p,u⟩:=x
 change List (List Rat) at f
 change dQ at p
 refine dM (let A₁:=(mvL f (fP p.1));let A₂:=p.2.1;let A₀:=(asT Int A₂.1::asT Int A₂.2.1::1::aP Int);((m33 100 f/\cdP p.1)/\True)/\(gX 0/\True)/\(True/\True)/\(asT Int 0=0/\asT aF cZ=cZ/\fK 0=fE (fP A₂) A₁ 0/\True)/\∀ (i:{ k:Nat // k<=3 }),let fO:=(aB (aA i)).toNat;asT Bool true=true/\ifB (decide (aB (aA i)<3)) ((0<=aB (aA i)/\aB (aA i)<3/\True)/\(gX (List.getD A₀ fO 0)/\0<=aB (aA i)/\aB (aA i)<aB A₁.length/\s44 (fK (List.getD A₀ fO 0)) (List.getD A₁ fO 0)/\s44 (fE (fP A₂) A₁ (aA i)) (fK (List.getD A₀ fO 0)*List.getD A₁ fO 0)/\True)/\∃ (i':{ k:Nat // k<=3 }),3-aA i'<3-aA i/\IntKind.wrap IntKind.i64 (aB (aA i)+1)=aB (aA i')/\asT aF cZ=cZ/\fE (fP A₂) A₁ (aA i)+fK (List.getD A₀ fO 0)*List.getD A₁ fO 0=fE (fP A₂) A₁ (aA i')/\True) (True/\fE (fP A₂) A₁ (aA i)=uS f p/\True)) (by kernel_rfl) ?_
 have hZ:(⟨false,0,[],[]⟩:aF)=cZ:=rfl
 try simp only[aQ,ay,au]
 try dsimp only[aB,asT,aA,aP,Ty.den,Lf.den] at *
 try simp only[hZ,Int.toNat_natCast,aQ,ay,au,og,ny,jg,jf]
 try simp only[iH,iG,List.all_cons,List.all_nil,qh,jc,jr,je,qo,ne_eq,aj,jo,jm,jv,oh,yw,qp,yx,og,ny,lg,ji,List.length_cons,List.length_nil]
 obtain⟨hf,h1,h2⟩:m33 100 f/\cdP p.1/\cdP p.2.1:=hp
 have hd:=a4y hf h1 h2
 refine⟨⟨hf,h1⟩,⟨by omega,by omega⟩,rfl,fun i=>⟨fun h=>?_,fun h=>?_⟩⟩
 ·have hi:i.1<3:=by omega
  have e:fK ([p.2.1.1,p.2.1.2.1,1].getD i.1 0)=(fP p.2.1).getD i.1 0:=b2G p.2.1 hi
  have b1:rsz ((fP p.2.1).getD i.1 0)<=2:=bF (GN h2) (by rw[nX];exact hi)
  have b2:rsz ((mvL f (fP p.1)).getD i.1 0)<=1000:=bF (CZ hf h1) (by rw[qQ hf];exact hi)
  have b3:=yJ hd (k:=i.1) (by rw[nX];omega)
  have b4:=nT ((fP p.2.1).getD i.1 0) ((mvL f (fP p.1)).getD i.1 0)
  have l3:=qQ hf p.1
  have w0:gX ([p.2.1.1,p.2.1.2.1,1].getD i.1 0):=(bF (p:=cdI) (a4S h2) (i:=i.1) (d:=0) hi).word
  rw[e,l3]
  exact⟨⟨by omega,h⟩,⟨w0,by omega,by omega,⟨by omega,by omega⟩,⟨by omega,by omega⟩⟩,⟨i.1+1,by omega⟩,by simp only;omega,by rw[cO (by omega) (by omega)];rfl,rfl⟩
 ·rw[show i.1=3 by omega];rfl
def qE (f:MQ) (p:dQ):List Rat:=[(mvL f (fP p.1)).getD 0 0,(mvL f (fP p.1)).getD 1 0,(mvL (trM f) (fP p.2.1)).getD 0 0,(mvL (trM f) (fP p.2.1)).getD 1 0]
def TF (f:MQ) (p:dQ):Rat:=fE (qE f p) (qE f p) 4
def xX (f:MQ) (p:dQ):aF × Int × Unit:=if TF f p=0 then (cZ,13,()) else (kL (uS f p*uS f p / TF f p),0,())
noncomputable def b8N:Ctr:=⟨[tM,KR],[tR,tI],fun x=>m33 100 x.1/\cdP x.2.1.1/\cdP x.2.1.2.1,fun x=>xX x.1 x.2.1⟩
theorem b2x:aT Tryz.prog 118 b8N:=by
 refine bY ((((((((nil0.ad a5a).ad b0v).ad b0w).ad b9K).ad RF).ad a3Q).ad RF).ad b2k) ⟨[4,10,12,13,14],[],[]⟩ Tryz.func118 rfl (by decide) (fun x=>[.inv {k:Nat // k<=4} (fun k=>[(44,.val tI (k.1:Int))]) (fun k=>[(4,.box [⟨tR,cZ⟩]),(10,.box [⟨tQ,fE (qE x.1 (show dQ from x.2.1)) (qE x.1 (show dQ from x.2.1)) k.1⟩])]) (fun k=>4-k.1) ⟨0,by omega⟩ (fun _=>[])]) (fun x hp=>?_)
 obtain⟨f,p,u⟩:=x
 change List (List Rat) at f
 change dQ at p
 refine dM (let A₂:=(mvL f (fP p.1));let fO:=p.2.1;let jX:=(tab (wdM f) f.length (tr (ent f)));let A₁:=(mvL jX (fP fO));let A₀:=(List.getD A₂ 0 0::List.getD A₂ 1 0::List.getD A₁ 0 0::List.getD A₁ 1 0::aP Rat);(okM f/\True)/\((m33 100 f/\cdP p.1)/\(m33 100 jX/\cdP fO)/\True)/\(gX 0/\True)/\(asT Int 0<=0/\0<aB A₂.length/\asT Int 0<=1/\1<aB A₂.length/\asT Int 0<=0/\0<aB A₁.length/\asT Int 0<=1/\1<aB A₁.length/\True)/\(asT Int 0=0/\asT aF cZ=cZ/\fK 0=fE (qE f p) (qE f p) 0/\True)/\∀ (i:{ k:Nat // k<=4 }),let jQ:=(aB (aA i)).toNat;let pI:=(fE (qE f p) (qE f p) (aA i));let xZ:=(SE 14 (uS f p*uS f p) pI);asT Bool true=true/\ifB (decide (aB (aA i)<aB A₀.length)) ((0<=aB (aA i)/\aB (aA i)<aB A₀.length/\True)/\(s44 (List.getD A₀ jQ 0) (List.getD A₀ jQ 0)/\s44 pI (List.getD A₀ jQ 0*List.getD A₀ jQ 0)/\True)/\∃ (i':{ k:Nat // k<=4 }),4-aA i'<4-aA i/\IntKind.wrap IntKind.i64 (aB (aA i)+1)=aB (aA i')/\asT aF cZ=cZ/\fE (qE f p) (qE f p) (aA i)+List.getD A₀ jQ 0*List.getD A₀ jQ 0=fE (qE f p) (qE f p) (aA i')/\True) (((m33 100 f/\cdP p.1/\cdP fO)/\True)/\(s44 (uS f p) (uS f p)/\(rsz (uS f p*uS f p)<=400000000/\rsz pI<=400000000)/\True)/\ifB (Prod.fst xZ.2 != 0) (True/\cZ=Prod.fst (xX f p)/\True/\13=Prod.fst (xX f p).2/\True) (True/\Prod.fst xZ=Prod.fst (xX f p)/\True/\0=Prod.fst (xX f p).2/\True))) (by kernel_rfl) ?_
 have hZ:(⟨false,0,[],[]⟩:aF)=cZ:=rfl
 try simp only[aQ,ay,au]
 try dsimp only[aB,asT,aA,aP,Ty.den,Lf.den] at *
 try simp only[hZ,Int.toNat_natCast,aQ,ay,au,og,ny,jg,jf]
 try simp only[iH,iG,List.all_cons,List.all_nil,qh,jc,jr,je,qo,ne_eq,aj,jo,jm,jv,oh,yw,qp,yx,og,ny,lg,ji,List.length_cons,List.length_nil]
 obtain⟨hf,h1,h2⟩:m33 100 f/\cdP p.1/\cdP p.2.1:=hp
 have ht:=hf.tr
 rw[show tab (wdM f) f.length (tr (ent f))=trM f from rfl]
 have la:=qQ hf p.1
 have lb:=qQ ht p.2.1
 have sa:=CZ hf h1
 have sb:=CZ ht h2
 have hr:rsz (uS f p)<=200000000:=yJ (a4y hf h1 h2) (by rw[nX];omega)
 have hr2:=nT (uS f p) (uS f p)
 have s4:∀ q ∈ qE f p,rsz q<=1000:=fun q hq=>by
  simp only[qE,qj,Df,or_false] at hq
  rcases hq with rfl|rfl|rfl|rfl
  ·exact bF sa (by omega)
  ·exact bF sa (by omega)
  ·exact bF sb (by omega)
  ·exact bF sb (by omega)
 have hd:XM (qE f p) (qE f p):=⟨rfl,by show 4<=64;omega,fun i hi=>⟨iq (bF s4 hi) (by omega),iq (bF s4 hi) (by omega)⟩⟩
 rw[show [(mvL f (fP p.1)).getD 0 0,(mvL f (fP p.1)).getD 1 0,(mvL (trM f) (fP p.2.1)).getD 0 0,(mvL (trM f) (fP p.2.1)).getD 1 0]=qE f p from rfl,la,lb]
 have q3:fE (qE f p) (qE f p) 4=TF f p:=rfl
 refine⟨(hf.ok (by omega)).1,⟨⟨hf,h1⟩,ht,h2⟩,⟨by omega,by omega⟩,by omega,rfl,fun i=>⟨fun h=>?_,fun h=>?_⟩⟩
 ·have hi:i.1<(qE f p).length:=by show i.1<4;omega
  have b1:=bF s4 hi (d:=0)
  have b2:=nT ((qE f p).getD i.1 0) ((qE f p).getD i.1 0)
  have b3:=yJ hd (k:=i.1) (by omega)
  exact⟨⟨by omega,h⟩,⟨by omega,⟨by omega,by omega⟩⟩,⟨i.1+1,by omega⟩,by simp only;omega,by rw[cO (by omega) (by omega)];rfl,rfl⟩
 ·rw[show i.1=4 by have:=i.2;omega,q3]
  have b3:rsz (TF f p)<=200000000:=yJ hd (k:=4) (by show 4<=4;omega)
  refine⟨⟨hf,h1,h2⟩,⟨by omega,by omega,by omega⟩,?_⟩
  unfold SE xX
  by_cases h0:TF f p=0
  ·rw[jq h0,jq h0]
   exact⟨fun _=>⟨rfl,rfl⟩,fun h=>absurd h (by decide)⟩
  ·rw[jk h0,jk h0]
   exact⟨fun h=>absurd rfl h,fun _=>⟨rfl,rfl⟩⟩
theorem a2Y {α:Type} {xs ys:List α} {i:Nat} {d:α} (hi:i<xs.length) (hy:i<ys.length) (h:xs.take i=ys.take i) (h2:xs.getD i d=ys.getD i d):xs.take (i+1)=ys.take (i+1):=by
 rw[Dq,Dq,h]
 rw[dh,dn hi,dh,dn hy] at h2
 rw[dn hi,dn hy]
 have h2:xs[i]=ys[i]:=h2
 rw[h2]
abbrev LKq:LK:=.mat 39 47 tQ
def a6F (n:Nat):List Rat:=List.replicate n 0
def DW (R C:Nat):MQ:=tab R C fun _ _=>0
noncomputable def c1c:mX:=.mk LKq [tI,tI] (fun x=>0<=(show Int from x.1)/\(show Int from x.1)<=1000/\0<=(show Int from x.2.1)/\(show Int from x.2.1)<=1000) (fun x=>DW (show Int from x.1).toNat (show Int from x.2.1).toNat)
theorem a1v:aT Tryz.prog 165 (cIQ gX (fun i=>(i:Rat))):=by
 refine bY (nil0.ad b3z) ⟨[2],[],[]⟩ Tryz.func165 rfl (by decide) (fun x=>[]) (fun x hp=>?_)
 obtain⟨n,u⟩:=x
 change Int at n
 refine dM ((gX n/\True)/\True/\fK n=fK n/\True) (by kernel_rfl) ?_
 have hZ:(⟨false,0,[],[]⟩:aF)=cZ:=rfl
 dsimp only[aB,asT,aA,aP,Ty.den,Lf.den] at *
 simp only[hZ,Int.toNat_natCast,aQ,ay,au,og,ny,iI,nameAt,bZ,jV,lT,rowAt,jg,jf]
 exact hp
theorem b2s:NOk Tryz.prog 158 c1c:=by
 refine YQ (nil0.ad a1v) ⟨[],[],[(9,tQ),(27,tQ)]⟩ Tryz.func158 rfl (by decide) (fun x=>[.inv {k:Nat // k<=(show Int from x.1).toNat} (fun k=>[(6,.val tI (k.1:Int)),(5,.own 9 0),(9,.any),(28,.any)]) (fun k=>[(9,.mat 39 47 tQ none (DW k.1 (show Int from x.2.1).toNat) 0)]) (fun k=>(show Int from x.1).toNat-k.1) ⟨0,by omega⟩ (fun k=>[.inv {q:Nat // q<=(show Int from x.2.1).toNat} (fun q=>[(8,.val tI (q.1:Int)),(7,.own 15 0),(15,.any),(24,.any)]) (fun q=>[(9,.mat 39 47 tQ none (DW k.1 (show Int from x.2.1).toNat) 0),(15,.row 47 tQ (a6F q.1) 0)]) (fun q=>(show Int from x.2.1).toNat-q.1) ⟨0,by omega⟩ (fun _=>[])])]) (fun x hp=>?_)
 obtain⟨m,n,u⟩:=x
 change Int at m
 change Int at n
 refine dM ((asT Int 0=0/\asT (List (List Rat)) (aP (List Rat))=aP (List Rat)/\True)/\∀ (i:{ k:Nat // k<=Int.toNat m }),asT Bool true=true/\ifB (decide (aB (aA i)<m)) ((asT Int 0=0/\DW (aA i) n.toNat=DW (aA i) n.toNat/\asT (List Rat) (aP Rat)=aP Rat/\True)/\∀ (i_1:{ q:Nat // q<=Int.toNat n }),asT Bool true=true/\ifB (decide (aB (aA i_1)<n)) ((gX 0/\List.length (a6F (aA i_1))+List.length (fK 0::aP Rat)<=1000000000/\True)/\∃ (i':{ q:Nat // q<=Int.toNat n }),Int.toNat n-aA i'<Int.toNat n-aA i_1/\IntKind.wrap IntKind.i64 (aB (aA i_1)+1)=aB (aA i')/\DW (aA i) n.toNat=DW (aA i) n.toNat/\a6F (aA i_1)++fK 0::aP Rat=a6F (aA i')/\True) ((iI none (DW (aA i) n.toNat)+1<=1000000000/\True)/\∃ (i':{ k:Nat // k<=Int.toNat m }),Int.toNat m-aA i'<Int.toNat m-aA i/\IntKind.wrap IntKind.i64 (aB (aA i)+1)=aB (aA i')/\DW (aA i) n.toNat++a6F (aA i_1)::aP (List Rat)=DW (aA i') n.toNat/\True)) (DW m.toNat n.toNat=DW (aA i) n.toNat)) (by kernel_rfl) ?_
 have hZ:(⟨false,0,[],[]⟩:aF)=cZ:=rfl
 dsimp only[aB,asT,aA,aP,Ty.den,Lf.den] at *
 simp only[hZ,Int.toNat_natCast,aQ,ay,au,og,ny,iI,nameAt,bZ,jV,lT,rowAt,jg,jf]
 have hp:0<=m/\m<=1000/\0<=n/\n<=1000:=hp
 obtain⟨m0,m1,n0,n1⟩:=hp
 refine fun i=>⟨fun h1 q=>⟨fun h2=>⟨⟨by unfold gX;omega,by simp[a6F];have:=q.2;omega⟩,⟨q.1+1,by omega⟩,by simp only;omega,by rw[cO (by omega) (by omega)];rfl,?_⟩,fun h2=>⟨by show (DW _ _).length+1<=_;unfold DW;rw[lT];have:=i.2;omega,⟨i.1+1,by omega⟩,by simp only;omega,by rw[cO (by omega) (by omega)];rfl,?_⟩⟩,fun h1=>?_⟩
 ·show List.replicate q.1 0++[((0:Int):Rat)]=List.replicate (q.1+1) 0
  rw[List.replicate_succ'];rfl
 ·have hq:q.1=n.toNat:=by have:=q.2;omega
  rw[hq]
  show tab i.1 n.toNat (fun _ _=>0)++[List.replicate n.toNat 0]=tab (i.1+1) n.toNat (fun _ _=>0)
  unfold tab
  rw[Dn]
  simp
  apply List.ext_getElem<;>simp
 ·have hi:i.1=m.toNat:=by have:=i.2;omega
  rw[hi]
def trU (a:MQ) (r c:Nat):MQ:=tab (wdM a) a.length fun i j=>if j<r\/j=r/\i<c then ent a j i else 0
noncomputable def c0w:Ctr:=⟨[tM],[tM],fun x=>okM x.1,fun x=>(trM x.1,())⟩
theorem b2r:aT Tryz.prog 71 c0w:=by
 refine bY (nil0.an b2s) ⟨[],[],[]⟩ Tryz.func71 rfl (by decide) (fun x=>[.inv {k:Nat // k<=(show MQ from x.1).length} (fun r=>[(4,.val tI (r.1:Int))]) (fun r=>[(12,.mat 39 47 tQ none (trU (show MQ from x.1) r.1 0) 0)]) (fun r=>(show MQ from x.1).length-r.1) ⟨0,by omega⟩ (fun r=>[.inv {k:Nat // k<=wdM (show MQ from x.1)} (fun c=>[(5,.val tI (c.1:Int))]) (fun c=>[(12,.mat 39 47 tQ none (trU (show MQ from x.1) r.1 c.1) 0)]) (fun c=>wdM (show MQ from x.1)-c.1) ⟨0,by omega⟩ (fun _=>[])])]) (fun x hp=>?_)
 obtain⟨a,u⟩:=x
 change List (List Rat) at a
 refine dM (let A₀:=(List.getD a 0 (aP Rat)).length;(asT Int 0<=0/\0<aB a.length/\(0<=aB A₀/\aB A₀<=1000/\0<=aB a.length/\aB a.length<=1000)/\True)/\(asT Int 0=0/\DW (aB A₀).toNat (aB a.length).toNat=trU a 0 0/\True)/\∀ (i:{ k:Nat // k<=List.length a }),let A₁:=(List.getD a (aB (aA i)).toNat (aP Rat));asT Bool true=true/\ifB (decide (aB (aA i)<aB a.length)) ((asT Int 0=0/\trU a (aA i) 0=trU a (aA i) 0/\True)/\∀ (i_1:{ k:Nat // k<=wdM a }),let fO:=(trU a (aA i) (aA i_1));let jX:=(aB (aA i_1)).toNat;let A₂:=(rowAt fO (nameAt none jX));asT Bool true=true/\(0<=aB (aA i)/\aB (aA i)<aB a.length/\True)/\ifB (decide (aB (aA i_1)<aB A₁.length)) ((0<=aB (aA i_1)/\aB (aA i_1)<aB (iI none fO)/\Int.toNat (aB (aA i_1))<iI none fO/\0<=aB (aA i)/\aB (aA i)<aB a.length/\0<=aB (aA i_1)/\aB (aA i_1)<aB A₁.length/\0<=aB (aA i)/\aB (aA i)<aB A₂.length/\Int.toNat (aB (aA i))<List.length A₂/\True)/\∃ (i':{ k:Nat // k<=wdM a }),wdM a-aA i'<wdM a-aA i_1/\IntKind.wrap IntKind.i64 (aB (aA i_1)+1)=aB (aA i')/\List.set fO (nameAt none jX) (List.set A₂ (aB (aA i)).toNat (List.getD A₁ jX 0))=trU a (aA i) (aA i')/\True) (∃ (i':{ k:Nat // k<=List.length a }),List.length a-aA i'<List.length a-aA i/\IntKind.wrap IntKind.i64 (aB (aA i)+1)=aB (aA i')/\trU a (aA i) (aA i_1)=trU a (aA i') 0/\True)) (True/\trU a (aA i) 0=trM a/\True)) (by kernel_rfl) ?_
 have hZ:(⟨false,0,[],[]⟩:aF)=cZ:=rfl
 dsimp only[aB,asT,aA,aP,Ty.den,Lf.den] at *
 simp only[hZ,Int.toNat_natCast,aQ,ay,au,og,ny,iI,nameAt,bZ,jV,lT,rowAt,jg,jf]
 have ha:okM a:=hp
 have q1:=ha.r64
 have q2:=ha.c64
 have q5:=ha.pos
 rw[show (a.getD 0 []).length=wdM a from rfl]
 refine⟨⟨Int.le_refl 0,by omega,by omega,by omega,by omega,by omega⟩,AX fun p _ q _=>(jk (by omega)).symm,fun i=>⟨fun h1 c=>?_,fun h1=>AX fun p _ q hq=>jq (by omega)⟩⟩
 have hi:i.1<a.length:=by omega
 rw[ha.row hi]
 refine⟨⟨by omega,h1⟩,fun h2=>?_,fun h2=>⟨⟨i.1+1,by omega⟩,by simp only;omega,by rw[cO (by omega) (by omega)];rfl,AX fun p hp q _=>?_⟩⟩
 ·have hc:c.1<wdM a:=by omega
  have e1:(trU a i.1 c.1).length=wdM a:=lT
  have e2:((trU a i.1 c.1).getD c.1 []).length=a.length:=by unfold trU;rw[GI hc];simp
  rw[e1,e2]
  refine⟨⟨by omega,by omega,hc,by omega,by omega,by omega,by omega,by omega,by omega,hi⟩,⟨c.1+1,by omega⟩,by simp only;omega,by rw[cO (by omega) (by omega)];rfl,(b0i _ hc).trans (AX fun p _ q _=>?_)⟩
  show (if p=c.1/\q=i.1 then ent a i.1 c.1 else if q<i.1\/q=i.1/\p<c.1 then ent a q p else 0)=if q<i.1\/q=i.1/\p<c.1+1 then ent a q p else 0
  by_cases e:p=c.1/\q=i.1
  ·rw[jq e,jq (by omega),e.1,e.2]
  ·rw[jk e]
   by_cases e3:q<i.1\/q=i.1/\p<c.1
   ·rw[jq e3,jq (by omega)]
   ·rw[jk e3,jk (by omega)]
 ·show (if q<i.1\/q=i.1/\p<c.1 then ent a q p else 0)=if q<i.1+1\/q=i.1+1/\p<0 then ent a q p else 0
  by_cases e3:q<i.1\/q=i.1/\p<c.1
  ·rw[jq e3,jq (by omega)]
  ·rw[jk e3,jk (by omega)]
noncomputable def c0n:Ctr:=⟨[tZ,tZ],[tQ],fun x=>isz x.1<=390000000/\isz x.2.1<=390000000/\(show Int from x.2.1)≠0,fun x=>(Rat.divInt x.1 x.2.1,())⟩
theorem b2c:aT Tryz.prog 162 c0n:=by
 intro F w vs x hF hvs hp
 obtain⟨v,vs',rfl,h1,u,vs'',rfl,h2,h3⟩:=hvs
 have h3:vs''=[]:=h3
 subst h3
 refine(pF v u x.1 x.2.1 w (pO h1) (pO h2) (iq hp.1 (by omega)) (iq hp.2.1 (by omega)) hp.2.2).mono ?_
 rintro e w' ⟨r,rfl,hr,hb⟩
 exact⟨_,rfl,VY hr,hb⟩
theorem b8c:aT Tryz.prog 77 (b8O 1000000000 sgn):=(b0M fun v x w h1 l1=>mP v x w h1 l1)
noncomputable def b8J:Ctr:=⟨[tZ,tZ],[tR,tI],fun x=>isz x.1<=390000000/\isz x.2.1<=390000000,fun x=>newT 14 x.1 x.2.1⟩
theorem a6n:aT Tryz.prog 160 b8J:=by
 refine bY ((nil0.ad b2c).ad b8c) ⟨[4],[],[]⟩ Tryz.func160 rfl (by decide) (fun x=>[]) (fun x hp=>?_)
 obtain⟨x,y,u⟩:=x
 change Int at x
 change Int at y
 refine dM ((isz y<=1000000000/\True)/\ifB (sgn y==0) (True/\cZ=Prod.fst (newT 14 x y)/\True/\14=Prod.fst (newT 14 x y).2/\True) (((isz x<=390000000/\isz y<=390000000/\y≠0)/\True)/\True/\kL (Rat.divInt x y)=Prod.fst (newT 14 x y)/\True/\0=Prod.fst (newT 14 x y).2/\True)) (by kernel_rfl) ?_
 have hZ:(⟨false,0,[],[]⟩:aF)=cZ:=rfl
 try simp only[aQ,ay,au]
 try dsimp only[aB,asT,aA,aP,Ty.den,Lf.den] at *
 try simp only[hZ,Int.toNat_natCast,aQ,ay,au,og,ny,jg,jf]
 try simp only[iH,iG,List.all_cons,List.all_nil,qh,jc,jr,je,qo,ne_eq,aj,jo,jm,jv,oh,yw,qp,yx,og,ny,lg,ji,List.length_cons,List.length_nil]
 obtain⟨l1,l2⟩:isz x<=390000000/\isz y<=390000000:=hp
 refine⟨by omega,fun h=>?_,fun h=>?_⟩
 ·have h0:y=0:=Du.1 (show sgn y=0 by simpa using h)
  unfold newT;rw[jq h0];exact⟨rfl,rfl⟩
 ·have h0:y≠0:=fun e=>by rw[e] at h;exact absurd h (by decide)
  refine⟨⟨l1,l2,h0⟩,?_⟩
  unfold newT;rw[jk h0];exact⟨rfl,rfl⟩
theorem b8d:aT Tryz.prog 161 (cZ2 fun x y=>x*y):=(XC fun v u x y w h1 h2 l1 l2=>kN v u x y w h1 h2 l1 l2)
theorem b8e:aT Tryz.prog 78 (cQ1 (fun x=>rsz x<=999999999) (fun x=>x)):=(a6S fun v x w a h=>jA v x w a h)
noncomputable def c0d:Ctr:=⟨[tQ,tQ],[tR,tI],fun x=>rsz x.1<=190000000/\rsz x.2.1<=190000000,fun x=>SE 14 x.1 x.2.1⟩
theorem a9r:aT Tryz.prog 74 c0d:=by
 refine bY (((nil0.ad a6n).ad b8d).ad b8e) ⟨[4,6,7],[],[]⟩ Tryz.func74 rfl (by decide) (fun x=>[]) (fun x hp=>?_)
 obtain⟨x,y,u⟩:=x
 change Rat at x
 change Rat at y
 refine dM ((rsz x<=999999999/\True)/\(rsz y<=999999999/\True)/\((isz (Rat.num x)<=1000000000/\isz (aB (Rat.den y))<=1000000000)/\(isz (aB (Rat.den x))<=1000000000/\isz (Rat.num y)<=1000000000)/\(isz (Rat.num x*aB (Rat.den y))<=390000000/\isz (aB (Rat.den x)*Rat.num y)<=390000000)/\True)/\True/\Prod.fst (newT 14 (Rat.num x*aB (Rat.den y)) (aB (Rat.den x)*Rat.num y))=Prod.fst (SE 14 x y)/\True/\Prod.fst (newT 14 (Rat.num x*aB (Rat.den y)) (aB (Rat.den x)*Rat.num y)).2=Prod.fst (SE 14 x y).2/\True) (by kernel_rfl) ?_
 have hZ:(⟨false,0,[],[]⟩:aF)=cZ:=rfl
 try simp only[aQ,ay,au]
 try dsimp only[aB,asT,aA,aP,Ty.den,Lf.den] at *
 try simp only[hZ,Int.toNat_natCast,aQ,ay,au,og,ny,jg,jf]
 try simp only[iH,iG,List.all_cons,List.all_nil,qh,jc,jr,je,qo,ne_eq,aj,jo,jm,jv,oh,yw,qp,yx,og,ny,lg,ji,List.length_cons,List.length_nil]
 obtain⟨l1,l2⟩:rsz x<=190000000/\rsz y<=190000000:=hp
 have hb1:=dO x
 have hb2:=dI x
 have hb3:=dO y
 have hb4:=dI y
 have hc1:=dK x.num y.den
 have hc4:=dK x.den y.num
 have e:newT 14 (x.num*y.den) (x.den*y.num)=SE 14 x y:=by
  unfold newT SE
  by_cases hy:y=0
  ·rw[jq hy,jq (by rw[hy];simp)]
  ·have hn0:y.num≠0:=fun h=>hy ((qR y).1 h)
   have hd0:(x.den:Int)*y.num≠0:=fun h=>by
    have:=x.den_nz
    rcases Int.mul_eq_zero.1 h with h|h<;>omega
   rw[jk hy,jk hd0,MN]
 rw[e]
 exact⟨by omega,by omega,⟨⟨by omega,by omega⟩,⟨by omega,by omega⟩,by omega,by omega⟩,rfl,rfl⟩
theorem ZK {α:Type}:∀ {l:List α},l.length=3->∃ a b c,l=[a,b,c]
 | [a,b,c],_=>⟨a,b,c,rfl⟩
theorem m33.form {K:Nat} {f:MQ} (h:m33 K f):∃ a b c d e g i j k:Rat,f=[[a,b,c],[d,e,g],[i,j,k]]:=by
 have l1:=h.1.1
 have l2:=h.1.2.1
 obtain⟨r,s,t,rfl⟩:=ZK l1
 obtain⟨a,b,c,rfl⟩:=ZK (l2 r (by simp))
 obtain⟨d,e,g,rfl⟩:=ZK (l2 s (by simp))
 obtain⟨i,j,k,rfl⟩:=ZK (l2 t (by simp))
 exact⟨a,b,c,d,e,g,i,j,k,rfl⟩
theorem m33.flat {K:Nat} {f:MQ} (h:m33 K f):f.flatten.length=9/\∀ q ∈ f.flatten,rsz q<=K:=by
 obtain⟨a,b,c,d,e,g,i,j,k,rfl⟩:=h.form
 refine⟨rfl,fun q hq=>?_⟩
 have hq:q ∈ [a,b,c,d,e,g,i,j,k]:=hq
 have h2:∀ x y:Nat,x<3->y<3->rsz (ent [[a,b,c],[d,e,g],[i,j,k]] x y)<=K:=fun x y hx hy=>h.2 x hx y hy
 simp only[qj,Df,or_false] at hq
 rcases hq with rfl|rfl|rfl|rfl|rfl|rfl|rfl|rfl|rfl
 ·exact h2 0 0 (by omega) (by omega)
 ·exact h2 0 1 (by omega) (by omega)
 ·exact h2 0 2 (by omega) (by omega)
 ·exact h2 1 0 (by omega) (by omega)
 ·exact h2 1 1 (by omega) (by omega)
 ·exact h2 1 2 (by omega) (by omega)
 ·exact h2 2 0 (by omega) (by omega)
 ·exact h2 2 1 (by omega) (by omega)
 ·exact h2 2 2 (by omega) (by omega)
theorem m33.rows {K:Nat} {f:MQ} (h:m33 K f):f.length=3/\∀ i,i<3->(f.getD i []).length=3/\∀ j,j<3->rsz (lv (f.getD i []) j)<=K:=⟨h.1.len,fun i hi=>⟨h.1.2.1 _ (mM (by rw[h.1.len];exact hi)),fun j hj=>h.2 i (by rw[h.1.len];exact hi) j (by rw[h.1.wd];exact hj)⟩⟩
theorem cdI.mul {a b:Int} (ha:cdI a) (hb:cdI b):(a*b).natAbs<=1099511627776:=by
 rw[Int.natAbs_mul]
 exact iq (vw (show a.natAbs<=1048576 by obtain⟨x,y⟩:=ha;omega) (show b.natAbs<=1048576 by obtain⟨x,y⟩:=hb;omega)) (by omega)
noncomputable def b8B:Ctr:=⟨[tM],[.list tQ],fun x=>(show MQ from x.1).length<=1000/\∀ r ∈ (show MQ from x.1),r.length<=1000,fun x=>((show MQ from x.1).flatten,())⟩
theorem a7o:aT Tryz.prog 119 b8B:=by
 refine bY Lib.nil ⟨[],[],[]⟩ Tryz.func119 rfl (by decide) (fun x=>[.inv {k:Nat // k<=(show MQ from x.1).length} (fun k=>[(8,.val tI (k.1:Int)),(3,.own 14 0),(14,.any)]) (fun k=>[(14,.row 47 tQ (((show MQ from x.1).take k.1).flatten) 0)]) (fun k=>(show MQ from x.1).length-k.1) ⟨0,by omega⟩ (fun _=>[])]) (fun x hp=>?_)
 obtain⟨f,u⟩:=x
 change List (List Rat) at f
 refine dM ((asT Int 0=0/\(True/\asT (List Rat) (aP Rat)=aP Rat)/\(asT (List Rat) (aP Rat)=aP Rat/\0=0/\asT Bool true=true)/\True)/\∀ (i:{ k:Nat // k<=List.length f }),asT Bool true=true/\ifB (decide (aB (aA i)<aB f.length)) ((0<=aB (aA i)/\aB (aA i)<aB f.length/\True)/\(List.length (List.flatten (List.take (aA i) f))+List.length (List.getD f (aB (aA i)).toNat (aP Rat))<=1000000000/\True)/\∃ (i':{ k:Nat // k<=List.length f }),List.length f-aA i'<List.length f-aA i/\IntKind.wrap IntKind.i64 (aB (aA i)+1)=aB (aA i')/\List.flatten (List.take (aA i) f)++List.getD f (aB (aA i)).toNat (aP Rat)=List.flatten (List.take (aA i') f)/\True) (True/\List.flatten (List.take (aA i) f)=List.flatten f/\True)) (by kernel_rfl) ?_
 have hZ:(⟨false,0,[],[]⟩:aF)=cZ:=rfl
 try simp only[aQ,ay,au]
 try dsimp only[aB,asT,aA,aP,Ty.den,Lf.den] at *
 try simp only[hZ,Int.toNat_natCast,aQ,ay,au,og,ny,jg,jf]
 try simp only[iH,iG,List.all_cons,List.all_nil,qh,jc,jr,je,qo,ne_eq,aj,jo,jm,jv,oh,yw,qp,yx,og,ny,lg,ji,List.length_cons,List.length_nil]
 obtain⟨hl,hr⟩:f.length<=1000/\∀ r ∈ f,r.length<=1000:=hp
 have hf:∀ k,(f.take k).flatten.length<=1000000:=fun k=>by
  have h1:=LX (K:=1000) (x:=f.take k) fun r h=>hr r (Aw h)
  have h2:(f.take k).length<=1000:=by rw[jy];omega
  omega
 exact fun i=>⟨fun h1=>⟨⟨by omega,h1⟩,by have:=hf i.1;have:(f.getD i.1 []).length<=1000:=bF hr (by omega);omega,⟨i.1+1,by omega⟩,by simp only;omega,by rw[cO (by omega) (by omega)];rfl,(IJ (by omega)).symm⟩,fun h1=>by rw[jh (by omega)]⟩
def qB (p:dQ):List Int:=[p.2.1.1*p.1.1,p.2.1.1*p.1.2.1,p.2.1.1*1,p.2.1.2.1*p.1.1,p.2.1.2.1*p.1.2.1,p.2.1.2.1*1,1*p.1.1,1*p.1.2.1,1*1]
theorem b2h (p:dQ) {k c:Nat} (hk:k<3) (hc:c<3):(qB p).getD (3*k+c) 0=(DR p.2.1).getD k 0*(DR p.1).getD c 0:=by
 have h1:k=0\/k=1\/k=2:=by omega
 have h2:c=0\/c=1\/c=2:=by omega
 rcases h1 with rfl|rfl|rfl<;>rcases h2 with rfl|rfl|rfl<;>rfl
theorem YZ {p:dQ} (h1:cdP p.1) (h2:cdP p.2.1):∀ n ∈ qB p,n.natAbs<=1099511627776:=fun n hn=>by
 have o:cdI 1:=⟨by omega,by omega⟩
 simp only[qB,qj,Df,or_false] at hn
 rcases hn with rfl|rfl|rfl|rfl|rfl|rfl|rfl|rfl|rfl
 ·exact h2.1.mul h1.1
 ·exact h2.1.mul h1.2
 ·exact h2.1.mul o
 ·exact h2.2.mul h1.1
 ·exact h2.2.mul h1.2
 ·exact h2.2.mul o
 ·exact o.mul h1.1
 ·exact o.mul h1.2
 ·exact o.mul o
noncomputable def b8M:Ctr:=⟨[KR],[.list tI],fun x=>cdP x.1.1/\cdP x.1.2.1,fun x=>(qB x.1,())⟩
theorem a9F:aT Tryz.prog 122 b8M:=by
 refine bY Lib.nil ⟨[],[],[]⟩ Tryz.func122 rfl (by decide) (fun x=>[.inv {k:Nat // k<=3} (fun k=>[(22,.val tI (k.1:Int)),(5,.own 38 0),(38,.any)]) (fun k=>[(38,.row 3 tI ((qB (show dQ from x.1)).take (3*k.1)) 0)]) (fun k=>3-k.1) ⟨0,by omega⟩ (fun k=>[
  .inv {c:Nat // c<=3} (fun c=>[(25,.val tI (c.1:Int)),(5,.own 38 0),(38,.any)]) (fun c=>[(38,.row 3 tI ((qB (show dQ from x.1)).take (3*k.1+c.1)) 0)]) (fun c=>3-c.1) ⟨0,by omega⟩ (fun _=>[])])]) (fun x hp=>?_)
 obtain⟨p,u⟩:=x
 change dQ at p
 refine dM (let A₀:=(asT Int p.2.1.1::asT Int p.2.1.2.1::1::aP Int);let A₁:=(asT Int p.1.1::asT Int p.1.2.1::1::aP Int);(asT Int 0=0/\(True/\asT (List Int) (aP Int)=aP Int)/\(asT (List Int) (aP Int)=aP Int/\0=0/\asT Bool true=true)/\True)/\∀ (i:{ k:Nat // k<=3 }),asT Bool true=true/\ifB (decide (aB (aA i)<3)) ((asT Int 0=0/\List.take (3*aA i) (qB p)=List.take (3*aA i+0) (qB p)/\True)/\∀ (i_1:{ c:Nat // c<=3 }),let A₂:=(List.getD A₀ (aB (aA i)).toNat 0*List.getD A₁ (aB (aA i_1)).toNat 0);let fO:=(3*aA i+aA i_1);asT Bool true=true/\ifB (decide (aB (aA i_1)<3)) ((0<=aB (aA i)/\aB (aA i)<aB A₀.length/\0<=aB (aA i_1)/\aB (aA i_1)<aB A₁.length/\List.length (List.take fO (qB p))+List.length (IntKind.wrap IntKind.i64 A₂::aP Int)<=1000000000/\True)/\∃ (i':{ c:Nat // c<=3 }),3-aA i'<3-aA i_1/\IntKind.wrap IntKind.i64 (aB (aA i_1)+1)=aB (aA i')/\List.take fO (qB p)++IntKind.wrap IntKind.i64 A₂::aP Int=List.take (3*aA i+aA i') (qB p)/\True) (∃ (i':{ k:Nat // k<=3 }),3-aA i'<3-aA i/\IntKind.wrap IntKind.i64 (aB (aA i)+1)=aB (aA i')/\List.take fO (qB p)=List.take (3*aA i') (qB p)/\True)) (True/\List.take (3*aA i) (qB p)=qB p/\True)) (by kernel_rfl) ?_
 have hZ:(⟨false,0,[],[]⟩:aF)=cZ:=rfl
 try simp only[aQ,ay,au]
 try dsimp only[aB,asT,aA,aP,Ty.den,Lf.den] at *
 try simp only[hZ,Int.toNat_natCast,aQ,ay,au,og,ny,jg,jf]
 try simp only[iH,iG,List.all_cons,List.all_nil,qh,jc,jr,je,qo,ne_eq,aj,jo,jm,jv,oh,yw,qp,yx,og,ny,lg,ji,List.length_cons,List.length_nil]
 obtain⟨h1,h2⟩:cdP p.1/\cdP p.2.1:=hp
 have hl:(qB p).length=9:=rfl
 refine fun i=>⟨fun g1=>⟨rfl,fun c=>⟨fun g2=>?_,fun g2=>⟨⟨i.1+1,by omega⟩,by simp only;omega,by rw[cO (by omega) (by omega)];rfl,?_⟩⟩⟩,fun g1=>?_⟩
 ·have hi:i.1<3:=by omega
  have hc:c.1<3:=by omega
  have hn:3*i.1+c.1<(qB p).length:=by rw[hl];omega
  have e:[p.2.1.1,p.2.1.2.1,1].getD i.1 0*[p.1.1,p.1.2.1,1].getD c.1 0=(qB p).getD (3*i.1+c.1) 0:=(b2h p hi hc).symm
  have hz:=bF (YZ h1 h2) hn (d:=0)
  refine⟨⟨by omega,by omega,by omega,by omega,by rw[jy];omega⟩,⟨c.1+1,by omega⟩,by simp only;omega,by rw[cO (by omega) (by omega)];rfl,?_⟩
  rw[e,cO (by omega) (by omega)]
  show _=List.take (3*i.1+c.1+1) (qB p)
  rw[Dq,dh,dn hn];rfl
 ·show _=List.take (3*(i.1+1)) (qB p)
  rw[show 3*i.1+c.1=3*(i.1+1) by have:=c.2;omega]
 ·rw[jh (by rw[hl];omega)]
theorem JL:aT Tryz.prog 58 (cIQ gX (fun i=>(i:Rat))):=by
 refine bY (nil0.ad b3z) ⟨[2],[],[]⟩ Tryz.func58 rfl (by decide) (fun x=>[]) (fun x hp=>?_)
 obtain⟨n,u⟩:=x
 change Int at n
 refine dM ((gX n/\True)/\True/\fK n=fK n/\True) (by kernel_rfl) ?_
 have hZ:(⟨false,0,[],[]⟩:aF)=cZ:=rfl
 try simp only[aQ,ay,au]
 try dsimp only[aB,asT,aA,aP,Ty.den,Lf.den] at *
 try simp only[hZ,Int.toNat_natCast,aQ,ay,au,og,ny,jg,jf]
 try simp only[iH,iG,List.all_cons,List.all_nil,qh,jc,jr,je,qo,ne_eq,aj,jo,jm,jv,oh,yw,qp,yx,og,ny,lg,ji,List.length_cons,List.length_nil]
 exact hp
def xP (x y:LQ'):Prop:=x.length=y.length/\x.length<=64/\∀ i,i<x.length->rsz (lv x i)<=10000/\rsz (lv y i)<=10000
theorem LU {x y:LQ'} {A B:Nat} {k:Nat} (h:∀ i,i<k->rsz (lv x i)<=A/\rsz (lv y i)<=B):rsz (fE x y k)<=k*(A+B+1)+1 :=
 ZH (K:=A+B) (f:=fun i=>lv x i*lv y i) k (fun i hi=>by
  have ⟨a,b⟩:=h i hi
  have:=nT (lv x i) (lv y i);show rsz (lv x i*lv y i)<=_;omega)
theorem xP.sz {x y:LQ'} (h:xP x y) {k:Nat} (hk:k<=x.length):rsz (fE x y k)<=2000000:=by
 have h1:=LU (x:=x) (y:=y) (A:=10000) (B:=10000) (k:=k) fun i hi=>h.2.2 i (by omega)
 have h2:=h.2.1
 have:k*20001<=64*20001:=vw (by omega) (by omega)
 omega
noncomputable def b8y:Ctr:=⟨[.list tQ,.list tQ],[tQ],fun x=>xP x.1 x.2.1,fun x=>(fE x.1 x.2.1 (show LQ' from x.1).length,())⟩
theorem a7l:aT Tryz.prog 18 b8y:=by
 refine bY (((nil0.ad b0u).ad a3k).ad JL) ⟨[4,5],[],[]⟩ Tryz.func18 rfl (by decide) (fun x=>[.inv {k:Nat // k<=(show LQ' from x.1).length} (fun k=>[(10,.val tI (k.1:Int))]) (fun k=>[(4,.box [⟨tR,cZ⟩]),(5,.box [⟨tQ,fE x.1 x.2.1 k.1⟩])]) (fun k=>(show LQ' from x.1).length-k.1) ⟨0,by omega⟩ (fun _=>[])]) (fun x hp=>?_)
 obtain⟨x,y,u⟩:=x
 change List Rat at x
 change List Rat at y
 refine dM ((gX 0/\True)/\(asT Int 0=0/\asT aF cZ=cZ/\fK 0=fE x y 0/\True)/\∀ (i:{ k:Nat // k<=List.length x }),asT Bool true=true/\ifB (decide (aB (aA i)<aB x.length)) ((0<=aB (aA i)/\aB (aA i)<aB x.length/\0<=aB (aA i)/\aB (aA i)<aB y.length/\s19 (List.getD x (aB (aA i)).toNat 0) (List.getD y (aB (aA i)).toNat 0)/\s19 (fE x y (aA i)) (List.getD x (aB (aA i)).toNat 0*List.getD y (aB (aA i)).toNat 0)/\True)/\∃ (i':{ k:Nat // k<=List.length x }),List.length x-aA i'<List.length x-aA i/\IntKind.wrap IntKind.i64 (aB (aA i)+1)=aB (aA i')/\asT aF cZ=cZ/\fE x y (aA i)+List.getD x (aB (aA i)).toNat 0*List.getD y (aB (aA i)).toNat 0=fE x y (aA i')/\True) (True/\fE x y (aA i)=fE x y x.length/\True)) (by kernel_rfl) ?_
 have hZ:(⟨false,0,[],[]⟩:aF)=cZ:=rfl
 try simp only[aQ,ay,au]
 try dsimp only[aB,asT,aA,aP,Ty.den,Lf.den] at *
 try simp only[hZ,Int.toNat_natCast,aQ,ay,au,og,ny,jg,jf]
 try simp only[iH,iG,List.all_cons,List.all_nil,qh,jc,jr,je,qo,ne_eq,aj,jo,jm,jv,oh,yw,qp,yx,og,ny,lg,ji,List.length_cons,List.length_nil]
 have hp:xP x y:=hp
 have hs:=fun k (hk:k<=x.length)=>hp.sz hk
 obtain⟨hl,h64,hr⟩:=hp
 refine⟨⟨by omega,by omega⟩,rfl,fun i=>⟨fun h1=>?_,fun h1=>?_⟩⟩
 ·have hi:i.1<x.length:=by omega
  have a1:rsz (x.getD i.1 0)<=10000:=(hr i.1 hi).1
  have a2:rsz (y.getD i.1 0)<=10000:=(hr i.1 hi).2
  have a3:=hs i.1 i.2
  have a4:=nT (x.getD i.1 0) (y.getD i.1 0)
  exact⟨⟨by omega,h1,by omega,by omega,⟨by omega,by omega⟩,⟨by omega,by omega⟩⟩,⟨i.1+1,by omega⟩,by simp only;omega,by rw[cO (by omega) (by omega)];rfl,rfl⟩
 ·rw[show i.1=x.length by have:=i.2;omega]
def FQ (p:dQ):List Rat:=(qB p).map fun i=>fK i
def FU (f:MQ) (p:dQ):Rat:=fE (FQ p) f.flatten 9
theorem FT (p:dQ):(FQ p).length=9:=rfl
theorem b2i (p:dQ) {i:Nat} (hi:i<9):fK ((qB p).getD i 0)=(FQ p).getD i 0:=by
 unfold FQ
 rw[dh,dh,vk,dn (show i<(qB p).length from hi)];rfl
theorem a4w {p:dQ} (h1:cdP p.1) (h2:cdP p.2.1):∀ q ∈ FQ p,rsz q<=3:=fun q hq=>by
 obtain⟨n,hn,rfl⟩:=uq.mp hq
 have:=YZ h1 h2 n hn
 exact iq (a4B n) (Nat.add_le_add_right (qI (k:=2) (by unfold BB;omega)) 1)
theorem a4z {f:MQ} (hf:m33 100 f) {p:dQ} (h1:cdP p.1) (h2:cdP p.2.1):xP (FQ p) f.flatten:=⟨by rw[hf.flat.1,FT],by rw[FT];omega,fun i hi=>⟨iq (bF (a4w h1 h2) hi) (by omega),iq (bF hf.flat.2 (by rw[hf.flat.1];exact hi)) (by omega)⟩⟩
noncomputable def c0o:Ctr:=⟨[tM,KR],[tQ],fun x=>m33 100 x.1/\cdP x.2.1.1/\cdP x.2.1.2.1,fun x=>(FU x.1 x.2.1,())⟩
theorem b2o:aT Tryz.prog 43 c0o:=by
 refine bY (((((nil0.ad b0u).ad a3k).ad JL).ad a9F).ad a7o) ⟨[4,5],[],[]⟩ Tryz.func43 rfl (by decide) (fun x=>[.inv {k:Nat // k<=9} (fun k=>[(12,.val tI (k.1:Int))]) (fun k=>[(4,.box [⟨tR,cZ⟩]),(5,.box [⟨tQ,fE (FQ (show dQ from x.2.1)) (show MQ from x.1).flatten k.1⟩])]) (fun k=>9-k.1) ⟨0,by omega⟩ (fun _=>[])]) (fun x hp=>?_)
 obtain⟨f,p,u⟩:=x
 change List (List Rat) at f
 change dQ at p
 refine dM (let A₁:=p.2.1;let A₂:=p.1.2.1;let fO:=A₁.2.1;let jX:=p.1.1;let A₀:=(asT Int A₁.1*asT Int jX::asT Int A₁.1*asT Int A₂::asT Int A₁.1*1::asT Int fO*asT Int jX::asT Int fO*asT Int A₂::asT Int fO*1::1*asT Int jX::1*asT Int A₂::1*1::aP Int);(gX 0/\True)/\((cdP p.1/\cdP A₁)/\True)/\(asT Int 0=0/\asT aF cZ=cZ/\fK 0=fE (FQ p) (List.flatten f) 0/\True)/\∀ (i:{ k:Nat // k<=9 }),let jQ:=(aB (aA i)).toNat;asT Bool true=true/\ifB (decide (aB (aA i)<aB A₀.length)) ((0<=aB (aA i)/\aB (aA i)<aB A₀.length/\True)/\(gX (List.getD A₀ jQ 0)/\(List.length f<=1000/\∀ (r:List Rat),r ∈ f->List.length r<=1000)/\0<=aB (aA i)/\aB (aA i)<aB (List.flatten f).length/\s19 (fK (List.getD A₀ jQ 0)) (List.getD (List.flatten f) jQ 0)/\s19 (fE (FQ p) (List.flatten f) (aA i)) (fK (List.getD A₀ jQ 0)*List.getD (List.flatten f) jQ 0)/\True)/\∃ (i':{ k:Nat // k<=9 }),9-aA i'<9-aA i/\IntKind.wrap IntKind.i64 (aB (aA i)+1)=aB (aA i')/\asT aF cZ=cZ/\fE (FQ p) (List.flatten f) (aA i)+fK (List.getD A₀ jQ 0)*List.getD (List.flatten f) jQ 0=fE (FQ p) (List.flatten f) (aA i')/\True) (True/\fE (FQ p) (List.flatten f) (aA i)=FU f p/\True)) (by kernel_rfl) ?_
 have hZ:(⟨false,0,[],[]⟩:aF)=cZ:=rfl
 try simp only[aQ,ay,au]
 try dsimp only[aB,asT,aA,aP,Ty.den,Lf.den] at *
 try simp only[hZ,Int.toNat_natCast,aQ,ay,au,og,ny,jg,jf]
 try simp only[iH,iG,List.all_cons,List.all_nil,qh,jc,jr,je,qo,ne_eq,aj,jo,jm,jv,oh,yw,qp,yx,og,ny,lg,ji,List.length_cons,List.length_nil]
 obtain⟨hf,h1,h2⟩:m33 100 f/\cdP p.1/\cdP p.2.1:=hp
 have hd:=a4z hf h1 h2
 have hl:=hf.flat.1
 have hn:∀ n ∈ qB p,gX n:=fun n h=>by have:=YZ h1 h2 n h;exact⟨by omega,by omega⟩
 rw[show [p.2.1.1*p.1.1,p.2.1.1*p.1.2.1,p.2.1.1*1,p.2.1.2.1*p.1.1,p.2.1.2.1*p.1.2.1,p.2.1.2.1*1,1*p.1.1,1*p.1.2.1,1*1]=qB p from rfl]
 refine⟨⟨by omega,by omega⟩,⟨h1,h2⟩,rfl,fun i=>⟨fun h=>?_,fun h=>?_⟩⟩
 ·have hi:i.1<9:=by omega
  have b1:rsz ((FQ p).getD i.1 0)<=3:=bF (a4w h1 h2) hi
  have b2:rsz (f.flatten.getD i.1 0)<=100:=bF hf.flat.2 (by rw[hl];exact hi)
  have b3:=hd.sz (k:=i.1) (by rw[FT];omega)
  have b4:=nT ((FQ p).getD i.1 0) (f.flatten.getD i.1 0)
  have w0:gX ((qB p).getD i.1 0):=bF hn hi
  have hr:∀ r ∈ f,r.length<=1000:=fun r hr=>by have:=hf.1.2.1 r hr;omega
  have h3:=hf.1.len
  rw[b2i p hi,hl]
  exact⟨⟨by omega,h⟩,⟨w0,⟨by omega,hr⟩,by omega,by omega,⟨by omega,by omega⟩,⟨by omega,by omega⟩⟩,⟨i.1+1,by omega⟩,by simp only;omega,by rw[cO (by omega) (by omega)];rfl,rfl⟩
 ·rw[show i.1=9 by have:=i.2;omega];rfl
def QY (f:MQ) (p:dQ):List Rat:=[fE (f.getD 0 []) (fP p.1) 3,fE (f.getD 1 []) (fP p.1) 3,fE ((trM f).getD 0 []) (fP p.2.1) 3,fE ((trM f).getD 1 []) (fP p.2.1) 3]
def a6x (f:MQ) (p:dQ):Rat:=fE (QY f p) (QY f p) 4
def a1z (f:MQ) (p:dQ):aF × Int × Unit:=if a6x f p=0 then (cZ,13,()) else (kL (FU f p*FU f p / a6x f p),0,())
theorem MW {f:MQ} (hf:m33 100 f) {p:DX} (hp:cdP p) {i:Nat} (hi:i<3):xP (f.getD i []) (fP p)/\rsz (fE (f.getD i []) (fP p) 3)<=1000:=by
 obtain⟨h1,h2⟩:=hf.rows
 obtain⟨h3,h4⟩:=h2 i hi
 have h5:∀ j,j<3->rsz (lv (fP p) j)<=2:=fun j hj=>bF (GN hp) (by rw[nX];exact hj)
 refine⟨⟨by rw[h3,nX],by omega,fun j hj=>⟨iq (h4 j (by omega)) (by omega),iq (h5 j (by omega)) (by omega)⟩⟩,?_⟩
 exact iq (LU (A:=100) (B:=2) fun j hj=>⟨h4 j hj,h5 j hj⟩) (by omega)
noncomputable def c0u:Ctr:=⟨[tM,KR],[tR,tI],fun x=>m33 100 x.1/\cdP x.2.1.1/\cdP x.2.1.2.1,fun x=>a1z x.1 x.2.1⟩
theorem b2y:aT Tryz.prog 41 c0u:=by
 refine bY (((((((nil0.ad a3k).ad b8f).ad a9r).ad JL).ad a7l).ad b2o).ad b2r) ⟨[4,10,11],[],[]⟩ Tryz.func41 rfl (by decide) (fun x=>[]) (fun x hp=>?_)
 obtain⟨f,p,u⟩:=x
 change List (List Rat) at f
 change dQ at p
 refine dM (let fO:=p.2.1;let jX:=(List.getD (trM f) 0 (aP Rat));let jQ:=(List.getD (trM f) 1 (aP Rat));let xZ:=(List.getD f 0 (aP Rat));let CJ:=(List.getD f 1 (aP Rat));let RU:=(asT Int p.1.2.1);let WH:=(asT Int fO.2.1);let A₁:=(fK (asT Int fO.1)::fK WH::fK 1::aP Rat);let a5b:=(asT Int p.1.1);let A₂:=(fK a5b::fK RU::fK 1::aP Rat);let A₀:=(fE xZ A₂ xZ.length::fE CJ A₂ CJ.length::fE jX A₁ jX.length::fE jQ A₁ jQ.length::aP Rat);let a6H:=(fE A₀ A₀ A₀.length);let pI:=(SE 14 (FU f p*FU f p) a6H);(gX a5b/\gX RU/\gX 1/\gX (asT Int fO.1)/\gX WH/\gX 1/\True)/\(okM f/\True)/\(asT Int 0<=0/\0<aB f.length/\xP xZ A₂/\asT Int 0<=1/\1<aB f.length/\xP CJ A₂/\asT Int 0<=0/\0<aB (trM f).length/\xP jX A₁/\asT Int 0<=1/\1<aB (trM f).length/\xP jQ A₁/\True)/\((m33 100 f/\cdP p.1/\cdP fO)/\True)/\(s19 (FU f p) (FU f p)/\xP A₀ A₀/\(rsz (FU f p*FU f p)<=190000000/\rsz a6H<=190000000)/\True)/\ifB (Prod.fst pI.2 != 0) (True/\cZ=Prod.fst (a1z f p)/\True/\13=Prod.fst (a1z f p).2/\True) (True/\Prod.fst pI=Prod.fst (a1z f p)/\True/\0=Prod.fst (a1z f p).2/\True)) (by kernel_rfl) ?_
 have hZ:(⟨false,0,[],[]⟩:aF)=cZ:=rfl
 try simp only[aQ,ay,au]
 try dsimp only[aB,asT,aA,aP,Ty.den,Lf.den] at *
 try simp only[hZ,Int.toNat_natCast,aQ,ay,au,og,ny,jg,jf]
 try simp only[iH,iG,List.all_cons,List.all_nil,qh,jc,jr,je,qo,ne_eq,aj,jo,jm,jv,oh,yw,qp,yx,og,ny,lg,ji,List.length_cons,List.length_nil]
 obtain⟨hf,h1,h2⟩:m33 100 f/\cdP p.1/\cdP p.2.1:=hp
 have ht:=hf.tr
 have r0:=MW hf h1 (i:=0) (by omega)
 have r1:=MW hf h1 (i:=1) (by omega)
 have r2:=MW ht h2 (i:=0) (by omega)
 have r3:=MW ht h2 (i:=1) (by omega)
 have l0:=(hf.rows.2 0 (by omega)).1
 have l1:=(hf.rows.2 1 (by omega)).1
 have l2:=(ht.rows.2 0 (by omega)).1
 have l3:=(ht.rows.2 1 (by omega)).1
 have lf:=hf.rows.1
 have lt:=ht.rows.1
 have o:cdI 1:=⟨by omega,by omega⟩
 rw[show [fK p.1.1,fK p.1.2.1,fK 1]=fP p.1 from rfl,show [fK p.2.1.1,fK p.2.1.2.1,fK 1]=fP p.2.1 from rfl,l0,l1,l2,l3,lf,lt]
 have hr:rsz (FU f p)<=2000000:=(a4z hf h1 h2).sz (by rw[FT];omega)
 have hr2:=nT (FU f p) (FU f p)
 have s4:∀ q ∈ QY f p,rsz q<=1000:=fun q hq=>by
  simp only[QY,qj,Df,or_false] at hq
  rcases hq with rfl|rfl|rfl|rfl
  ·exact r0.2
  ·exact r1.2
  ·exact r2.2
  ·exact r3.2
 have hd:xP (QY f p) (QY f p):=⟨rfl,by show 4<=64;omega,fun i hi=>⟨iq (bF s4 hi) (by omega),iq (bF s4 hi) (by omega)⟩⟩
 rw[show [fE (f.getD 0 []) (fP p.1) 3,fE (f.getD 1 []) (fP p.1) 3,fE ((trM f).getD 0 []) (fP p.2.1) 3,fE ((trM f).getD 1 []) (fP p.2.1) 3]=QY f p from rfl]
 have q3:fE (QY f p) (QY f p) (0+1+1+1+1)=a6x f p:=rfl
 rw[q3]
 have b3:rsz (a6x f p)<=2000000:=hd.sz (k:=4) (by show 4<=4;omega)
 refine⟨⟨h1.1.word,h1.2.word,o.word,h2.1.word,h2.2.word,o.word⟩,(hf.ok (by omega)).1,⟨by omega,by omega,r0.1,by omega,by omega,r1.1,by omega,by omega,r2.1,by omega,by omega,r3.1⟩,⟨hf,h1,h2⟩,⟨by omega,hd,by omega,by omega⟩,?_⟩
 unfold SE a1z
 by_cases h0:a6x f p=0
 ·rw[jq h0,jq h0]
  exact⟨fun _=>⟨rfl,rfl⟩,fun h=>absurd h (by decide)⟩
 ·rw[jk h0,jk h0]
  exact⟨fun h=>absurd rfl h,fun _=>⟨rfl,rfl⟩⟩
end Go.Proofs.YtbkocjmmbkifjaaGreat
