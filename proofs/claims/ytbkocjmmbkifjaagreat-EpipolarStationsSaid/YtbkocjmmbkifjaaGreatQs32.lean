/-
  Lemmas for the theorem vstations28_holds, part 32 of 34.
-/
import Derived.Test.YtbkocjmmbkifjaaGreatQs31
namespace Go.Proofs.YtbkocjmmbkifjaaGreat
open Go Go.RowKit
set_option maxRecDepth 100000
set_option maxHeartbeats 4000000
set_option linter.unusedVariables false
set_option linter.unusedSimpArgs false
abbrev tAI:Ty:=.arr 3 (.arr 3 tI)
noncomputable def c4m:Ctr:=⟨[tAI],[tM],fun x=>VU x.1,fun x=>(rI x.1,())⟩
theorem b4y:aI Tryz.prog 56 c4m:=by
 refine aK (nil0.ad wM) ⟨[5],[],[]⟩ Tryz.func56 rfl (by decide) (fun x=>[.inv {k:Nat // k<=3} (fun k=>[(7,.val tI (k.1:Int)),(3,.own 21 0),(21,.any)]) (fun k=>[(21,.row 39 (.list tQ) ((rI (show RI from x.1)).take k.1) 0)]) (fun k=>3-k.1) ⟨0,by omega⟩ (fun _=>[])]) (fun x hp=>?_)
 obtain⟨r,u⟩:=x
 change RI at r
 refine aU (let A₀:=(0::List.replicate 2 0);(asT Int 0=0/\(True/\asT (List (List Rat)) (aF (List Rat))=aF (List Rat))/\(asT (List (List Rat)) (aF (List Rat))=aF (List Rat)/\0=0/\asT Bool true=true)/\True)/\∀ (i:{ k:Nat // k<=3 }),let A₁:=(List.getD r (aB (aA i)).toNat A₀);let aJ:=(List.getD A₁ (0+1+1) 0);let A₂:=(aO (List.getD A₁ 0 0)::aO (List.getD A₁ (0+1) 0)::aO aJ::aF Rat);asT Bool true=true/\ifB (decide (aB (aA i)<3)) ((0<=aB (aA i)/\aB (aA i)<3/\True)/\(aX (List.getD A₁ 0 0)/\aX (List.getD A₁ (0+1) 0)/\aX aJ/\List.length (List.take (aA i) (rI r))+List.length (A₂::aF (List Rat))<=1000000000/\True)/\∃ (i':{ k:Nat // k<=3 }),3-aA i'<3-aA i/\IntKind.wrap IntKind.i64 (aB (aA i)+1)=aB (aA i')/\List.take (aA i) (rI r)++A₂::aF (List Rat)=List.take (aA i') (rI r)/\True) (True/\List.take (aA i) (rI r)=rI r/\True)) (by kernel_rfl) ?_
 have hZ:(⟨false,0,[],[]⟩:aH)=bF:=rfl
 try simp only[aC,aj,ah]
 try dsimp only[aB,asT,aA,aF,Ty.den,Lf.den] at *
 try simp only[hZ,Int.toNat_natCast,aC,aj,ah,jh,jg,gy,bf]
 try simp only[bT,bP,List.all_cons,List.all_nil,jk,dw,ig,jf,jy,ne_eq,au,bg,dn,eu,jd,oq,jr,ou,jh,jg,iw,bn,List.length_cons,List.length_nil]
 obtain⟨hl,hr⟩:VU r:=hp
 have hL:(rI r).length=3:=eY
 refine fun i=>⟨fun h1=>?_,fun h1=>jv (by omega)⟩
 have hi:i.1<r.length:=by omega
 have e1:∀ d,r.getD i.1 d=r[i.1]:=fun d=>by rw[iy,jc hi];rfl
 obtain⟨g1,g2⟩:=hr r[i.1] (vk hi)
 have w:∀ j,j<3->aX (r[i.1].getD j 0):=fun j hj=>bU g2 (by omega)
 have e2:(rI r)[i.1]?=some [aO (r[i.1].getD 0 0),aO (r[i.1].getD 1 0),aO (r[i.1].getD 2 0)]:=by
  unfold rI tab
  rw[xk,Bf (by omega)]
  show some [aO ((r.getD i.1 []).getD 0 0),aO ((r.getD i.1 []).getD 1 0),aO ((r.getD i.1 []).getD 2 0)]=_
  rw[e1]
 rw[e1]
 refine⟨⟨by omega,h1⟩,⟨w 0 (by omega),w 1 (by omega),w 2 (by omega),by rw[ni];omega⟩,⟨i.1+1,by omega⟩,by simp only;omega,by rw[aP (by omega) (by omega)];rfl,?_⟩
 show _=List.take (i.1+1) (rI r)
 rw[Ai,e2];rfl
theorem b0p:aI Tryz.prog 69 c1T:=by
 refine aK (nil0.ad b4y) ⟨[],[],[]⟩ Tryz.func69 rfl (by decide) (fun x=>[]) (fun x hp=>?_)
 obtain⟨s,u⟩:=x
 change dN at s
 refine aU (let A₀:=s.2.2;let A₁:=A₀.2.1;(VU ((asT Int A₀.1::0::asT Int A₁.1::aF Int)::(0::asT Int A₀.1::asT Int A₁.2.1::aF Int)::(0::0::1::aF Int)::aF (List Int))/\True)/\True/\(aO (asT Int A₀.1)::aO 0::aO (asT Int A₁.1)::aF Rat)::(aO 0::aO (asT Int A₀.1)::aO (asT Int A₁.2.1)::aF Rat)::(aO 0::aO 0::aO 1::aF Rat)::aF (List Rat)=dO s/\True) (by kernel_rfl) ?_
 have hZ:(⟨false,0,[],[]⟩:aH)=bF:=rfl
 try simp only[aC,aj,ah]
 try dsimp only[aB,asT,aA,aF,Ty.den,Lf.den] at *
 try simp only[hZ,Int.toNat_natCast,aC,aj,ah,jh,jg,gy,bf]
 try simp only[bT,bP,List.all_cons,List.all_nil,jk,dw,ig,jf,jy,ne_eq,au,bg,dn,eu,jd,oq,jr,ou,jh,jg,iw,bn,List.length_cons,List.length_nil]
 obtain⟨w1,w2,w3⟩:aX s.2.2.1/\aX s.2.2.2.1.1/\aX s.2.2.2.1.2.1:=hp
 have w4:aX 0:=⟨by omega,by omega⟩
 have w5:aX 1:=⟨by omega,by omega⟩
 refine⟨⟨rfl,fun l hl=>?_⟩,(CU _).symm⟩
 simp only[qh,yw,Eo] at hl
 rcases hl with rfl|rfl|rfl
 all_goals
  refine⟨rfl,fun n hn=>?_⟩
  simp only[qh,yw,Eo] at hn
  rcases hn with rfl|rfl|rfl
  all_goals assumption
noncomputable def c4A:Ctr:=⟨[.list tM],[tM],fun x=>0<(show List MQ from x.1).length/\JE ((show List MQ from x.1).getD 0 []) ((show List MQ from x.1).drop 1),fun x=>(iI ((show List MQ from x.1).getD 0 []) ((show List MQ from x.1).drop 1),())⟩
theorem b5z:aI Tryz.prog 70 c4A:=by
 refine aK (nil0.ad YO) ⟨[],[],[]⟩ Tryz.func70 rfl (by decide) (fun x=>[.inv {k:Nat // k<=(show List MQ from x.1).length-1} (fun k=>[(12,.val tI (k.1:Int)),(3,.val tM (iI ((show List MQ from x.1).getD 0 []) (((show List MQ from x.1).drop 1).take k.1)))]) (fun k=>[]) (fun k=>(show List MQ from x.1).length-k.1) ⟨0,by omega⟩ (fun _=>[])]) (fun x hp=>?_)
 obtain⟨l,u⟩:=x
 change List MQ at l
 refine aU (let A₀:=(List.drop 1 (List.take (aB l.length).toNat l));let A₁:=(List.getD l 0 (aF (List Rat)));(asT Int 0<=0/\0<aB l.length/\True)/\(asT Int 0<=1/\1<=aB l.length/\aB l.length<=aB l.length/\True)/\(asT Int 0=0/\List.getD l 0 (aF (List Rat))=iI A₁ (List.take 0 (List.drop 1 l))/\True)/\∀ (i:{ k:Nat // k<=List.length l-1 }),let A₂:=(List.getD A₀ (aB (aA i)).toNat (aF (List Rat)));let aJ:=(List.take (aA i) (List.drop 1 l));asT Bool true=true/\ifB (decide (aB (aA i)<aB A₀.length)) ((0<=aB (aA i)/\aB (aA i)<aB A₀.length/\True)/\((okM (iI A₁ aJ)/\okM A₂/\wdM (iI A₁ aJ)=List.length A₂/\szM (iI A₁ aJ) 1000000/\szM A₂ 1000000)/\True)/\∃ (i':{ k:Nat // k<=List.length l-1 }),List.length l-aA i'<List.length l-aA i/\IntKind.wrap IntKind.i64 (aB (aA i)+1)=aB (aA i')/\mulM (iI A₁ aJ) A₂=iI A₁ (List.take (aA i') (List.drop 1 l))/\True) (True/\iI A₁ aJ=iI A₁ (List.drop 1 l)/\True)) (by kernel_rfl) ?_
 have hZ:(⟨false,0,[],[]⟩:aH)=bF:=rfl
 try simp only[aC,aj,ah]
 try dsimp only[aB,asT,aA,aF,Ty.den,Lf.den] at *
 try simp only[hZ,Int.toNat_natCast,aC,aj,ah,jh,jg,gy,bf]
 try simp only[bT,bP,List.all_cons,List.all_nil,jk,dw,ig,jf,jy,ne_eq,au,bg,dn,eu,jd,oq,jr,ou,jh,jg,iw,bn,List.length_cons,List.length_nil]
 obtain⟨h0,p1,p2,p3⟩:0<l.length/\JE (l.getD 0 []) (l.drop 1):=hp
 have hD:(l.drop 1).length=l.length-1:=zl
 rw[List.take_length]
 generalize l.getD 0 []=m at *
 generalize l.drop 1=D at *
 refine⟨⟨by omega,by omega⟩,⟨by omega,by omega,by omega⟩,rfl,fun i=>⟨fun h=>?_,fun h=>by rw[jv (by omega)]⟩⟩
 have hi:i.1<D.length:=by omega
 obtain⟨a1,a2,a3,a4⟩:=(p3 i.1 (by omega)).ok (ay _)
 obtain⟨b1,b2,b3,b4⟩:=(p2 _ (nJ (d:=[]) hi)).ok (ay _)
 refine⟨⟨by omega,h⟩,⟨a1,b1,a3.trans b4.symm,a2,b2⟩,⟨i.1+1,by omega⟩,by simp only;omega,by rw[aP (by omega) (by omega)];rfl,?_⟩
 show mulM _ _=iI m (List.take (i.1+1) D)
 rw[Ai,jc hi,iy,jc hi]
 unfold iI
 rw[List.foldl_append];rfl
noncomputable def c2k:Ctr:=⟨[.list tM],[tM],fun x=>0<(show List MQ from x.1).length/\JE ((show List MQ from x.1).getD 0 []) ((show List MQ from x.1).drop 1),fun x=>(stk ((show List MQ from x.1).getD 0 []).length (iI ((show List MQ from x.1).getD 0 []) ((show List MQ from x.1).drop 1)),())⟩
theorem b2K:aI Tryz.prog 70 c2k:=qJ b5z fun x _=>vW _ _
noncomputable def c2n:Ctr:=⟨[tM],[tM],fun x=>okM x.1,fun x=>(stk (show MQ from x.1).length (trM x.1),())⟩
theorem b2N:aI Tryz.prog 71 c2n:=qJ a6q fun x _=>vW _ _
noncomputable def b6H:Ctr:=⟨[tM],[tM],fun x=>m33 1000000 x.1/\∃ q ∈ (show MQ from x.1).flatten,q≠0,fun x=>(stk (show MQ from x.1).length (uQ (show MQ from x.1).flatten),())⟩
theorem a6V:aI Tryz.prog 39 b6H:=qJ a8R fun x _=>vW _ _
set_option maxHeartbeats 1000000
abbrev edm (a:MQ) (j:Nat):Mt:=(red a.length (ent a) j).1
abbrev edp (a:MQ) (j:Nat):List Nat:=(red a.length (ent a) j).2
def ekk (a:MQ) (j:Nat):Nat:=fk (edm a j) j (edp a j).length (a.length-(edp a j).length)
def esw (a:MQ) (j:Nat):Mt:=gB (edm a j) (edp a j).length (ekk a j)
def UL (m:Mt) (r c:Nat) (p:Rat):Mt:=fun i d=>if i=r/\d<c then m i d / p else m i d
def vO (m:Mt) (r j t:Nat):Mt:=fun i d=>if i≠r/\i<t then m i d-m i j*m r d else m i d
def pJ (m:Mt) (r j t c:Nat):Mt:=fun i d=>if i=t/\d<c then m i d-m i j*m r d else vO m r j t i d
def qV (a:MQ) (j c:Nat):Mt:=UL (esw a j) (edp a j).length c (edm a j (ekk a j) j)
def a3n (a:MQ) (j:Nat):Type:={p:Nat × Int // (p.2=-1/\(edp a j).length<=p.1/\p.1<=a.length/\∀ i,(edp a j).length<=i->i<p.1->edm a j i j=0)\/(∃ k:Nat,p.2=k/\p.1=k+1/\(edp a j).length<=k/\k<a.length/\edm a j k j≠0/\∀ i,(edp a j).length<=i->i<k->edm a j i j=0)}
abbrev er (a:MQ) (j:Nat) (m:Mt):Rho:=[(16,.mat 39 47 tQ none (tab a.length (wdM a) m) 0),(17,.row 3 tI (cZ (edp a j)) 0)]
theorem a6s (m:Mt) {r c d:Nat} (p:Rat) (h:c<=d) (i:Nat):UL m r c p i d=m i d:=ji (by omega)
theorem WQ (m:Mt) {r j t d:Nat}:vO m r j t t d=m t d:=ji (by omega)
theorem a9v (m:Mt) {r j t d:Nat}:vO m r j t r d=m r d:=ji (by simp)
theorem a7e (m:Mt) {r j t:Nat} (h:t=r\/m t j=0) (i d:Nat):vO m r j t i d=vO m r j (t+1) i d:=by
 unfold vO
 by_cases h1:i≠r/\i<t
 ·rw[jm h1,jm ⟨h1.1,by omega⟩]
 ·rw[ji h1]
  by_cases h2:i≠r/\i<t+1
  ·rw[jm h2]
   have h3:i=t:=by omega
   subst h3
   rcases h with h|h
   ·exact absurd h h2.1
   ·rw[h];grind
  ·rw[ji h2]
theorem a3C (m:Mt) {r j t:Nat} (i d:Nat):pJ m r j t 0 i d=vO m r j t i d:=ji (by omega)
theorem a7f (m:Mt) {r j t c:Nat} (ht:t≠r) {d:Nat} (hd:d<c) (i:Nat):pJ m r j t c i d=vO m r j (t+1) i d:=by
 unfold pJ
 by_cases h1:i=t
 ·subst h1;rw[jm ⟨rfl,hd⟩];unfold vO;rw[jm ⟨ht,by omega⟩]
 ·rw[ji (by omega)];unfold vO
  by_cases h2:i≠r/\i<t
  ·rw[jm h2,jm ⟨h2.1,by omega⟩]
  ·rw[ji h2,ji (by omega)]
theorem OO {b c:Bool}:(bif b then c else false)=true↔b=true/\c=true:=by cases b<;>simp
theorem b5e (a:MQ) (hp:okE a):let A₀:=(List.getD a 0 (aF Rat)).length;((List.length a<=1000/\∀ (r:List Rat),r ∈ a->List.length r<=1000)/\True)/\(asT Int 0=0/\a=tab a.length (wdM a) (edm a 0)/\asT (List Int) (aF Int)=aF Int/\True)/\∀ (i:{ j:Nat // j<=wdM a }),let A₁:=(cZ (edp a (aA i))).length;let A₂:=(tab a.length (wdM a) (edm a (aA i)));let aJ:=(edp a (aA i)).length;let aT:=(qV a (aA i) (wdM a));let bV:=(nameAt none (aB A₁).toNat);let dD:=(aB (aA i)).toNat;let eP:=(aB (aA i)<aB A₀);let dH:=(decide eP==true);let fZ:=(dH=true->dH=true/\True);asT Bool true=true/\(asT Int 0<=0/\0<aB a.length/\fZ/\fZ/\(dH=true->dH=true/\dH=true/\True)/\(decide eP=true->dH=true)/\True)/\ifB (bif decide eP then decide (aB A₁<aB a.length) else false) ((aB A₁=aB aJ/\asT Int (-1)=-1/\tab a.length (wdM a) (edm a (aA i))=tab a.length (wdM a) (edm a (aA i))/\cZ (edp a (aA i))=cZ (edp a (aA i))/\True)/\∀ (i_1:a3n a (aA i)),let iZ:=(aB (aA i_1).1<aB (aN none A₂));let oW:=(aA i_1).2.toNat;let gX:=(some (List.set (bJ none A₂) (aB A₁).toNat (nameAt none oW)));let dU:=(List.set (bJ gX A₂) oW bV);let kL:=(rowAt A₂ (nameAt (some dU) (aB A₁).toNat));let nU:=(aB (aA i_1).1+1);let rE:=(aB (aA i_1).1);let jO:=(rowAt A₂ (nameAt none rE.toNat));asT Bool true=true/\(((decide iZ==true)=true->(decide iZ==true)=true/\True)/\(decide iZ=true->(decide iZ==true)=true)/\True)/\ifB (bif decide iZ then decide (Prod.snd (aA i_1)<0) else false) ((0<=aB (aA i_1).1/\aB (aA i_1).1<aB (aN none A₂)/\Int.toNat rE<aN none A₂/\0<=aB (aA i)/\aB (aA i)<aB jO.length/\Int.toNat (aB (aA i))<List.length jO/\rsz (List.getD jO dD 0)<=190000000/\True)/\ifB (sgn (Rat.num (List.getD jO dD 0)) != 0) (∃ (i':a3n a (aA i)),List.length a+1-Prod.fst (aA i')<List.length a+1-Prod.fst (aA i_1)/\IntKind.wrap IntKind.i64 nU=aB (aA i').1/\aB (aA i_1).1=Prod.snd (aA i')/\tab a.length (wdM a) (edm a (aA i))=tab a.length (wdM a) (edm a (aA i))/\cZ (edp a (aA i))=cZ (edp a (aA i))/\True) (∃ (i':a3n a (aA i)),List.length a+1-Prod.fst (aA i')<List.length a+1-Prod.fst (aA i_1)/\IntKind.wrap IntKind.i64 nU=aB (aA i').1/\Prod.snd (aA i_1)=Prod.snd (aA i')/\tab a.length (wdM a) (edm a (aA i))=tab a.length (wdM a) (edm a (aA i))/\cZ (edp a (aA i))=cZ (edp a (aA i))/\True)) (ifB (decide (Prod.snd (aA i_1)<0)) (∃ (i':{ j:Nat // j<=wdM a }),wdM a-aA i'<wdM a-aA i/\IntKind.wrap IntKind.i64 (aB (aA i)+1)=aB (aA i')/\tab a.length (wdM a) (edm a (aA i))=tab a.length (wdM a) (edm a (aA i'))/\cZ (edp a (aA i))=cZ (edp a (aA i'))/\True) ((0<=Prod.snd (aA i_1)/\Prod.snd (aA i_1)<aB (aN none A₂)/\Int.toNat (aA i_1).2<aN none A₂/\0<=aB A₁/\aB A₁<aB (aN none A₂)/\Int.toNat (aB A₁)<aN none A₂/\0<=aB A₁/\aB A₁<aB (aN none A₂)/\Int.toNat (aB A₁)<aN none A₂/\0<=Prod.snd (aA i_1)/\Prod.snd (aA i_1)<aB (aN gX A₂)/\Int.toNat (aA i_1).2<aN gX A₂/\True)/\(0<=aB A₁/\aB A₁<aB (aN (some dU) A₂)/\Int.toNat (aB A₁)<aN (some dU) A₂/\0<=aB (aA i)/\aB (aA i)<aB kL.length/\Int.toNat (aB (aA i))<List.length kL/\True)/\(asT Int 0=0/\List.Nodup dU/\List.map (fun(i_2:Nat)=>List.getD A₂ i_2 (aF Rat)) dU=tab a.length (wdM a) (qV a (aA i) 0)/\cZ (edp a (aA i))=cZ (edp a (aA i))/\List.getD kL dD 0=edm a (aA i) (ekk a (aA i)) (aA i)/\True)/\∀ (i_2:{ c:Nat // c<=wdM a }),let uM:=(aB (aA i_2)).toNat;let C₁:=(qV a (aA i) (aA i_2));let fK:=(tab a.length (wdM a) C₁);let uN:=(rowAt fK bV).length;asT Bool true=true/\(0<=aB A₁/\aB A₁<aB (aN none fK)/\Int.toNat (aB A₁)<aN none fK/\True)/\ifB (decide (aB (aA i_2)<aB uN)) ((0<=aB A₁/\aB A₁<aB (aN none fK)/\Int.toNat (aB A₁)<aN none fK/\0<=aB A₁/\aB A₁<aB (aN none fK)/\Int.toNat (aB A₁)<aN none fK/\0<=aB (aA i_2)/\aB (aA i_2)<aB uN/\Int.toNat (aB (aA i_2))<List.length (rowAt fK bV)/\(s19 (List.getD (rowAt fK bV) uM 0) (edm a (aA i) (ekk a (aA i)) (aA i))/\edm a (aA i) (ekk a (aA i)) (aA i)≠0)/\0<=aB (aA i_2)/\aB (aA i_2)<aB uN/\Int.toNat (aB (aA i_2))<List.length (rowAt fK bV)/\True)/\∃ (i':{ c:Nat // c<=wdM a }),wdM a-aA i'<wdM a-aA i_2/\IntKind.wrap IntKind.i64 (aB (aA i_2)+1)=aB (aA i')/\List.set fK bV (List.set (rowAt fK bV) uM (List.getD (rowAt fK bV) uM 0 / edm a (aA i) (ekk a (aA i)) (aA i)))=tab a.length (wdM a) (qV a (aA i) (aA i'))/\cZ (edp a (aA i))=cZ (edp a (aA i))/\edm a (aA i) (ekk a (aA i)) (aA i)=edm a (aA i) (ekk a (aA i)) (aA i)/\True) ((asT Int 0=0/\tab a.length (wdM a) C₁=tab a.length (wdM a) (vO aT aJ (aA i) 0)/\cZ (edp a (aA i))=cZ (edp a (aA i))/\True)/\∀ (i_3:{ i:Nat // i<=List.length a }),let jD:=(aB (aA i_3)).toNat;let C₂:=(nameAt none jD);let rF:=(vO aT aJ (aA i) (aA i_3));let C₃:=(tab a.length (wdM a) rF);let wS:=(pJ aT aJ (aA i) (aA i_3) 0);let yN:=(tab a.length (wdM a) wS);let QB:=(List.getD (rowAt C₃ C₂) dD 0);let QD:=(aB (aA i_3)==aB A₁);let gV:=(QD==false);asT Bool true=true/\ifB (decide (aB (aA i_3)<aB (aN none C₃))) ((0<=aB (aA i_3)/\aB (aA i_3)<aB (aN none C₃)/\Int.toNat (aB (aA i_3))<aN none C₃/\0<=aB (aA i)/\aB (aA i)<aB (rowAt C₃ C₂).length/\Int.toNat (aB (aA i))<List.length (rowAt C₃ C₂)/\True)/\((gV=true->gV=true/\rsz QB<=190000000/\True)/\(gV=true->gV=true/\True)/\(QD=false->gV=true)/\True)/\ifB (bif aB (aA i_3)==aB A₁ then true else sgn (Rat.num QB)==0) (∃ (i':{ i:Nat // i<=List.length a }),List.length a-aA i'<List.length a-aA i_3/\IntKind.wrap IntKind.i64 (aB (aA i_3)+1)=aB (aA i')/\tab a.length (wdM a) rF=tab a.length (wdM a) (vO aT aJ (aA i) (aA i'))/\cZ (edp a (aA i))=cZ (edp a (aA i))/\True) ((asT Int 0=0/\nameAt none jD=nameAt none jD/\Int.toNat (aB (aA i))=Int.toNat (aB (aA i))/\List.length C₃=List.length yN/\nameAt none jD=nameAt none jD/\List.length C₃=List.length yN/\Int.toNat (aB (aA i_3))=Int.toNat (aB (aA i_3))/\tab a.length (wdM a) rF=tab a.length (wdM a) wS/\cZ (edp a (aA i))=cZ (edp a (aA i))/\List.getD (rowAt C₃ C₂) dD 0=qV a (aA i) (wdM a) (aA i_3) (aA i)/\True)/\∀ (i_4:{ c:Nat // c<=wdM a }),let KG:=(aB (aA i_4)).toNat;let a8q:=(pJ aT aJ (aA i) (aA i_3) (aA i_4));let D₁:=(tab a.length (wdM a) a8q);let D₂:=(List.set (rowAt D₁ C₂) KG (List.getD (rowAt D₁ C₂) KG 0-qV a (aA i) (wdM a) (aA i_3) (aA i)*List.getD (rowAt D₁ bV) KG 0));let a3j:=(rowAt D₁ C₂).length;asT Bool true=true/\(0<=aB (aA i_3)/\aB (aA i_3)<aB (aN none D₁)/\Int.toNat (aB (aA i_3))<aN none D₁/\True)/\ifB (decide (aB (aA i_4)<aB a3j)) ((0<=aB (aA i_3)/\aB (aA i_3)<aB (aN none D₁)/\Int.toNat (aB (aA i_3))<aN none D₁/\0<=aB (aA i_3)/\aB (aA i_3)<aB (aN none D₁)/\Int.toNat (aB (aA i_3))<aN none D₁/\0<=aB (aA i_4)/\aB (aA i_4)<aB a3j/\Int.toNat (aB (aA i_4))<List.length (rowAt D₁ C₂)/\0<=aB A₁/\aB A₁<aB (aN none D₁)/\Int.toNat (aB A₁)<aN none D₁/\0<=aB (aA i_4)/\aB (aA i_4)<aB (rowAt D₁ bV).length/\Int.toNat (aB (aA i_4))<List.length (rowAt D₁ bV)/\s19 (qV a (aA i) (wdM a) (aA i_3) (aA i)) (List.getD (rowAt D₁ bV) KG 0)/\s19 (List.getD (rowAt D₁ C₂) KG 0) (qV a (aA i) (wdM a) (aA i_3) (aA i)*List.getD (rowAt D₁ bV) KG 0)/\0<=aB (aA i_4)/\aB (aA i_4)<aB a3j/\Int.toNat (aB (aA i_4))<List.length (rowAt D₁ C₂)/\True)/\∃ (i':{ c:Nat // c<=wdM a }),let a8r:=(pJ aT aJ (aA i) (aA i_3) (aA i'));let a8s:=(tab a.length (wdM a) a8r);wdM a-aA i'<wdM a-aA i_4/\IntKind.wrap IntKind.i64 (aB (aA i_4)+1)=aB (aA i')/\nameAt none jD=nameAt none jD/\Int.toNat (aB (aA i))=Int.toNat (aB (aA i))/\List.length (List.set D₁ C₂ D₂)=List.length a8s/\nameAt none jD=nameAt none jD/\List.length (List.set D₁ C₂ D₂)=List.length a8s/\Int.toNat (aB (aA i_3))=Int.toNat (aB (aA i_3))/\List.set D₁ C₂ D₂=tab a.length (wdM a) a8r/\cZ (edp a (aA i))=cZ (edp a (aA i))/\qV a (aA i) (wdM a) (aA i_3) (aA i)=qV a (aA i) (wdM a) (aA i_3) (aA i)/\True) (∃ (i':{ i:Nat // i<=List.length a }),List.length a-aA i'<List.length a-aA i_3/\IntKind.wrap IntKind.i64 (aB (aA i_3)+1)=aB (aA i')/\tab a.length (wdM a) a8q=tab a.length (wdM a) (vO aT aJ (aA i) (aA i'))/\cZ (edp a (aA i))=cZ (edp a (aA i))/\True))) ((List.length (cZ (edp a (aA i)))+List.length (aB (aA i)::aF Int)<=1000000000/\True)/\∃ (i':{ j:Nat // j<=wdM a }),wdM a-aA i'<wdM a-aA i/\IntKind.wrap IntKind.i64 (aB (aA i)+1)=aB (aA i')/\tab a.length (wdM a) rF=tab a.length (wdM a) (edm a (aA i'))/\cZ (edp a (aA i))++aB (aA i)::aF Int=cZ (edp a (aA i'))/\True))))) (True/\tab a.length (wdM a) (edm a (aA i))=a0l a/\True/\cZ (edp a (aA i))=cZ (a4e a)/\True):=by
 have hZ:(⟨false,0,[],[]⟩:aH)=bF:=rfl
 dsimp only[aB,asT,aA,aF,Ty.den,Lf.den] at *
 simp only[hZ,Int.toNat_natCast,aC,aj,ah,jh,jg,aN,nameAt,bJ,eX,eY,rowAt,gy,bf,zO]
 have ha:=hp.1
 have hok:=hp.2
 have q1:=ha.r64
 have q2:=ha.c64
 have q3:=ha.c1
 have q4:=ha.pos
 have hw:∀ q:Nat,(q:Int)<=1000->IntKind.wrap .i64 ((q:Int)+1)=((q+1:Nat):Int):=fun q hq=>by rw[aP (by omega) (by omega)];rfl
 have hw0:(List.getD a 0 []).length=wdM a:=rfl
 simp only[hw0]
 refine⟨⟨by omega,fun r hr=>by rw[ha.1.2.1 r hr];omega⟩,ha.1.tab.symm,fun i=>⟨⟨Dh 0,ha.poz,fun h=>h,fun h=>h,fun h=>⟨h,h⟩,fun h=>by rw[uf h];rfl⟩,fun h p=>?_,fun h=>?_⟩⟩
 ·obtain⟨g1,g2⟩:=OO.mp h
  have g1:=qw g1
  have g2:=qw g2
  have hjC:i.1<wdM a:=by omega
  have hPR:(edp a i.1).length<a.length:=by omega
  have E:=iV a.length (ent a) i.1
  have hle:=E.le
  have zm:∀ b,b<a.length->∀ c,c<wdM a->rsz (edm a i.1 b c)<=10000000:=hok i.1 (by omega)
  have zn:∀ b,b<a.length->∀ c,c<wdM a->rsz (edm a (i.1+1) b c)<=10000000:=hok (i.1+1) (by omega)
  refine⟨⟨fun h=>h,fun h=>by rw[uf h];rfl⟩,fun h2=>?_,fun h2=>⟨fun h3=>?_,fun h3=>?_⟩⟩
  ·obtain⟨f1,f2⟩:=OO.mp h2
   have f1:=qw f1
   have f2:=qw f2
   rcases p.2 with⟨e1,l1,l2,l0⟩|⟨k,e1,l1⟩
   ·have hk:p.1.1<a.length:=by omega
    simp only[gU hk,fM hjC,ru,bf]
    have z:=zm p.1.1 hk i.1 hjC
    refine⟨⟨by omega,f1,hk,by omega,by omega,hjC,by omega⟩,fun h4=>⟨⟨(p.1.1+1,(p.1.1:Int)),.inr ⟨p.1.1,rfl,rfl,l1,hk,fun e=>?_,l0⟩⟩,by show a.length+1-(p.1.1+1)<a.length+1-p.1.1;omega,hw _ (by omega),rfl⟩,fun h4=>⟨⟨(p.1.1+1,-1),.inl ⟨rfl,by show _<=p.1.1+1;omega,by show p.1.1+1<=_;omega,fun b h5 h6=>?_⟩⟩,by show a.length+1-(p.1.1+1)<a.length+1-p.1.1;omega,hw _ (by omega),e1⟩⟩
    ·rw[e] at h4;cases h4
    ·have h6:b<p.1.1+1:=h6
     by_cases eb:b=p.1.1
     ·rw[eb];exact nR.mp (by simpa using h4)
     ·exact l0 b h5 (by omega)
   ·have:p.1.2=(k:Int):=e1
    omega
  ·rcases p.2 with⟨e1,l1,l2,l0⟩|⟨k,e1,l1⟩
   ·have hk:p.1.1=a.length:=by
     by_cases f:(p.1.1:Int)<a.length
     ·rw[OO.mpr ⟨uf f,uf h3⟩] at h2;cases h2
     ·omega
    have hkk:ekk a i.1=a.length:=by rw[<-hk];exact a1O _ _ _ _ _ l1 (by omega) l0 (fun h=>by omega)
    have hst:red a.length (ent a) (i.1+1)=red a.length (ent a) i.1:=a2K hkk
    refine⟨⟨i.1+1,by omega⟩,by simp only;omega,hw _ (by omega),?_,?_⟩
    ·show _=tab _ _ (red a.length (ent a) (i.1+1)).1
     rw[hst]
    ·show _=cZ (red a.length (ent a) (i.1+1)).2
     rw[hst]
   ·have:p.1.2=(k:Int):=e1
    omega
  ·rcases p.2 with⟨e1,l1⟩|⟨k,e1,e0,hk1,hkR,hne,hk0⟩
   ·have:p.1.2=-1:=e1
    omega
   have hkk:ekk a i.1=k:=a1O _ _ _ _ _ hk1 (by omega) hk0 (fun _=>hne)
   have hst:red a.length (ent a) (i.1+1)=(jC (edm a i.1) (edp a i.1).length k i.1,edp a i.1++[i.1]):=a2L hkk (by omega)
   have e2:edm a (i.1+1)=jC (edm a i.1) (edp a i.1).length k i.1:=vg Prod.fst hst
   have e3:edp a (i.1+1)=edp a i.1++[i.1]:=vg Prod.snd hst
   rw[e2] at zn
   have hr:=hPR
   rw[e1]
   have hes:∀ c,qV a i.1 c=UL (gB (edm a i.1) (edp a i.1).length k) (edp a i.1).length c (edm a i.1 k i.1):=fun c=>by unfold qV esw;rw[hkk]
   simp only[hes,hkk,Int.toNat_natCast,swp_get hr,gU hkR,fM hjC,ru,bf]
   clear h2 h3 e1 e0 p
   generalize hP:(edp a i.1).length=r at *
   generalize hM:edm a i.1=m at *
   have hsr:∀ d,gB m r k r d=m k d:=fun d=>by unfold gB;rw[jm rfl]
   have zs:∀ b,b<a.length->∀ d,d<wdM a->rsz (gB m r k b d)<=10000000:=fun b hb d hd=>by
    unfold gB;split
    ·exact zm _ hkR d hd
    ·split
     ·exact zm _ hr d hd
     ·exact zm _ hb d hd
   have zp:=zm k hkR i.1 hjC
   refine⟨⟨by omega,by omega,by omega,by omega,by omega,by omega,by omega,by omega,by omega,by omega,by omega,by omega⟩,⟨by omega,by omega,by omega,by omega,by omega,hjC⟩,⟨b2C _ hr hkR,?_,trivial⟩,fun c=>⟨⟨by omega,by omega,by omega⟩,fun h4=>?_,fun h4=>?_⟩⟩
   ·rw[b2B hr hkR]
    exact eF fun b _ d _=>(a6s _ _ (uq _) _).symm
   ·rw[gU hr] at h4 ⊢
    simp only[ru,bf] at h4 ⊢
    have hc:c.1<wdM a:=by omega
    rw[fM hc,a6s _ _ (ay _),hsr]
    have z3:=zm k hkR c.1 hc
    refine⟨⟨by omega,by omega,by omega,by omega,by omega,by omega,by omega,by omega,hc,⟨⟨by omega,by omega⟩,hne⟩,by omega,by omega,hc⟩,⟨c.1+1,by omega⟩,by simp only;omega,hw _ (by omega),?_⟩
    rw[<-gU (f:=UL (gB m r k) r c.1 (m k i.1)) hr]
    refine(BI _ hr).trans (eF fun b _ d _=>?_)
    show (if b=r/\d=c.1 then m k c.1 / m k i.1 else UL (gB m r k) r c.1 (m k i.1) b d)=UL (gB m r k) r (c.1+1) (m k i.1) b d
    unfold UL
    by_cases eb:b=r/\d=c.1
    ·rw[jm eb,jm ⟨eb.1,by omega⟩,eb.1,eb.2,hsr]
    ·rw[ji eb]
     by_cases ec:b=r/\d<c.1
     ·rw[jm ec,jm ⟨ec.1,by omega⟩]
     ·rw[ji ec,ji (by omega)]
   ·rw[gU hr] at h4
    simp only[ru,bf] at h4
    have hc:c.1=wdM a:=by have:=c.2;omega
    rw[hc]
    have hS:∀ b,b<a.length->∀ d,d<wdM a->vO (UL (gB m r k) r (wdM a) (m k i.1)) r i.1 a.length b d=jC m r k i.1 b d:=fun b hb d hd=>by
     rw[<-b2u (R:=a.length) (C:=wdM a) (m:=m) (r:=r) (k:=k) (j:=i.1) b hb d hd]
     unfold vO UL
     by_cases e:b=r
     ·subst e;rw[ji (by simp),jm ⟨rfl,hd⟩,jm rfl,hsr]
     ·rw[jm ⟨e,hb⟩,ji (by simp[e]),ji (by simp[e]),jm ⟨rfl,hd⟩,ji e]
    generalize hN:UL (gB m r k) r (wdM a) (m k i.1)=s at *
    have hrs:∀ d,d<wdM a->rsz (s r d)<=10000000:=fun d hd=>by
     have:=zn r hr d hd
     rw[<-hS r hr d hd,a9v] at this;exact this
    have has:∀ b,b<a.length->∀ d,d<wdM a->rsz (s b d)<=10000000:=fun b hb d hd=>by
     by_cases e:b=r
     ·rw[e];exact hrs d hd
     ·rw[<-hN];unfold UL;rw[ji (by simp[e])];exact zs b hb d hd
    refine⟨eF fun b _ d _=>(ji (by omega)).symm,fun t=>⟨fun h5=>?_,fun h5=>?_⟩⟩
    ·have ht:t.1<a.length:=by omega
     simp only[gU ht,fM hjC,ru,bf,WQ]
     have z4:=has t.1 ht i.1 hjC
     refine⟨⟨by omega,by omega,ht,by omega,by omega,hjC⟩,⟨fun h=>⟨h,by omega⟩,fun h=>h,fun h=>by rw[h];rfl⟩,fun h6=>⟨⟨t.1+1,by omega⟩,by simp only;omega,hw _ (by omega),eF fun b _ d _=>a7e s ?_ b d⟩,fun h6=>?_⟩
     ·by_cases e:t.1=r
      ·exact .inl e
      ·right
       rw[show ((t.1:Int)==(r:Int))=false from dn.mpr (fun h=>e (by omega))] at h6
       have h6:(sgn (s t.1 i.1).num==0)=true:=h6
       exact nR.mp (by simpa using h6)
     ·have htr:t.1≠r:=fun e=>by
       rw[e,show (((r:Nat):Int)==(r:Int))=true by simp] at h6;cases h6
      refine⟨⟨eF fun b _ d _=>(a3C s b d).symm,trivial⟩,fun c=>⟨⟨by omega,by omega,ht⟩,fun h7=>?_,fun h7=>?_⟩⟩
      ·have h7:=qw h7
       have hc:c.1<wdM a:=by omega
       have et:pJ s r i.1 t.1 c.1 t.1 c.1=s t.1 c.1:=by unfold pJ;rw[ji (by omega)];exact WQ s
       have er':pJ s r i.1 t.1 c.1 r c.1=s r c.1:=by unfold pJ;rw[ji (by omega)];exact a9v s
       have z5:=has t.1 ht c.1 hc
       have z6:=hrs c.1 hc
       have z7:=lS (s t.1 i.1) (s r c.1)
       simp only[gU ht,gU hr,fM hc,ru,bf,et,er']
       refine⟨⟨by omega,by omega,ht,by omega,by omega,ht,by omega,by omega,hc,by omega,by omega,hr,by omega,by omega,hc,⟨by omega,by omega⟩,⟨by omega,by omega⟩,by omega,by omega,hc⟩,⟨c.1+1,by omega⟩,by simp only;omega,hw _ (by omega),?_⟩
       rw[<-gU (f:=pJ s r i.1 t.1 c.1) ht]
       refine(BI _ ht).trans (eF fun b _ d _=>?_)
       show (if b=t.1/\d=c.1 then s t.1 c.1-s t.1 i.1*s r c.1 else pJ s r i.1 t.1 c.1 b d)=pJ s r i.1 t.1 (c.1+1) b d
       unfold pJ
       by_cases eb:b=t.1/\d=c.1
       ·rw[jm eb,jm ⟨eb.1,by omega⟩,eb.1,eb.2]
       ·rw[ji eb]
        by_cases ec:b=t.1/\d<c.1
        ·rw[jm ec,jm ⟨ec.1,by omega⟩]
        ·rw[ji ec,ji (by omega)]
      ·have h7:=ug h7
       exact⟨⟨t.1+1,by omega⟩,by simp only;omega,hw _ (by omega),eF fun b _ d hd=>a7f s htr (by omega) b⟩
    ·have ht:t.1=a.length:=by have:=t.2;omega
     have hl:=(PI a.length (ent a) i.1).1
     refine⟨by simp;omega,⟨i.1+1,by omega⟩,by simp only;omega,hw _ (by omega),?_,?_⟩
     ·rw[ht]
      show _=tab _ _ (edm a (i.1+1))
      rw[e2];exact eF fun b hb d hd=>hS b hb d hd
     ·show _=cZ (edp a (i.1+1))
      rw[e3];simp[cZ]
 ·have hle:=(iV a.length (ent a) i.1).le
  have e:red a.length (ent a) (wdM a)=red a.length (ent a) i.1:=by
   by_cases f:i.1<wdM a
   ·have g:(red a.length (ent a) i.1).2.length=a.length:=by
     by_cases g:(edp a i.1).length<a.length
     ·rw[OO.mpr ⟨uf (by omega),uf (by omega)⟩] at h;cases h
     ·have:(red a.length (ent a) i.1).2.length=(edp a i.1).length:=rfl
      omega
    have:=JH g (wdM a-i.1)
    rwa [show i.1+(wdM a-i.1)=wdM a by omega] at this
   ·rw[show i.1=wdM a by have:=i.2;omega]
  refine⟨?_,?_⟩
  ·show _=tab a.length (wdM a) (red a.length (ent a) (wdM a)).1
   rw[e]
  ·show _=cZ (red a.length (ent a) (wdM a)).2
   rw[e]
noncomputable def c1P:Ctr:=⟨[tM],[tM,.list tI],fun x=>okE x.1,fun x=>(a0l x.1,cZ (a4e x.1),())⟩
theorem b1L:aI Tryz.prog 155 c1P:=by
 refine aK (((((nil0.ad PO).ad a0S).ad JI).ad a6i).an b1K) ⟨[10,13],[],[]⟩ Tryz.func155 rfl (by decide) (fun x=>[.inv {j:Nat // j<=wdM (show MQ from x.1)} (fun j=>[(6,.val tI (j.1:Int)),(5,.own 17 0)]++[(7,.any),(8,.any),(9,.any),(10,.any),(11,.any),(12,.any),(13,.any),(14,.any),(17,.any),(18,.any),(19,.any),(20,.any),(21,.any),(22,.any),(23,.any),(24,.any),(25,.any),(26,.any),(27,.any),(28,.any),(29,.any),(30,.any),(31,.any),(32,.any),(33,.any),(34,.any),(35,.any),(36,.any),(37,.any),(38,.any),(39,.any),(40,.any),(41,.any),(42,.any),(43,.any),(44,.any),(45,.any),(46,.any),(47,.any),(48,.any),(49,.any),(50,.any),(51,.any),(52,.any),(53,.any),(54,.any),(55,.any),(56,.any),(57,.any),(58,.any),(59,.any),(60,.any),(61,.any),(62,.any),(63,.any),(64,.any),(65,.any),(66,.any),(67,.any),(68,.any),(69,.any),(70,.any),(71,.any),(72,.any),(73,.any),(74,.any),(75,.any),(76,.any),(77,.any),(78,.any),(79,.any),(80,.any),(81,.any),(82,.any),(83,.any),(84,.any),(85,.any),(86,.any),(87,.any),(88,.any),(89,.any),(90,.any),(91,.any),(92,.any),(93,.any),(94,.any),(95,.any),(96,.any),(97,.any),(98,.any),(99,.any),(100,.any),(101,.any),(102,.any),(103,.any),(104,.any),(105,.any),(106,.any),(107,.any),(108,.any),(109,.any),(110,.any),(111,.any),(112,.any),(113,.any),(114,.any),(115,.any),(116,.any),(117,.any),(118,.any),(119,.any),(120,.any),(121,.any),(122,.any),(123,.any),(124,.any),(125,.any),(126,.any),(127,.any),(128,.any),(129,.any),(130,.any),(131,.any),(132,.any),(133,.any),(134,.any),(135,.any),(136,.any),(137,.any),(138,.any),(139,.any),(140,.any),(141,.any),(142,.any),(143,.any),(144,.any),(145,.any),(146,.any),(147,.any),(148,.any),(149,.any),(150,.any),(151,.any),(152,.any),(153,.any),(154,.any),(155,.any),(156,.any),(157,.any),(158,.any),(159,.any),(160,.any),(161,.any),(162,.any)]) (fun j=>er (show MQ from x.1) j.1 (edm (show MQ from x.1) j.1)) (fun j=>wdM (show MQ from x.1)-j.1) ⟨0,by omega⟩ (fun j=>[
  .inv (a3n (show MQ from x.1) j.1) (fun p=>[(9,.val tI (p.1.1:Int)),(8,.val tI p.1.2)]) (fun p=>er (show MQ from x.1) j.1 (edm (show MQ from x.1) j.1)) (fun p=>(show MQ from x.1).length+1-p.1.1) ⟨((edp (show MQ from x.1) j.1).length,-1),.inl ⟨rfl,ay _,(iV _ _ _).le,fun i h1 h2=>absurd h2 (by show ¬ i<_;omega)⟩⟩ (fun _=>[]),
  .inv {c:Nat // c<=wdM (show MQ from x.1)} (fun c=>[(11,.val tI (c.1:Int))]++[(36,.any),(37,.any),(38,.any),(39,.any),(40,.any),(41,.any),(42,.any),(43,.any),(44,.any),(45,.any),(46,.any),(47,.any),(48,.any),(49,.any),(50,.any),(51,.any),(52,.any),(53,.any),(54,.any),(55,.any),(56,.any),(57,.any),(58,.any),(59,.any),(60,.any),(61,.any),(62,.any),(63,.any),(64,.any),(65,.any),(66,.any),(67,.any),(68,.any),(69,.any),(70,.any),(71,.any),(72,.any),(73,.any),(74,.any),(75,.any),(76,.any),(77,.any),(78,.any)]) (fun c=>er (show MQ from x.1) j.1 (qV (show MQ from x.1) j.1 c.1)++[(10,.box [⟨tQ,edm (show MQ from x.1) j.1 (ekk (show MQ from x.1) j.1) j.1⟩])]) (fun c=>wdM (show MQ from x.1)-c.1) ⟨0,by omega⟩ (fun _=>[]),
  .inv {i:Nat // i<=(show MQ from x.1).length} (fun i=>[(12,.val tI (i.1:Int))]++[(79,.any),(80,.any),(81,.any),(82,.any),(83,.any),(84,.any),(85,.any),(86,.any),(87,.any),(88,.any),(89,.any),(90,.any),(91,.any),(92,.any),(93,.any),(94,.any),(95,.any),(96,.any),(97,.any),(98,.any),(99,.any),(100,.any),(101,.any),(102,.any),(103,.any),(104,.any),(105,.any)]) (fun i=>er (show MQ from x.1) j.1 (vO (qV (show MQ from x.1) j.1 (wdM (show MQ from x.1))) (edp (show MQ from x.1) j.1).length j.1 i.1)) (fun i=>(show MQ from x.1).length-i.1) ⟨0,by omega⟩ (fun i=>[
   .inv {c:Nat // c<=wdM (show MQ from x.1)} (fun c=>[(14,.val tI (c.1:Int))]) (fun c=>er (show MQ from x.1) j.1 (pJ (qV (show MQ from x.1) j.1 (wdM (show MQ from x.1))) (edp (show MQ from x.1) j.1).length j.1 i.1 c.1)++[(13,.box [⟨tQ,qV (show MQ from x.1) j.1 (wdM (show MQ from x.1)) i.1 j.1⟩])]) (fun c=>wdM (show MQ from x.1)-c.1) ⟨0,by omega⟩ (fun _=>[])])])]) (fun x hp=>?_)
 obtain⟨a,u⟩:=x
 change List (List Rat) at a
 refine aU (let A₀:=(List.getD a 0 (aF Rat)).length;((List.length a<=1000/\∀ (r:List Rat),r ∈ a->List.length r<=1000)/\True)/\(asT Int 0=0/\a=tab a.length (wdM a) (edm a 0)/\asT (List Int) (aF Int)=aF Int/\True)/\∀ (i:{ j:Nat // j<=wdM a }),let A₁:=(cZ (edp a (aA i))).length;let A₂:=(tab a.length (wdM a) (edm a (aA i)));let aJ:=(edp a (aA i)).length;let aT:=(qV a (aA i) (wdM a));let bV:=(nameAt none (aB A₁).toNat);let dD:=(aB (aA i)).toNat;let eP:=(aB (aA i)<aB A₀);let dH:=(decide eP==true);let fZ:=(dH=true->dH=true/\True);asT Bool true=true/\(asT Int 0<=0/\0<aB a.length/\fZ/\fZ/\(dH=true->dH=true/\dH=true/\True)/\(decide eP=true->dH=true)/\True)/\ifB (bif decide eP then decide (aB A₁<aB a.length) else false) ((aB A₁=aB aJ/\asT Int (-1)=-1/\tab a.length (wdM a) (edm a (aA i))=tab a.length (wdM a) (edm a (aA i))/\cZ (edp a (aA i))=cZ (edp a (aA i))/\True)/\∀ (i_1:a3n a (aA i)),let iZ:=(aB (aA i_1).1<aB (aN none A₂));let oW:=(aA i_1).2.toNat;let gX:=(some (List.set (bJ none A₂) (aB A₁).toNat (nameAt none oW)));let dU:=(List.set (bJ gX A₂) oW bV);let kL:=(rowAt A₂ (nameAt (some dU) (aB A₁).toNat));let nU:=(aB (aA i_1).1+1);let rE:=(aB (aA i_1).1);let jO:=(rowAt A₂ (nameAt none rE.toNat));asT Bool true=true/\(((decide iZ==true)=true->(decide iZ==true)=true/\True)/\(decide iZ=true->(decide iZ==true)=true)/\True)/\ifB (bif decide iZ then decide (Prod.snd (aA i_1)<0) else false) ((0<=aB (aA i_1).1/\aB (aA i_1).1<aB (aN none A₂)/\Int.toNat rE<aN none A₂/\0<=aB (aA i)/\aB (aA i)<aB jO.length/\Int.toNat (aB (aA i))<List.length jO/\rsz (List.getD jO dD 0)<=190000000/\True)/\ifB (sgn (Rat.num (List.getD jO dD 0)) != 0) (∃ (i':a3n a (aA i)),List.length a+1-Prod.fst (aA i')<List.length a+1-Prod.fst (aA i_1)/\IntKind.wrap IntKind.i64 nU=aB (aA i').1/\aB (aA i_1).1=Prod.snd (aA i')/\tab a.length (wdM a) (edm a (aA i))=tab a.length (wdM a) (edm a (aA i))/\cZ (edp a (aA i))=cZ (edp a (aA i))/\True) (∃ (i':a3n a (aA i)),List.length a+1-Prod.fst (aA i')<List.length a+1-Prod.fst (aA i_1)/\IntKind.wrap IntKind.i64 nU=aB (aA i').1/\Prod.snd (aA i_1)=Prod.snd (aA i')/\tab a.length (wdM a) (edm a (aA i))=tab a.length (wdM a) (edm a (aA i))/\cZ (edp a (aA i))=cZ (edp a (aA i))/\True)) (ifB (decide (Prod.snd (aA i_1)<0)) (∃ (i':{ j:Nat // j<=wdM a }),wdM a-aA i'<wdM a-aA i/\IntKind.wrap IntKind.i64 (aB (aA i)+1)=aB (aA i')/\tab a.length (wdM a) (edm a (aA i))=tab a.length (wdM a) (edm a (aA i'))/\cZ (edp a (aA i))=cZ (edp a (aA i'))/\True) ((0<=Prod.snd (aA i_1)/\Prod.snd (aA i_1)<aB (aN none A₂)/\Int.toNat (aA i_1).2<aN none A₂/\0<=aB A₁/\aB A₁<aB (aN none A₂)/\Int.toNat (aB A₁)<aN none A₂/\0<=aB A₁/\aB A₁<aB (aN none A₂)/\Int.toNat (aB A₁)<aN none A₂/\0<=Prod.snd (aA i_1)/\Prod.snd (aA i_1)<aB (aN gX A₂)/\Int.toNat (aA i_1).2<aN gX A₂/\True)/\(0<=aB A₁/\aB A₁<aB (aN (some dU) A₂)/\Int.toNat (aB A₁)<aN (some dU) A₂/\0<=aB (aA i)/\aB (aA i)<aB kL.length/\Int.toNat (aB (aA i))<List.length kL/\True)/\(asT Int 0=0/\List.Nodup dU/\List.map (fun(i_2:Nat)=>List.getD A₂ i_2 (aF Rat)) dU=tab a.length (wdM a) (qV a (aA i) 0)/\cZ (edp a (aA i))=cZ (edp a (aA i))/\List.getD kL dD 0=edm a (aA i) (ekk a (aA i)) (aA i)/\True)/\∀ (i_2:{ c:Nat // c<=wdM a }),let uM:=(aB (aA i_2)).toNat;let C₁:=(qV a (aA i) (aA i_2));let fK:=(tab a.length (wdM a) C₁);let uN:=(rowAt fK bV).length;asT Bool true=true/\(0<=aB A₁/\aB A₁<aB (aN none fK)/\Int.toNat (aB A₁)<aN none fK/\True)/\ifB (decide (aB (aA i_2)<aB uN)) ((0<=aB A₁/\aB A₁<aB (aN none fK)/\Int.toNat (aB A₁)<aN none fK/\0<=aB A₁/\aB A₁<aB (aN none fK)/\Int.toNat (aB A₁)<aN none fK/\0<=aB (aA i_2)/\aB (aA i_2)<aB uN/\Int.toNat (aB (aA i_2))<List.length (rowAt fK bV)/\(s19 (List.getD (rowAt fK bV) uM 0) (edm a (aA i) (ekk a (aA i)) (aA i))/\edm a (aA i) (ekk a (aA i)) (aA i)≠0)/\0<=aB (aA i_2)/\aB (aA i_2)<aB uN/\Int.toNat (aB (aA i_2))<List.length (rowAt fK bV)/\True)/\∃ (i':{ c:Nat // c<=wdM a }),wdM a-aA i'<wdM a-aA i_2/\IntKind.wrap IntKind.i64 (aB (aA i_2)+1)=aB (aA i')/\List.set fK bV (List.set (rowAt fK bV) uM (List.getD (rowAt fK bV) uM 0 / edm a (aA i) (ekk a (aA i)) (aA i)))=tab a.length (wdM a) (qV a (aA i) (aA i'))/\cZ (edp a (aA i))=cZ (edp a (aA i))/\edm a (aA i) (ekk a (aA i)) (aA i)=edm a (aA i) (ekk a (aA i)) (aA i)/\True) ((asT Int 0=0/\tab a.length (wdM a) C₁=tab a.length (wdM a) (vO aT aJ (aA i) 0)/\cZ (edp a (aA i))=cZ (edp a (aA i))/\True)/\∀ (i_3:{ i:Nat // i<=List.length a }),let jD:=(aB (aA i_3)).toNat;let C₂:=(nameAt none jD);let rF:=(vO aT aJ (aA i) (aA i_3));let C₃:=(tab a.length (wdM a) rF);let wS:=(pJ aT aJ (aA i) (aA i_3) 0);let yN:=(tab a.length (wdM a) wS);let QB:=(List.getD (rowAt C₃ C₂) dD 0);let QD:=(aB (aA i_3)==aB A₁);let gV:=(QD==false);asT Bool true=true/\ifB (decide (aB (aA i_3)<aB (aN none C₃))) ((0<=aB (aA i_3)/\aB (aA i_3)<aB (aN none C₃)/\Int.toNat (aB (aA i_3))<aN none C₃/\0<=aB (aA i)/\aB (aA i)<aB (rowAt C₃ C₂).length/\Int.toNat (aB (aA i))<List.length (rowAt C₃ C₂)/\True)/\((gV=true->gV=true/\rsz QB<=190000000/\True)/\(gV=true->gV=true/\True)/\(QD=false->gV=true)/\True)/\ifB (bif aB (aA i_3)==aB A₁ then true else sgn (Rat.num QB)==0) (∃ (i':{ i:Nat // i<=List.length a }),List.length a-aA i'<List.length a-aA i_3/\IntKind.wrap IntKind.i64 (aB (aA i_3)+1)=aB (aA i')/\tab a.length (wdM a) rF=tab a.length (wdM a) (vO aT aJ (aA i) (aA i'))/\cZ (edp a (aA i))=cZ (edp a (aA i))/\True) ((asT Int 0=0/\nameAt none jD=nameAt none jD/\Int.toNat (aB (aA i))=Int.toNat (aB (aA i))/\List.length C₃=List.length yN/\nameAt none jD=nameAt none jD/\List.length C₃=List.length yN/\Int.toNat (aB (aA i_3))=Int.toNat (aB (aA i_3))/\tab a.length (wdM a) rF=tab a.length (wdM a) wS/\cZ (edp a (aA i))=cZ (edp a (aA i))/\List.getD (rowAt C₃ C₂) dD 0=qV a (aA i) (wdM a) (aA i_3) (aA i)/\True)/\∀ (i_4:{ c:Nat // c<=wdM a }),let KG:=(aB (aA i_4)).toNat;let a8q:=(pJ aT aJ (aA i) (aA i_3) (aA i_4));let D₁:=(tab a.length (wdM a) a8q);let D₂:=(List.set (rowAt D₁ C₂) KG (List.getD (rowAt D₁ C₂) KG 0-qV a (aA i) (wdM a) (aA i_3) (aA i)*List.getD (rowAt D₁ bV) KG 0));let a3j:=(rowAt D₁ C₂).length;asT Bool true=true/\(0<=aB (aA i_3)/\aB (aA i_3)<aB (aN none D₁)/\Int.toNat (aB (aA i_3))<aN none D₁/\True)/\ifB (decide (aB (aA i_4)<aB a3j)) ((0<=aB (aA i_3)/\aB (aA i_3)<aB (aN none D₁)/\Int.toNat (aB (aA i_3))<aN none D₁/\0<=aB (aA i_3)/\aB (aA i_3)<aB (aN none D₁)/\Int.toNat (aB (aA i_3))<aN none D₁/\0<=aB (aA i_4)/\aB (aA i_4)<aB a3j/\Int.toNat (aB (aA i_4))<List.length (rowAt D₁ C₂)/\0<=aB A₁/\aB A₁<aB (aN none D₁)/\Int.toNat (aB A₁)<aN none D₁/\0<=aB (aA i_4)/\aB (aA i_4)<aB (rowAt D₁ bV).length/\Int.toNat (aB (aA i_4))<List.length (rowAt D₁ bV)/\s19 (qV a (aA i) (wdM a) (aA i_3) (aA i)) (List.getD (rowAt D₁ bV) KG 0)/\s19 (List.getD (rowAt D₁ C₂) KG 0) (qV a (aA i) (wdM a) (aA i_3) (aA i)*List.getD (rowAt D₁ bV) KG 0)/\0<=aB (aA i_4)/\aB (aA i_4)<aB a3j/\Int.toNat (aB (aA i_4))<List.length (rowAt D₁ C₂)/\True)/\∃ (i':{ c:Nat // c<=wdM a }),let a8r:=(pJ aT aJ (aA i) (aA i_3) (aA i'));let a8s:=(tab a.length (wdM a) a8r);wdM a-aA i'<wdM a-aA i_4/\IntKind.wrap IntKind.i64 (aB (aA i_4)+1)=aB (aA i')/\nameAt none jD=nameAt none jD/\Int.toNat (aB (aA i))=Int.toNat (aB (aA i))/\List.length (List.set D₁ C₂ D₂)=List.length a8s/\nameAt none jD=nameAt none jD/\List.length (List.set D₁ C₂ D₂)=List.length a8s/\Int.toNat (aB (aA i_3))=Int.toNat (aB (aA i_3))/\List.set D₁ C₂ D₂=tab a.length (wdM a) a8r/\cZ (edp a (aA i))=cZ (edp a (aA i))/\qV a (aA i) (wdM a) (aA i_3) (aA i)=qV a (aA i) (wdM a) (aA i_3) (aA i)/\True) (∃ (i':{ i:Nat // i<=List.length a }),List.length a-aA i'<List.length a-aA i_3/\IntKind.wrap IntKind.i64 (aB (aA i_3)+1)=aB (aA i')/\tab a.length (wdM a) a8q=tab a.length (wdM a) (vO aT aJ (aA i) (aA i'))/\cZ (edp a (aA i))=cZ (edp a (aA i))/\True))) ((List.length (cZ (edp a (aA i)))+List.length (aB (aA i)::aF Int)<=1000000000/\True)/\∃ (i':{ j:Nat // j<=wdM a }),wdM a-aA i'<wdM a-aA i/\IntKind.wrap IntKind.i64 (aB (aA i)+1)=aB (aA i')/\tab a.length (wdM a) rF=tab a.length (wdM a) (edm a (aA i'))/\cZ (edp a (aA i))++aB (aA i)::aF Int=cZ (edp a (aA i'))/\True))))) (True/\tab a.length (wdM a) (edm a (aA i))=a0l a/\True/\cZ (edp a (aA i))=cZ (a4e a)/\True)) (by kernel_rfl) ?_
 exact b5e a hp
end Go.Proofs.YtbkocjmmbkifjaaGreat
