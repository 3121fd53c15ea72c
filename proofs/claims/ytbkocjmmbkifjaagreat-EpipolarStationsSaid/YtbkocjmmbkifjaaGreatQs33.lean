/-
  Lemmas for the theorem vstations28_holds, part 33 of 34.
-/
import Derived.Test.YtbkocjmmbkifjaaGreatQs32
namespace Go.Proofs.YtbkocjmmbkifjaaGreat
open Go Go.RowKit
theorem Ej:type_of% @Nat.add_le_add_right:=@Nat.add_le_add_right
set_option maxRecDepth 100000
set_option maxHeartbeats 1000000
set_option linter.unusedVariables false
set_option linter.unusedSimpArgs false
theorem b3b (a b:MQ) (i m n:Nat):List.map (fD m (ent a) (ent b) i) (List.range (m+n))=(List.range m).map (fun j=>(a.getD i []).getD j 0)++(List.range n).map (fun j=>(b.getD i []).getD j 0):=by
 apply Dj
 ·simp
 ·intro j h1 h2
  have h1:j<m+n:=by simpa using h1
  simp only[List.getElem_map,List.getElem_range]
  unfold fD
  by_cases e:j<m
  ·rw[jm e,List.getElem_append_left (by simpa using e)];simp
  ·rw[ji e,List.getElem_append_right (by simpa using e)];simp
theorem a9t {α:Type} (f:Nat->α) (m n:Nat):((List.range (m+n)).map f).drop m=(List.range n).map (fun j=>f (m+j)):=by
 apply Dj
 ·simp
 ·intro i h1 h2;simp
theorem XQ {l:List Nat} {i:Nat} (h:i<l.length):(cZ l).getD i 0=((l.getD i 0:Nat):Int):=by
 unfold cZ;simp[iy,h]
noncomputable def c1y:Ctr:=⟨[tM,tM],[tM],fun x=>okM x.1/\okM x.2.1/\(show MQ from x.1).length=(show MQ from x.2.1).length,fun x=>(uP x.1 x.2.1,())⟩
theorem b1I:aI Tryz.prog 156 c1y:=by
 refine aK nil0 ⟨[],[],[(7,tQ),(26,tQ)]⟩ Tryz.func156 rfl (by decide) (fun x=>[.inv {k:Nat // k<=(show MQ from x.1).length} (fun k=>[(6,.val tI (k.1:Int)),(5,.own 7 0)]++[(7,.any),(14,.any),(15,.any),(16,.any),(17,.any),(18,.any),(19,.any),(20,.any),(21,.any),(22,.any),(23,.any),(24,.any),(25,.any),(26,.any),(27,.any)]) (fun k=>[(7,.mat 39 47 tQ none ((uP (show MQ from x.1) (show MQ from x.2.1)).take k.1) 0)]) (fun k=>(show MQ from x.1).length-k.1) ⟨0,by omega⟩ (fun _=>[])]) (fun x hp=>?_)
 obtain⟨a,b,u⟩:=x
 change List (List Rat) at a
 change List (List Rat) at b
 refine aU ((asT Int 0=0/\asT (List (List Rat)) (aF (List Rat))=aF (List Rat)/\True)/\∀ (i:{ k:Nat // k<=List.length a }),asT Bool true=true/\ifB (decide (aB (aA i)<aB a.length)) ((0<=aB (aA i)/\aB (aA i)<aB a.length/\List.length (aF Rat)+List.length (List.getD a (aB (aA i)).toNat (aF Rat))<=1000000000/\0<=aB (aA i)/\aB (aA i)<aB b.length/\List.length (aF Rat++List.getD a (aB (aA i)).toNat (aF Rat))+List.length (List.getD b (aB (aA i)).toNat (aF Rat))<=1000000000/\aN none (List.take (aA i) (uP a b))+1<=1000000000/\True)/\∃ (i':{ k:Nat // k<=List.length a }),List.length a-aA i'<List.length a-aA i/\IntKind.wrap IntKind.i64 (aB (aA i)+1)=aB (aA i')/\List.take (aA i) (uP a b)++(aF Rat++List.getD a (aB (aA i)).toNat (aF Rat)++List.getD b (aB (aA i)).toNat (aF Rat))::aF (List Rat)=List.take (aA i') (uP a b)/\True) (True/\List.take (aA i) (uP a b)=uP a b/\True)) (by kernel_rfl) ?_
 have hZ:(⟨false,0,[],[]⟩:aH)=bF:=rfl
 dsimp only[aB,asT,aA,aF,Ty.den,Lf.den] at *
 simp only[hZ,Int.toNat_natCast,aC,aj,ah,jh,jg,aN,nameAt,bJ,eX,eY,rowAt,gy,bf]
 have hp:okM a/\okM b/\a.length=b.length:=hp
 obtain⟨ha,hb,hl⟩:=hp
 have q1:=ha.r64
 have q2:=ha.c64
 have q3:=hb.c64
 have hB:(uP a b).length=a.length:=eY
 refine fun i=>⟨fun h1=>?_,fun h1=>jv (by rw[hB];omega)⟩
 have hi:i.1<a.length:=by omega
 have hra:=ha.row hi
 have hrb:=hb.row (show i.1<b.length by omega)
 refine⟨⟨by omega,h1,by show 0+(a.getD i.1 []).length<=_;omega,by omega,by omega,by show (a.getD i.1 []).length+_<=_;omega,by rw[ni];omega⟩,⟨i.1+1,by omega⟩,by simp only;omega,by rw[aP (by omega) (by omega)];rfl,?_⟩
 rw[Ai]
 have e:(uP a b)[i.1]?=some (a.getD i.1 []++b.getD i.1 []):=by
  have h2:i.1<(uP a b).length:=by rw[hB];exact hi
  rw[jc h2]
  congr 1
  have h3:(uP a b)[i.1]=(uP a b).getD i.1 []:=by rw[iy,jc h2];rfl
  rw[h3];unfold uP;rw[gU hi]
  rw[<-UH hra,<-UH hrb]
  exact b3b _ _ _ _ _
 rw[e];simp
def AY (a:MQ):MQ × Bool × Unit:=if DZ a=true then (kD a,true,()) else ([],false,())
noncomputable def c1W:Ctr:=⟨[tM],[tM,tB],fun x=>okM x.1/\wdM (show MQ from x.1)=(show MQ from x.1).length/\(show MQ from x.1).length<=32/\uD (show MQ from x.1).length ((show MQ from x.1).length+(show MQ from x.1).length) (fD (show MQ from x.1).length (ent x.1) idm) ((show MQ from x.1).length+(show MQ from x.1).length),fun x=>AY x.1⟩
theorem b1U:aI Tryz.prog 68 c1W:=by
 refine aK (((nil0.an b5k).ad b1L).ad b1I) ⟨[],[],[(32,tQ),(47,tQ)]⟩ Tryz.func68 rfl (by decide) (fun x=>[.inv {k:Nat // k<=(show MQ from x.1).length} (fun k=>[(8,.val tI (k.1:Int)),(7,.own 32 0)]++[(32,.any),(38,.any),(39,.any),(40,.any),(41,.any),(42,.any),(43,.any),(44,.any),(45,.any),(46,.any),(47,.any),(48,.any)]) (fun k=>[(32,.mat 39 47 tQ none ((kD (show MQ from x.1)).take k.1) 0)]) (fun k=>(show MQ from x.1).length-k.1) ⟨0,by omega⟩ (fun _=>[])]) (fun x hp=>?_)
 obtain⟨a,u⟩:=x
 change List (List Rat) at a
 refine aU (let A₂:=(aB a.length).toNat;let A₁:=(uP a (idM A₂));let aT:=(aB a.length-1);let bV:=(cZ (a4e A₁)).length;let A₀:=(aB bV<aB a.length);let aJ:=((decide A₀==false)=true->(decide A₀==false)=true/\True);((0<=aB a.length/\aB a.length<=1000)/\(okM a/\okM (idM A₂)/\List.length a=List.length (idM A₂))/\okE A₁/\True)/\(aJ/\((decide A₀==false)=true->(decide A₀==false)=true/\(decide A₀==false)=true/\0<=IntKind.wrap IntKind.i64 aT/\IntKind.wrap IntKind.i64 aT<aB bV/\True)/\aJ/\((decide A₀==false)=true->(decide A₀==false)=true/\(decide A₀==false)=true/\True)/\(decide A₀=false->(decide A₀==false)=true)/\True)/\ifB (bif decide A₀ then true else decide (List.getD (cZ (a4e A₁)) (IntKind.wrap IntKind.i64 aT).toNat 0 ≥ aB a.length)) (True/\aF (List Rat)=Prod.fst (AY a)/\True/\false=Prod.fst (AY a).2/\True) ((asT Int 0=0/\asT (List (List Rat)) (aF (List Rat))=aF (List Rat)/\True)/\∀ (i:{ k:Nat // k<=List.length a }),let dH:=(List.getD (a0l A₁) (aB (aA i)).toNat (aF Rat));let dD:=(List.take (aB dH.length).toNat dH);asT Bool true=true/\ifB (decide (aB (aA i)<aB a.length)) ((0<=aB (aA i)/\aB (aA i)<aB (a0l A₁).length/\0<=aB a.length/\aB a.length<=aB dH.length/\aB dH.length<=aB dH.length/\List.length (aF Rat)+List.length (List.drop A₂ dD)<=1000000000/\aN none (List.take (aA i) (kD a))+1<=1000000000/\True)/\∃ (i':{ k:Nat // k<=List.length a }),List.length a-aA i'<List.length a-aA i/\IntKind.wrap IntKind.i64 (aB (aA i)+1)=aB (aA i')/\List.take (aA i) (kD a)++(aF Rat++List.drop A₂ dD)::aF (List Rat)=List.take (aA i') (kD a)/\True) (True/\List.take (aA i) (kD a)=Prod.fst (AY a)/\True/\true=Prod.fst (AY a).2/\True))) (by kernel_rfl) ?_
 have hZ:(⟨false,0,[],[]⟩:aH)=bF:=rfl
 dsimp only[aB,asT,aA,aF,Ty.den,Lf.den] at *
 simp only[hZ,Int.toNat_natCast,aC,aj,ah,jh,jg,aN,nameAt,bJ,eX,eY,rowAt,gy,bf]
 have hp:okM a/\wdM a=a.length/\a.length<=32/\uD a.length (a.length+a.length) (fD a.length (ent a) idm) (a.length+a.length):=hp
 obtain⟨ha,hw,h32,hok⟩:=hp
 have q3:=ha.pos
 have hI:isM (idM a.length) a.length a.length:=b0u q3 (by omega)
 have hIk:okM (idM a.length):=(a8p q3).ok hI (by omega)
 have hB:isM (uP a (idM a.length)) a.length (a.length+a.length):=by
  unfold uP;rw[hw,hI.wd];exact qK q3 (by omega) (by omega) (by omega)
 have eB:∀ i,i<a.length->∀ c,c<a.length+a.length->ent (uP a (idM a.length)) i c=fD a.length (ent a) idm i c:=fun i hi c hc=>by
  unfold uP;rw[hI.wd,hw,jQ hi hc];unfold fD;split
  ·rfl
  ·exact jQ hi (by omega)
 have hX:=wL eB (a.length+a.length) (ay _)
 have hE:okE (uP a (idM a.length)):=by
  refine⟨⟨hB.self,fun i hi j hj=>?_⟩,fun t ht i hi c hc=>?_⟩
  ·rw[hB.len] at hi
   rw[hB.wd] at hj
   rw[eB i hi j hj];exact iq (hok.at hi hj) (by omega)
  ·rw[hB.len] at hi ⊢
   rw[hB.wd] at hc ht
   rw[(wL eB t ht).2 i hi c hc];exact hok t ht i hi c hc
 have e1:a4e (uP a (idM a.length))=(red a.length (fD a.length (ent a) idm) (a.length+a.length)).2:=by unfold a4e b5f;rw[hB.len,hB.wd];exact hX.1
 have e2:∀ i,i<a.length->List.getD (a0l (uP a (idM a.length))) i []=(List.range (a.length+a.length)).map ((red a.length (fD a.length (ent a) idm) (a.length+a.length)).1 i):=fun i hi=>by
  unfold a0l b5f;rw[hB.len,hB.wd,gU hi]
  exact qj fun c hc=>hX.2 i hi c (vw.mp hc)
 have e3:(a0l (uP a (idM a.length))).length=a.length:=by unfold a0l;rw[eY,hB.len]
 have ew:IntKind.wrap .i64 ((a.length:Int)-1)=((a.length-1:Nat):Int):=by rw[aP (by omega) (by omega)];omega
 obtain⟨l,p1,p2⟩:=a6k a.length (fD a.length (ent a) idm) a.length a.length
 have hle:=(iV a.length (fD a.length (ent a) idm) a.length).le
 have hlt:=(iV a.length (fD a.length (ent a) idm) a.length).lt
 have hle2:=(iV a.length (fD a.length (ent a) idm) (a.length+a.length)).le
 simp only[e1,e3,ew,zO,Int.toNat_natCast]
 refine⟨⟨⟨by omega,by omega⟩,⟨ha,hIk,hI.len.symm⟩,hE⟩,⟨fun h=>h,fun h=>⟨h,h,by omega,?_⟩,fun h=>h,fun h=>⟨h,h⟩,fun h=>by rw[ny h];rfl⟩,fun h=>?_,fun h i=>?_⟩
 ·have h:decide (((red a.length (fD a.length (ent a) idm) (a.length+a.length)).2.length:Int)<(a.length:Int))=false:=by simpa using h
  have h:=ug h
  omega
 ·have hr:DZ a=false:=by
   refine ny fun hr=>?_
   have hr:(red a.length (fD a.length (ent a) idm) a.length).2.length=a.length:=hr
   have hs:=JH hr a.length
   rw[hs,ny (by omega)] at h
   have h:=qw h
   rw[XQ (by omega)] at h
   have:=hlt _ (XF (d:=0) (show a.length-1<(red a.length (fD a.length (ent a) idm) a.length).2.length by omega))
   omega
  have e:AY a=([],false,()):=by unfold AY;rw[hr];rfl
  rw[e];exact⟨rfl,rfl⟩
 ·have hr:DZ a=true:=by
   refine uf ?_
   show (red a.length (fD a.length (ent a) idm) a.length).2.length=a.length
   by_cases f:(((red a.length (fD a.length (ent a) idm) (a.length+a.length)).2.length:Int)<(a.length:Int))
   ·rw[uf f] at h;cases h
   ·rw[ny f] at h
    have h:=ug h
    rw[XQ (by omega),p1] at h
    by_cases g:(red a.length (fD a.length (ent a) idm) a.length).2.length=a.length
    ·exact g
    ·exfalso
     rw[p1,jl] at f
     have hm:((red a.length (fD a.length (ent a) idm) a.length).2++l).getD (a.length-1) 0 ∈ l:=by
      rw[iy,Eh (by omega)]
      exact XF (d:=0) (xs:=l) (i:=a.length-1-(red a.length (fD a.length (ent a) idm) a.length).2.length) (by omega)
     have:=p2 _ hm
     omega
  have e:AY a=(kD a,true,()):=by unfold AY;rw[hr];rfl
  have hs:red a.length (fD a.length (ent a) idm) (a.length+a.length)=EX a:=JH (qw hr) a.length
  have hl:(kD a).length=a.length:=eY
  rw[e]
  refine⟨fun h1=>?_,fun h1=>⟨jv (by rw[hl];omega),rfl⟩⟩
  have hi:i.1<a.length:=by omega
  rw[e2 i.1 hi,hs,ru,bf,jv (by simp),a9t]
  refine⟨⟨by omega,h1,by omega,by omega,by omega,by simp;omega,by rw[ni];omega⟩,⟨i.1+1,by omega⟩,by simp only;omega,by rw[aP (by omega) (by omega)];rfl,?_⟩
  rw[Ai]
  have e4:(kD a)[i.1]?=some ((List.range a.length).map (fun j=>(EX a).1 i.1 (a.length+j))):=by
   unfold kD tab;simp[hi]
  rw[e4];simp
set_option maxHeartbeats 4000000
noncomputable def b6J:Ctr:=⟨[tM],[tM,tB],fun x=>(okM x.1/\wdM (show MQ from x.1)=(show MQ from x.1).length/\(show MQ from x.1).length<=32/\uD (show MQ from x.1).length ((show MQ from x.1).length+(show MQ from x.1).length) (fD (show MQ from x.1).length (ent x.1) idm) ((show MQ from x.1).length+(show MQ from x.1).length))/\DZ x.1=true,fun x=>(stk (show MQ from x.1).length (kD x.1),true,())⟩
theorem a7t:aI Tryz.prog 68 b6J:=b3v b1U (fun x h=>h.1) fun x h=>by
 refine(show AY x.1=(kD x.1,true,()) from ?_).trans (vg (fun y:MQ=>(y,true,())) (a1f _ _).symm)
 unfold AY
 rw[jm h.2]
noncomputable def c1J:Ctr:=⟨[.list tQ],[tM],fun x=>(show LQ' from x.1).length=3/\∀ q ∈ (show LQ' from x.1),rsz q<=1000,fun x=>(stk (lv x.1 0).num.natAbs (NZ x.1),())⟩
theorem a9k:aI Tryz.prog 34 c1J:=qJ a9j fun x _=>vW _ _
theorem a2i {s:dN} (h:nX s):okM (dO s)/\wdM (dO s)=(dO s).length/\(dO s).length<=32/\uD (dO s).length ((dO s).length+(dO s).length) (fD (dO s).length (ent (dO s)) idm) ((dO s).length+(dO s).length):=by
 have hm:=nK s
 have hc:=WH h
 refine⟨a2C hm hc (by omega),by rw[hm.len,hm.wd],by rw[hm.len];omega,?_⟩
 rw[hm.len]
 exact a5U (hc.EX hm) (by omega) (by omega)
theorem b1n:aI Tryz.prog 13 c2c:=by
 refine aK (((((((((nil0.ad a5D).ad b0p).ad a5K).ad a7t).ad b2N).ad a8C).ad a9k).ad b2K).ad a6V) ⟨[],[],[]⟩ Tryz.func13 rfl (by decide) (fun x=>[]) (fun x hp=>?_)
 obtain⟨a,b,u⟩:=x
 change dN at a
 change dN at b
 refine aU (let aJ:=(a::b::aF ((Int × Int × Int × PUnit) × (Int × Int × Int × Int × PUnit) × Int × (Int × Int × PUnit) × PUnit));let dH:=(asT Int b.1.1-asT Int a.1.1);let fZ:=b.2.1;let dU:=a.1.2;let gX:=b.1.2;let dD:=(asT Int gX.2.1-asT Int dU.2.1);let eP:=(asT Int gX.1-asT Int dU.1);let A₂:=(aO dH::aO eP::aO dD::aF Rat);let iZ:=a.2.2.2.1;let jO:=(List.length (dO a)+List.length (dO a));let kL:=b.2.2.2.1;let oW:=(List.length (dO b)+List.length (dO b));let nU:=(dO a).length;let rE:=(dO b).length;let aT:=(stk rE (kD (dO b)));let A₀:=(stk aT.length (trM aT)::stk (qMx fZ).length (trM (qMx fZ))::stk (Int.natAbs dH) (NZ A₂)::qMx a.2.1::stk nU (kD (dO a))::aF (List (List Rat)));let A₁:=(stk aT.length (trM aT));let bV:=(stk A₁.length (iI A₁ (List.drop 1 A₀)));(List.length aJ<=1000000/\True)/\ifB (pG aJ != 0) (True/\aF (List Rat)=Prod.fst (fO a b)/\True/\pG aJ=Prod.fst (fO a b).2/\True) (ifB (eqD (Ty.pair (Ty.int IntKind.i64) (Ty.pair (Ty.int IntKind.i64) (Ty.pair (Ty.int IntKind.i64) Ty.unit))) a.1 b.1) (True/\aF (List Rat)=Prod.fst (fO a b)/\True/\13=Prod.fst (fO a b).2/\True) ((qOk a.2.1/\True)/\(qOk fZ/\True)/\((aX (asT Int a.2.2.1)/\aX (asT Int iZ.1)/\aX (asT Int iZ.2.1))/\((okM (dO a)/\wdM (dO a)=List.length (dO a)/\List.length (dO a)<=32/\uD nU jO (fD nU (ent (dO a)) idm) jO)/\DZ (dO a)=true)/\True)/\((aX (asT Int b.2.2.1)/\aX (asT Int kL.1)/\aX (asT Int kL.2.1))/\((okM (dO b)/\wdM (dO b)=List.length (dO b)/\List.length (dO b)<=32/\uD rE oW (fD rE (ent (dO b)) idm) oW)/\DZ (dO b)=true)/\True)/\(okM aT/\okM (qMx fZ)/\((cdI (asT Int a.1.1)/\cdI (asT Int dU.1)/\cdI (asT Int dU.2.1))/\cdI (asT Int b.1.1)/\cdI (asT Int gX.1)/\cdI (asT Int gX.2.1))/\(List.length A₂=3/\∀ (q:Rat),q ∈ aO dH::aO eP::aO dD::aF Rat->rsz q<=1000)/\(0<List.length A₀/\JE A₁ (List.drop 1 A₀))/\(m33 1000000 bV/\∃ (q:Rat),q ∈ List.flatten bV/\q≠0)/\True)/\True/\stk bV.length (uQ (List.flatten bV))=Prod.fst (fO a b)/\True/\0=Prod.fst (fO a b).2/\True))) (by kernel_rfl) ?_
 have hZ:(⟨false,0,[],[]⟩:aH)=bF:=rfl
 try simp only[aC,aj,ah]
 try dsimp only[aB,asT,aA,aF,Ty.den,Lf.den] at *
 try simp only[hZ,Int.toNat_natCast,aC,aj,ah,jh,jg,gy,bf]
 try simp only[bT,bP,List.all_cons,List.all_nil,jk,dw,ig,jf,jy,ne_eq,au,bg,dn,eu,jd,oq,jr,ou,jh,jg,iw,bn,List.length_cons,List.length_nil]
 simp only[a1f]
 refine⟨by omega,fun h=>?_,fun h=>⟨fun h2=>?_,fun h2=>?_⟩⟩
 ·unfold fO;rw[jm h];exact⟨rfl,rfl⟩
 ·have h2:NY a b:=qw ((b3C a.1 b.1).symm.trans h2)
  unfold fO;rw[ji (by rw[h];exact fun e=>e rfl),jm h2];exact⟨rfl,rfl⟩
 ·have h2:¬ NY a b:=ug ((b3C a.1 b.1).symm.trans h2)
  obtain⟨ha,hb⟩:=MJ h
  have e:fO a b=(uQ (FM a b).flatten,0,()):=by unfold fO;rw[ji (by rw[h];exact fun e=>e rfl),ji h2]
  rw[e]
  have hf:iI (trM (kD (dO b))) [trM (qMx b.2.1),NZ [aO (b.1.1-a.1.1),aO (b.1.2.1-a.1.2.1),aO (b.1.2.2.1-a.1.2.2.1)],qMx a.2.1,kD (dO a)]=FM a b:=by
   simp only[LX,FH];unfold FM nZ;rfl
  simp only[List.drop_succ_cons,List.drop_zero]
  rw[hf]
  obtain⟨hp9,h9⟩:=a4K ha hb h2
  have hs:=a8v ha hb
  have wk:∀ s:dN,nX s->aX s.2.2.1/\aX s.2.2.2.1.1/\aX s.2.2.2.1.2.1:=fun s h=>⟨⟨by have:=h.2.2.1;omega,by have:=h.2.2.1;omega⟩,h.2.2.2.1.word,h.2.2.2.2.word⟩
  have pp:=a2J ha hb
  clear hf e
  generalize FM a b=F at *
  refine⟨ha.2.1,hb.2.1,⟨wk a ha,a2i ha,(CV ha).1.2⟩,⟨wk b hb,a2i hb,(CV hb).1.2⟩,⟨(CV hb).2,a2C (q33 _) (VJ hb.2.1) (by omega),⟨⟨ha.1.1,ha.1.2.1,ha.1.2.2⟩,hb.1.1,hb.1.2.1,hb.1.2.2⟩,fun q hq=>?_,⟨by omega,pp⟩,hs.mono (by omega),hp9.2.2⟩,rfl,trivial⟩
  simp only[qh,yw,Eo] at hq
  rcases hq with rfl|rfl|rfl
  ·exact iq (oP _) (by have:=(hb.1.1.d ha.1.1).1;omega)
  ·exact iq (oP _) (by have:=(hb.1.2.1.d ha.1.2.1).1;omega)
  ·exact iq (oP _) (by have:=(hb.1.2.2.d ha.1.2.2).1;omega)
noncomputable def LIm:Lib:=((LR0.add 58 (cIQ aX (fun i=>(i:Rat))) wM).add 29 b6L a5K).add 71 c2l a6q
noncomputable def c3M:Lib:=LIm.add 19 c1w UA
def kC (s:dN) (p:kP):LQ' × Bool × Unit:=if sgn (lv (jV s p) 2).num<=0 then ([],false,()) else (vT s p,true,())
theorem b1o {K:Nat} {x:MQ} (h:isM x 3 3) (c:CdM x K) (hK:K<=1000:=by omega):okM x:=⟨by rw[h.len,h.wd];exact h,c.sz (by omega)⟩
theorem b1O {s:dN} {p:kP} (hs:nX s) (hp:JR p):∀ q ∈ a0O s p,rsz q<=2:=fun q hq=>by
 simp only[a0O,qh,yw,Eo] at hq
 rcases hq with rfl|rfl|rfl
 ·exact iq (oP _) (Ej (hp.1.d hs.1.1).1 1)
 ·exact iq (oP _) (Ej (hp.2.1.d hs.1.2.1).1 1)
 ·exact iq (oP _) (Ej (hp.2.2.d hs.1.2.2).1 1)
theorem a4T (s:dN) (p:kP):(jV s p).length=3:=by unfold jV;rw[a0H];exact(q33 _).trp.len
theorem a8M {s:dN} {p:kP} (hs:nX s) (hp:JR p):∀ q ∈ jV s p,rsz q<=100:=fun q hq=>iq (b1e (q33 _).trp (((VJ hs.2.1).trp (q33 _)).sz (ay _)) (b1O hs hp) rfl q hq) (by omega)
theorem a5w {s:dN} {p:kP} (hs:nX s) (hp:JR p) (hne:lv (jV s p) 2≠0):∀ q ∈ vT s p,rsz q<=1000:=fun q hq=>by
 have hl:=a4T s p
 have hz:=a8M hs hp
 have c0:rsz (lv (jV s p) 0)<=100:=bU hz (by omega)
 have c1:rsz (lv (jV s p) 1)<=100:=bU hz (by omega)
 have c2:rsz (lv (jV s p) 2)<=100:=bU hz (by omega)
 have f1:rsz (aO s.2.2.1)<=2:=iq (oP _) (Ej (a7u (by have:=hs.2.2.1;omega)) 1)
 have g1:rsz (aO s.2.2.2.1.1)<=2:=hs.2.2.2.1.sz
 have g2:rsz (aO s.2.2.2.1.2.1)<=2:=hs.2.2.2.2.sz
 have m0:=lS (aO s.2.2.1) (lv (jV s p) 0)
 have m1:=lS (aO s.2.2.1) (lv (jV s p) 1)
 have d0:=JJ (aO s.2.2.1*lv (jV s p) 0) (lv (jV s p) 2) hne
 have d1:=JJ (aO s.2.2.1*lv (jV s p) 1) (lv (jV s p) 2) hne
 simp only[vT,qh,yw,Eo] at hq
 rcases hq with rfl|rfl|rfl
 ·have:=PU (aO s.2.2.1*lv (jV s p) 0 / lv (jV s p) 2) (aO s.2.2.2.1.1);omega
 ·have:=PU (aO s.2.2.1*lv (jV s p) 1 / lv (jV s p) 2) (aO s.2.2.2.1.2.1);omega
 ·decide +kernel
noncomputable def c4d:Ctr:=⟨[FP,a6B],[.list tQ,tB],fun x=>nX x.1/\JR x.2.1,fun x=>kC x.1 x.2.1⟩
theorem b3N:aI Tryz.prog 16 c4d:=by
 refine aK c3M ⟨[9,11],[],[]⟩ Tryz.func16 rfl (by decide) (fun x=>[]) (fun x hp=>?_)
 obtain⟨s,p,u⟩:=x
 change dN at s
 change kP at p
 refine aU (let A₁:=(IntKind.wrap IntKind.i64 (asT Int p.2.2.1-asT Int s.1.2.2.1));let A₂:=(asT Int s.2.2.1);let aJ:=(IntKind.wrap IntKind.i64 (asT Int p.2.1-asT Int s.1.2.1));let aT:=(IntKind.wrap IntKind.i64 (asT Int p.1-asT Int s.1.1));let bV:=s.2.2.2.1;let dH:=(qMx s.2.1);let dD:=(asT Int bV.2.1);let eP:=(aO aT::aO aJ::aO A₁::aF Rat);let A₀:=(mvL (trM dH) eP);let fZ:=(asT Int bV.1);(qOk s.2.1/\True)/\(okM dH/\aX aT/\aX aJ/\aX A₁/\(okM (trM dH)/\szM (trM dH) 1000000/\List.length eP=wdM (trM dH)/\∀ (q:Rat),q ∈ aO aT::aO aJ::aO A₁::aF Rat->rsz q<=1000000)/\True)/\(asT Int 0<=2/\2<aB A₀.length/\rsz (List.getD A₀ 2 0)<=190000000/\True)/\ifB (decide (sgn (Rat.num (List.getD A₀ 2 0))<=0)) (True/\aF Rat=Prod.fst (kC s p)/\True/\false=Prod.fst (kC s p).2/\True) ((aX A₂/\asT Int 0<=0/\0<aB A₀.length/\s19 (aO A₂) (List.getD A₀ 0 0)/\asT Int 0<=2/\2<aB A₀.length/\(s19 (aO A₂*List.getD A₀ 0 0) (List.getD A₀ 2 0)/\List.getD A₀ 2 0≠0)/\True)/\(aX A₂/\asT Int 0<=1/\1<aB A₀.length/\s19 (aO A₂) (List.getD A₀ 1 0)/\asT Int 0<=2/\2<aB A₀.length/\(s19 (aO A₂*List.getD A₀ 1 0) (List.getD A₀ 2 0)/\List.getD A₀ 2 0≠0)/\True)/\(aX fZ/\s19 (aO A₂*List.getD A₀ 0 0 / List.getD A₀ 2 0) (aO fZ)/\aX dD/\s19 (aO A₂*List.getD A₀ 1 0 / List.getD A₀ 2 0) (aO dD)/\aX 1/\True)/\True/\(aO A₂*List.getD A₀ 0 0 / List.getD A₀ 2 0+aO fZ)::(aO A₂*List.getD A₀ 1 0 / List.getD A₀ 2 0+aO dD)::aO 1::aF Rat=Prod.fst (kC s p)/\True/\true=Prod.fst (kC s p).2/\True)) (by kernel_rfl) ?_
 have hZ:(⟨false,0,[],[]⟩:aH)=bF:=rfl
 try simp only[aC,aj,ah]
 try dsimp only[aB,asT,aA,aF,Ty.den,Lf.den] at *
 try simp only[hZ,Int.toNat_natCast,aC,aj,ah,jh,jg,gy,bf]
 try simp only[bT,bP,List.all_cons,List.all_nil,jk,dw,ig,jf,jy,ne_eq,au,bg,dn,eu,jd,oq,jr,ou,jh,jg,iw,bn,List.length_cons,List.length_nil]
 obtain⟨hs,hp⟩:nX s/\JR p:=hp
 obtain⟨⟨s1,s2⟩,⟨s3,s4⟩,s5,s6⟩:=hs.1
 obtain⟨⟨p1,p2⟩,⟨p3,p4⟩,p5,p6⟩:=hp
 simp(disch:=omega) only[aP]
 rw[show [aO (p.1-s.1.1),aO (p.2.1-s.1.2.1),aO (p.2.2.1-s.1.2.2.1)]=a0O s p from rfl,show mvL (trM (qMx s.2.1)) (a0O s p)=jV s p from rfl]
 have hl:=a4T s p
 have hz:=a8M hs ⟨⟨p1,p2⟩,⟨p3,p4⟩,p5,p6⟩
 have c0:rsz ((jV s p).getD 0 0)<=100:=bU hz (by omega)
 have c1:rsz ((jV s p).getD 1 0)<=100:=bU hz (by omega)
 have c2:rsz ((jV s p).getD 2 0)<=100:=bU hz (by omega)
 have qm:=(VJ hs.2.1).trp (q33 _)
 have f1:rsz (aO s.2.2.1)<=2:=iq (oP _) (Ej (a7u (by have:=hs.2.2.1;omega)) 1)
 have g1:rsz (aO s.2.2.2.1.1)<=2:=hs.2.2.2.1.sz
 have g2:rsz (aO s.2.2.2.1.2.1)<=2:=hs.2.2.2.2.sz
 have m0:=lS (aO s.2.2.1) ((jV s p).getD 0 0)
 have m1:=lS (aO s.2.2.1) ((jV s p).getD 1 0)
 have wf:aX s.2.2.1:=⟨by have:=hs.2.2.1;omega,by have:=hs.2.2.1;omega⟩
 refine⟨hs.2.1,⟨b1o (q33 _) (VJ hs.2.1),⟨by omega,by omega⟩,⟨by omega,by omega⟩,⟨by omega,by omega⟩,b1o (q33 _).trp qm,qm.sz (by omega),by rw[(q33 _).trp.wd],fun q hq=>iq (b1O hs ⟨⟨p1,p2⟩,⟨p3,p4⟩,p5,p6⟩ q hq) (by omega)⟩,⟨by omega,by omega,by omega⟩,fun h=>?_,fun h=>?_⟩
 ·rw[show kC s p=([],false,()) from jm h];exact⟨rfl,rfl⟩
 ·have hne:¬ (jV s p).getD 2 0=0:=fun e=>h (by rw[e];decide)
  have d0:=JJ (aO s.2.2.1*(jV s p).getD 0 0) ((jV s p).getD 2 0) hne
  have d1:=JJ (aO s.2.2.1*(jV s p).getD 1 0) ((jV s p).getD 2 0) hne
  rw[show kC s p=(vT s p,true,()) from ji h]
  exact⟨⟨wf,by omega,by omega,⟨by omega,by omega⟩,by omega,by omega,⟨by omega,by omega⟩,hne⟩,⟨wf,by omega,by omega,⟨by omega,by omega⟩,by omega,by omega,⟨by omega,by omega⟩,hne⟩,⟨hs.2.2.2.1.word,⟨by omega,by omega⟩,hs.2.2.2.2.word,⟨by omega,by omega⟩,⟨by omega,by omega⟩⟩,rfl,rfl⟩
theorem XP {s:dN} {p:kP} (h:(kC s p).2.1=true):lv (jV s p) 2≠0:=fun e=>by
 unfold kC at h
 rw[e,jm (by decide +kernel)] at h
 cases h
theorem a2g {s:dN} {p:kP} (h:(kC s p).2.1=true):kC s p=(vT s p,true,()):=by
 unfold kC at *
 split at h
 ·cases h
 ·rename_i e;rw[ji e]
abbrev Rw:=Nat->Rat
def yP (F:List Rw->Rat) (c:Nat):List Rw->List Rw->Rat
 | _,[]=>0
 | pre,x::post=>x c*F (pre++post)-yP F c (pre++[x]) post
def DT:List Nat->List Rw->Rat
 | [],[]=>1
 | [],_::_=>0
 | c::cs,rows=>yP (DT cs) c [] rows
theorem wC {r:List Rw} (h:r≠[]):DT [] r=0:=by cases r with|nil=>exact absurd rfl h|cons=>rfl
def b2X (F:List Rw->Rat):Prop:=∀ a x y b,F (a++x::y::b)=-F (a++y::x::b)
theorem a2n {F:List Rw->Rat} (hF:b2X F) {c:Nat} {p x y:_}:∀ (post q:List Rw),yP F c (p++x::y::q) post=-yP F c (p++y::x::q) post
 | [],q=>by simp only[yP,Rat.neg_zero]
 | z::post,q=>by
  simp only[yP,wz,List.cons_append]
  rw[hF,a2n hF post (q++[z])]
  grind
theorem XU {F:List Rw->Rat} (hF:b2X F) {c:Nat} {x y:Rw} {post:List Rw}:∀ (l pre:List Rw),yP F c pre (l++x::y::post)=-yP F c pre (l++y::x::post)
 | [],pre=>by
  have h:=a2n hF (c:=c) (p:=pre) (x:=x) (y:=y) post []
  simp only[List.nil_append,yP,wz,List.cons_append]
  rw[h]
  grind
 | z::l,pre=>by
  have h:=XU hF (c:=c) (x:=x) (y:=y) (post:=post) l (pre++[z])
  have h2:=hF (pre++l) x y post
  simp only[wz] at h2
  simp only[List.cons_append,yP]
  rw[h,h2]
  grind
theorem WL:∀ cs,b2X (DT cs)
 | []=>fun a x y b=>by
  rw[wC (by simp),wC (by simp)];rfl
 | c::cs=>fun a x y b=>XU (WL cs) a []
theorem a4P {F:List Rw->Rat} (hF:b2X F) {x:Rw} {c:List Rw}:∀ (b a:List Rw),F (a++x::(b++x::c))=0
 | [],a=>by
  have h:=hF a x x c
  simp only[List.nil_append]
  grind
 | y::b,a=>by
  have h:=a4P hF (x:=x) (c:=c) b (a++[y])
  rw[wz] at h
  rw[List.cons_append,hF]
  simp only[List.cons_append,List.nil_append] at h
  rw[h];rfl
theorem a9n {cs:List Nat} {rows:List Rw} {x:Rw} (h:x ∈ rows):DT cs (rows++[x])=0:=by
 obtain⟨a,b,rfl⟩:=List.append_of_mem h
 have:=a4P (WL cs) (x:=x) (c:=[]) b a
 simpa using this
theorem a1D {t:Rat} {u v:Rw}:∀ (cs:List Nat) (rows:List Rw),DT cs (rows++[fun i=>u i+t*v i])=DT cs (rows++[u])+t*DT cs (rows++[v])
 | [],rows=>by
  rw[wC (by simp),wC (by simp),wC (by simp)];grind
 | c::cs,rows=>by
  have h:∀ (l pre:List Rw),yP (DT cs) c pre (l++[fun i=>u i+t*v i])=yP (DT cs) c pre (l++[u])+t*yP (DT cs) c pre (l++[v]):=fun l=>by
   induction l with
   | nil=>intro pre;simp only[List.nil_append,yP];grind
   | cons z l ih =>
    intro pre
    have e:=a1D cs (pre++l) (t:=t) (u:=u) (v:=v)
    simp only[wz] at e
    simp only[List.cons_append,yP]
    rw[e,ih]
    grind
  exact h rows []
theorem WM {v:Rw}:∀ (cs:List Nat) (rows:List Rw),(∀ c ∈ cs,v c=0)->DT cs (rows++[v])=0
 | [],rows,_=>wC (by simp)
 | c::cs,rows,hv=>by
  have h:∀ (l pre:List Rw),yP (DT cs) c pre (l++[v])=0:=fun l=>by
   induction l with
   | nil=>intro pre;simp only[List.nil_append,yP];rw[hv c (by simp)];grind
   | cons z l ih =>
    intro pre
    have e:=WM cs (pre++l) fun d hd=>hv d (by simp[hd])
    simp only[wz] at e
    simp only[List.cons_append,yP]
    rw[e,ih]
    grind
  exact h rows []
def isI (x:Rat):Prop:=∃ n:Int,x=(n:Rat)
theorem isI.mul {x y:Rat}:isI x->isI y->isI (x*y)
 | ⟨a,ha⟩,⟨b,hb⟩=>⟨a*b,by rw[ha,hb,yg]⟩
theorem isI.sub {x y:Rat}:isI x->isI y->isI (x-y)
 | ⟨a,ha⟩,⟨b,hb⟩=>⟨a-b,by rw[ha,hb,Rat.intCast_sub]⟩
theorem isI.neg {x:Rat}:isI x->isI (-x)
 | ⟨a,ha⟩=>⟨-a,by rw[ha,Rat.intCast_neg]⟩
def isR (v:Rw):Prop:=∀ i,isI (v i)
def Spn (rows:List Rw) (v:Rw):Prop:=∀ P:Rw->Prop,(∀ a ∈ rows,P a)->P (fun _=>0)->(∀ (u w:Rw) (t:Rat),P u->P w->P (fun i=>u i+t*w i))->P v
theorem Spn.det {rows:List Rw} {v:Rw} (h:Spn rows v) (cs:List Nat):DT cs (rows++[v])=0 :=
 h (fun v=>DT cs (rows++[v])=0) (fun a ha=>a9n ha) (WM cs rows fun _ _=>rfl) (fun u w t hu hw=>by rw[a1D,hu,hw];grind)
theorem Spn.mono {rows rows':List Rw} {v:Rw} (h:Spn rows v) (hs:∀ a ∈ rows,a ∈ rows'):Spn rows' v:=fun P h1 h2 h3=>h P (fun a ha=>h1 a (hs a ha)) h2 h3
theorem Spn.zero {rows:List Rw}:Spn rows (fun _=>0):=fun P _ h2 _=>h2
theorem Spn.add {rows:List Rw} {u w:Rw} {t:Rat} (h1:Spn rows u) (h2:Spn rows w):Spn rows (fun i=>u i+t*w i):=fun P a b c=>c u w t (h1 P a b c) (h2 P a b c)
def kd (R:Nat) (e:Mt):Nat->Rat
 | 0=>1
 | n+1 =>
  if fk (red R e n).1 n (red R e n).2.length (R-(red R e n).2.length)=R then kd R e n
  else kd R e n*(red R e n).1 (fk (red R e n).1 n (red R e n).2.length (R-(red R e n).2.length)) n
def a2P (A:Nat->Rw) (r:Nat):List Rw:=(List.range r).map A
structure FF (R:Nat) (m:Mt) (p:List Nat) (d:Rat) (A:Nat->Rw):Prop where
 int:∀ i,i<R->isR (A i)
 top:∀ t,t<p.length->Spn (a2P A p.length) (m t)
 low:∀ i,p.length<=i->i<R->Spn (a2P A p.length) (fun j=>A i j+(-1)*m i j)
 det:DT p.reverse (a2P A p.length)=d\/DT p.reverse (a2P A p.length)=-d
 nz:d≠0
theorem FF.rows {R:Nat} {m:Mt} {p:List Nat} {d:Rat} {A:Nat->Rw} (F:FF R m p d A) (hp:p.length<=R):∀ r ∈ a2P A p.length,isR r:=fun r hr=>by
 obtain⟨i,hi,rfl⟩:=uw.1 hr
 exact F.int i (by have:=vw.1 hi;omega)
section
theorem isI.num {x:Rat} (h:isI x):((x.num:Int):Rat)=x:=by
 obtain⟨n,rfl⟩:=h
 rw[Rat.num_intCast]
section
variable {R:Nat} {e:Mt} (he:∀ i,i<R->isR (e i))
include he
omit he in
omit he in
omit he in
omit he in
omit he in
omit he in
omit he in
omit he in
end
end
theorem w1 {n:Int} (h:isz n<=1):aX n:=by
 have h1:=lG (bY n.natAbs)
 rw[bK] at h1
 have h2:BB ^ (dig n.natAbs).length<=BB ^ 1:=xu gG h
 have:BB ^ 1=1000000000:=by rw[bM]
 exact⟨by omega,by omega⟩
def nP (p:b5K):Prop:=nI p.1.1/\nI p.1.2.1/\nI p.2.1.1/\nI p.2.1.2.1
theorem nI.cd {n:Int} (h:nI n):cdI n:=⟨by have:=h.1;omega,by have:=h.2;omega⟩
theorem nP.cd {p:b5K} (h:nP p):cdP p.1/\cdP p.2.1:=⟨⟨h.1.cd,h.2.1.cd⟩,h.2.2.1.cd,h.2.2.2.cd⟩
theorem WJ (l:LQ'):(KN l).flatten=l:=by
 show l.take 3++((l.take 6).drop 3++(l.drop 6++[]))=l
 have e:l.take 3=(l.take 6).take 3:=by rw[List.take_take];rfl
 rw[e,<-wz,Ag,Ba,Ag]
theorem a9m {l r:LQ'} (hr:r ∈ KN l) {q:Rat} (hq:q ∈ r):q ∈ l:=by
 rw[<-WJ l];exact List.mem_flatten.2 ⟨r,hr,hq⟩
theorem a8O {l:LQ'} (h:yQ l) (h9:l.length=9):JW (uQ l):=by
 have hl:((qC l).map fun n=>aO n).length=9:=by rw[ru,AO,h9]
 have hs:∀ q ∈ ((qC l).map fun n=>aO n),rsz q<=100000000:=fun q hq=>by
  obtain⟨n,hn,rfl⟩:=uw.1 hq
  have:=a6g h n hn
  have h2:rsz (aO n)<=isz n+1:=oP n
  omega
 refine⟨by show 3<=1000;omega,fun r hr=>?_⟩
 simp only[uQ,KN,qh,yw,Eo] at hr
 rcases hr with rfl|rfl|rfl
 ·exact⟨by rw[ni];omega,fun q hq=>hs q (Ak hq)⟩
 ·exact⟨by rw[zl,ni];omega,fun q hq=>hs q (Ak (List.mem_of_mem_drop hq))⟩
 ·exact⟨by rw[zl];omega,fun q hq=>hs q (List.mem_of_mem_drop hq)⟩
theorem a9l {K:Nat} {l:LQ'} (h9:l.length=9) (hs:∀ q ∈ l,rsz q<=K):m33 K (KN l):=by
 have hl:∀ r ∈ KN l,r.length=3:=fun r hr=>by
  simp only[KN,qh,yw,Eo] at hr
  rcases hr with rfl|rfl|rfl<;>simp[h9]
 have hm:isM (KN l) 3 3:=⟨rfl,hl,by omega,by omega,by omega,by omega⟩
 refine⟨hm,fun i hi j hj=>?_⟩
 rw[hm.wd] at hj
 have hr:=nJ (xs:=KN l) (d:=[]) (i:=i) hi
 exact hs _ (a9m hr (nJ (by rw[hl _ hr];exact hj)))
theorem c3o (q:Rat):q*aO ((q.den:Nat):Int)=aO q.num:=by
 have h:aO ((q.den:Nat):Int)≠0:=fun e=>by
  have e:(((q.den:Nat):Int):Rat)=((0:Int):Rat):=e
  have:=Rat.intCast_inj.1 e
  have:=q.den_nz
  omega
 have e:q=aO q.num / aO ((q.den:Nat):Int):=by
  show q=((q.num:Int):Rat) / (((q.den:Nat):Int):Rat)
  rw[<-Dq];exact(Rat.num_divInt_den q).symm
 have m:=Bq _ h
 rw[Rat.div_def] at e
 have e2:q*aO ((q.den:Nat):Int)=aO q.num*(aO ((q.den:Nat):Int))⁻¹*aO ((q.den:Nat):Int):=vg (fun r=>r*aO ((q.den:Nat):Int)) e
 rw[e2,Rat.mul_assoc,Rat.mul_comm (aO ((q.den:Nat):Int))⁻¹,m,Rat.mul_one]
theorem c2t {D:Int} {q:Nat->Rat} {j:Nat} (h:((q j).den:Int) ∣ D):aO (QL D q j)=aO D*q j:=by
 unfold QL
 obtain⟨t,rfl⟩:=h
 have hd:((q j).den:Int)≠0:=by have:=(q j).den_nz;omega
 have e:=c3o (q j)
 rw[Dt _ hd,SE,SE,<-e]
 grind
theorem c5i {xs:Nat->Int} {n j:Nat} (hj:j<n) (h0:prG xs n≠0):aO (prG xs n)*aO (prN xs n j)=aO (xs j):=by
 obtain⟨t,e⟩:=a6b (xs:=xs) hj
 unfold prN
 rw[e,Dt _ h0,SE]
theorem b3h {l:LQ'} (h:yQ l) (r:Nat->Rat) (hz:sm l.length (fun j=>r j*lv l j)=0):sm l.length (fun j=>r j*aO ((qC l).getD j 0))=0:=by
 obtain⟨hK,j0,hj0,hx0⟩:=h.at
 have hg:prG (lcN l) l.length≠0:=TW hj0 (GK (IQ _ _) (oL hj0) hx0)
 have hgq:aO (prG (lcN l) l.length)≠0:=fun e=>by
  have e:((prG (lcN l) l.length:Int):Rat)=((0:Int):Rat):=e
  exact hg (Rat.intCast_inj.1 e)
 have e:∀ j,j<l.length->aO (prG (lcN l) l.length)*(r j*aO ((qC l).getD j 0))=aO (kV (lv l) l.length)*(r j*lv l j):=fun j hj=>by
  have e1:(qC l).getD j 0=prN (lcN l) l.length j:=by unfold qC b1C;exact fM hj
  rw[e1]
  have e2:aO (prG (lcN l) l.length)*aO (prN (lcN l) l.length j)=aO (lcN l j):=c5i hj hg
  have e3:aO (lcN l j)=aO (kV (lv l) l.length)*lv l j:=c2t (oL hj)
  rw[e3] at e2
  generalize aO (prG (lcN l) l.length)=a at *
  generalize aO (prN (lcN l) l.length j)=b at *
  generalize aO (kV (lv l) l.length)=d at *
  generalize lv l j=f at *
  generalize r j=k
  grind
 have e4:=dQ l.length e
 rw[uI,uI,hz,Rat.mul_zero] at e4
 exact(Rat.mul_eq_zero.1 e4).resolve_left hgq
theorem b7A {P:List Int} {c:Nat} (h:c<P.length):lv (P.map fun n=>aO n) c=aO (P.getD c 0):=by
 show (P.map fun n=>aO n).getD c 0=_
 rw[iy,xk,jc h,iy,jc h];rfl
set_option maxHeartbeats 400000
def mvS (s:dN) (p:kP):dN:=((IntKind.wrap .i64 (s.1.1+p.1),IntKind.wrap .i64 (s.1.2.1+p.2.1),IntKind.wrap .i64 (s.1.2.2.1+p.2.2.1),()),s.2.1,s.2.2.1,s.2.2.2.1,())
theorem YH (a b:dN):((fO a b).2.1≠0/\(fO a b).1=[])\/(pG [a,b]=0/\¬ NY a b/\fO a b=(uQ (FM a b).flatten,0,())):=by
 unfold fO
 by_cases h:pG [a,b]≠0
 ·rw[jm h];exact .inl ⟨h,rfl⟩
 ·rw[ji h]
  have h:=Decidable.not_not.1 h
  by_cases h2:NY a b
  ·rw[jm h2];exact .inl ⟨by decide,rfl⟩
  ·rw[ji h2];exact .inr ⟨h,h2,rfl⟩
theorem a3U {a b:dN} (h:(fO a b).2.1=0):pG [a,b]=0/\¬ NY a b/\fO a b=(uQ (FM a b).flatten,0,()):=by
 rcases YH a b with e|e
 ·exact absurd h e.1
 ·exact e
theorem TT (a b:dN):JW (fO a b).1:=by
 rcases YH a b with e|⟨h,h2,e⟩
 ·rw[e.2];exact⟨uq _,fun r hr=>nomatch hr⟩
 ·obtain⟨ha,hb⟩:=MJ h
  obtain⟨hp9,h9⟩:=a4K ha hb h2
  rw[vg (fun t:MQ × Int × Unit=>t.1) e]
  exact a8O hp9 h9
theorem b3g {l:LQ'} (h:yQ l) (h9:l.length=9) (hs:∀ q ∈ l,rsz q<=100):m33 1100 (uQ l):=by
 obtain⟨hK,j0,hj0,hx0⟩:=h.at
 have hg:prG (lcN l) l.length≠0:=TW hj0 (GK (IQ _ _) (oL hj0) hx0)
 have hK:∀ j,j<l.length->rsz (lv l j)<=100:=fun j hj=>bU hs hj
 have hN:∀ j,j<l.length->isz (lcN l j)<=1001:=fun j hj=>iq (GI (iq (IL hK _ (ay _)) (show _<=901 by omega)) (oL hj) (hK j hj)) (by omega)
 have hP:∀ q ∈ (qC l).map (fun n=>aO n),rsz q<=1100:=fun q hq=>by
  obtain⟨n,hn,rfl⟩:=uw.1 hq
  have h2:rsz (aO n)<=isz n+1:=oP n
  obtain⟨j,hj,rfl⟩:=uw.1 hn
  have hj:=vw.1 hj
  have h3:isz (prN (lcN l) l.length j)<=1001:=a6d hj hg (hN j hj)
  exact iq h2 (iq (Ej h3 1) (by omega))
 have hl9:((qC l).map (fun n=>aO n)).length=9:=by rw[ru,AO,h9]
 exact a9l hl9 hP
def ol (y x:Nat->Rat):Nat->Rat:=fun j=>y (j / 3)*x (j%3)
theorem b1p {K:Nat} {f:MQ} (hf:m33 K f) (y x:Nat->Rat):sm 9 (fun j=>ol y x j*lv f.flatten j)=dt 3 y (mv 3 (ent f) x):=by
 obtain⟨a,b,c,d,e,g,i,j,k,rfl⟩:=hf.form
 change 0+y 0*x 0*a+y 0*x 1*b+y 0*x 2*c+y 1*x 0*d+y 1*x 1*e+y 1*x 2*g+y 2*x 0*i+y 2*x 1*j+y 2*x 2*k=0+y 0*(0+a*x 0+b*x 1+c*x 2)+y 1*(0+d*x 0+e*x 1+g*x 2)+y 2*(0+i*x 0+j*x 1+k*x 2)
 grind
theorem a8Q {f:MQ} (hf:m33 100 f) (hp:yQ f.flatten) (h9:f.flatten.length=9) {y x:Nat->Rat} (h:dt 3 y (mv 3 (ent f) x)=0):m33 1100 (uQ f.flatten)/\dt 3 y (mv 3 (ent (uQ f.flatten)) x)=0:=by
 have hc:=b3g hp h9 hf.flat.2
 refine⟨hc,?_⟩
 rw[<-b1p hf] at h
 have hz:=b3h hp (ol y x) (by rw[h9];exact h)
 rw[h9] at hz
 rw[<-b1p hc,<-hz]
 refine dQ 9 fun j hj=>vg _ ?_
 unfold uQ
 rw[WJ]
 exact b7A (by rw[AO,h9];exact hj)
theorem b5t {a b:dN} {p:kP} (h:(fO a b).2.1=0) (hp:JR p) (h1:(kC a p).2.1=true) (h2:(kC b p).2.1=true):m33 1100 (fO a b).1/\(kC a p).1=vT a p/\(kC b p).1=vT b p/\(∀ q ∈ vT a p,rsz q<=1000)/\(∀ q ∈ vT b p,rsz q<=1000)/\pV (vT b p) (mvL (fO a b).1 (vT a p)) 3=0:=by
 obtain⟨hs,hne,e⟩:=a3U h
 obtain⟨ha,hb⟩:=MJ hs
 obtain⟨hp9,h9⟩:=a4K ha hb hne
 have fa:=XP h1
 have fb:=XP h2
 obtain⟨c1,c2⟩:=a8Q (a8v ha hb) hp9 h9 (a7K ha hb p fa fb)
 rw[vg (fun t:MQ × Int × Unit=>t.1) e]
 generalize uQ (FM a b).flatten=C at *
 refine⟨c1,vg (fun t:LQ' × Bool × Unit=>t.1) (a2g h1),vg (fun t:LQ' × Bool × Unit=>t.1) (a2g h2),a5w ha hp fa,a5w hb hp fb,?_⟩
 rw[<-c2]
 unfold pV dt
 refine dQ 3 fun i hi=>vg _ ?_
 have e:lv (mvL C (vT a p)) i=mv (wdM C) (ent C) (lv (vT a p)) i:=fM (by rw[c1.1.len];exact hi)
 rw[e,c1.1.wd]
theorem b4l {a b:dN} {p:kP} (ha:JR a.1) (hb:JR b.1) (hp:JR p):nZ (mvS a p) (mvS b p)=nZ a b/\(NY (mvS a p) (mvS b p)↔NY a b):=by
 obtain⟨⟨a1,a2⟩,⟨a3,a4⟩,a5,a6⟩:=ha
 obtain⟨⟨b1,b2⟩,⟨b3,b4⟩,b5,b6⟩:=hb
 obtain⟨⟨p1,p2⟩,⟨p3,p4⟩,p5,p6⟩:=hp
 have w:∀ x y:Int,-1048576<=x->x<=1048576->-1048576<=y->y<=1048576->IntKind.wrap .i64 (x+y)=x+y:=fun x y _ _ _ _=>aP (by omega) (by omega)
 constructor
 ·show [aO (IntKind.wrap .i64 (b.1.1+p.1)-IntKind.wrap .i64 (a.1.1+p.1)),aO (IntKind.wrap .i64 (b.1.2.1+p.2.1)-IntKind.wrap .i64 (a.1.2.1+p.2.1)),aO (IntKind.wrap .i64 (b.1.2.2.1+p.2.2.1)-IntKind.wrap .i64 (a.1.2.2.1+p.2.2.1))]=[aO (b.1.1-a.1.1),aO (b.1.2.1-a.1.2.1),aO (b.1.2.2.1-a.1.2.2.1)]
  rw[w _ _ b1 b2 p1 p2,w _ _ a1 a2 p1 p2,w _ _ b3 b4 p3 p4,w _ _ a3 a4 p3 p4,w _ _ b5 b6 p5 p6,w _ _ a5 a6 p5 p6]
  rw[show b.1.1+p.1-(a.1.1+p.1)=b.1.1-a.1.1 by omega,show b.1.2.1+p.2.1-(a.1.2.1+p.2.1)=b.1.2.1-a.1.2.1 by omega,show b.1.2.2.1+p.2.2.1-(a.1.2.2.1+p.2.2.1)=b.1.2.2.1-a.1.2.2.1 by omega]
 ·show (IntKind.wrap .i64 (a.1.1+p.1)=IntKind.wrap .i64 (b.1.1+p.1)/\IntKind.wrap .i64 (a.1.2.1+p.2.1)=IntKind.wrap .i64 (b.1.2.1+p.2.1)/\IntKind.wrap .i64 (a.1.2.2.1+p.2.2.1)=IntKind.wrap .i64 (b.1.2.2.1+p.2.2.1))↔(a.1.1=b.1.1/\a.1.2.1=b.1.2.1/\a.1.2.2.1=b.1.2.2.1)
  rw[w _ _ b1 b2 p1 p2,w _ _ a1 a2 p1 p2,w _ _ b3 b4 p3 p4,w _ _ a3 a4 p3 p4,w _ _ b5 b6 p5 p6,w _ _ a5 a6 p5 p6]
  omega
theorem c1m {a b:dN} {p:kP} (h:nZ (mvS a p) (mvS b p)=nZ a b):FM (mvS a p) (mvS b p)=FM a b:=by
 unfold FM
 rw[h]
 have i:∀ s,dO (mvS s p)=dO s:=fun s=>rfl
 have q:∀ s,(mvS s p).2.1=s.2.1:=fun s=>rfl
 rw[i,i,q,q]
theorem b7K {a b:dN} {p:kP} (h:(fO a b).2.1=0) (hp:JR p):(fO (mvS a p) (mvS b p)).2.1=2\/((fO (mvS a p) (mvS b p)).2.1=0/\(fO a b).1=(fO (mvS a p) (mvS b p)).1):=by
 obtain⟨hs,hne,e⟩:=a3U h
 obtain⟨ha,hb⟩:=MJ hs
 obtain⟨e1,e2⟩:=b4l ha.1 hb.1 hp
 have hz:[mvS a p,mvS b p].any zS=false:=by
  have za:zS (mvS a p)=false:=ny ha.2.1.1
  have zb:zS (mvS b p)=false:=ny hb.2.1.1
  simp only[List.any_cons,List.any_nil,za,zb,Bool.or_false]
 have hc:pG [mvS a p,mvS b p]=bif [mvS a p,mvS b p].any sW then 2 else 0:=by unfold pG;rw[hz,cond_false]
 cases hf:[mvS a p,mvS b p].any sW
 ·rw[hf,cond_false] at hc
  have e3:fO (mvS a p) (mvS b p)=(uQ (FM (mvS a p) (mvS b p)).flatten,0,()):=by
   unfold fO
   rw[ji (by rw[hc];exact fun e=>e rfl),ji (fun e=>hne (e2.1 e))]
  rw[c1m e1] at e3
  exact .inr ⟨vg (fun t:MQ × Int × Unit=>t.2.1) e3,(vg (fun t:MQ × Int × Unit=>t.1) e).trans (vg (fun t:MQ × Int × Unit=>t.1) e3).symm⟩
 ·rw[hf,cond_true] at hc
  have e3:fO (mvS a p) (mvS b p)=([],2,()):=by
   unfold fO
   rw[jm (by rw[hc];decide),hc]
  exact .inl (vg (fun t:MQ × Int × Unit=>t.2.1) e3)
set_option maxHeartbeats 4000000
noncomputable def c4a:Ctr:=⟨[FP,FP,a6B],[tB],fun x=>True,fun _=>(true,())⟩
theorem a9E:aI Tryz.prog 3 c4a:=by
 refine aK (((((((((((nil0.ad JI).ad a7w).ad b4h).ad b4A).ad b1n).ad a8a).ad a2s).ad b3N).ad UA).ad a9q).ad JI) ⟨[3,4],[],[]⟩ Tryz.func3 rfl (by decide) (fun x=>[.rounds 3 [3,4,5,7,87,88,89] []]) (fun x hp=>?_)
 obtain⟨a,b,p,u⟩:=x
 change dN at a
 change dN at b
 change kP at p
 refine aU (let aJ:=(Prod.fst (fO a b).2 != Prod.fst (fO a b).2);let dH:=(asT Int p.1::asT Int p.2.1::asT Int p.2.2.1::aF Int);let eP:=(bif Prod.fst (kC a p).2 then Prod.fst (kC b p).2 else false);let A₀:=(eP==true);let dU:=(K0.ptr 3 0::K0.ptr 4 0::aF K0).length;let gX:=(mvL (fO a b).1 (kC a p).1);let dD:=(pV (kC b p).1 gX (kC b p).1.length);let iZ:=(fO (mvS a p) (mvS b p));let A₁:=iZ.2;let aT:=((Prod.fst A₁==2)==false&&(Prod.fst A₁==0)==true);let bV:=((Prod.fst A₁==2)==false);let jO:=(True/\asT Bool false=true/\True);let kL:=(Prod.fst (fO a b).2 != 0);let A₂:=(kL==false);let fZ:=(A₂=true->A₂=true/\True);let oW:=(True/\asT Bool true=true/\True);let nU:=(bV=true->bV=true/\True);(True/\True)/\(True/\True)/\(True/\(((!IY a)==false)=true->((!IY a)==false)=true/\True/\True)/\(((!IY a)==false)=true->((!IY a)==false)=true/\True)/\((!IY a)=false->((!IY a)==false)=true)/\True)/\ifB (bif !IY a then true else !IY b) oW ((True/\True)/\(((aJ==false)=true->(aJ==false)=true/\(aJ==false)=true/\(JW (fO a b).1/\JW (fO a b).1)/\True)/\((aJ==false)=true->(aJ==false)=true/\True)/\(aJ=false->(aJ==false)=true)/\True)/\ifB (bif Prod.fst (fO a b).2 != Prod.fst (fO a b).2 then true else !decide (Prod.fst (fO a b)=Prod.fst (fO a b))) jO ((fZ/\fZ/\fZ/\(A₂=true->A₂=true/\A₂=true/\A₂=true/\True)/\(A₂=true->A₂=true/\List.length dH<=1000000/\True)/\(kL=false->A₂=true)/\True)/\ifB (bif Prod.fst (fO a b).2 != 0 then true else List.any dH kT) oW (((nX a/\JR p)/\True)/\((nX b/\JR p)/\True)/\((Prod.fst (kC a p).2=true->(Prod.fst (kC a p).2==true)=true)/\(A₀=true->A₀=true/\A₀=true/\(okM (fO a b).1/\szM (fO a b).1 1000000/\List.length (kC a p).1=wdM (fO a b).1/\∀ (q:Rat),q ∈ Prod.fst (kC a p)->rsz q<=1000000)/\True)/\(A₀=true->A₀=true/\A₀=true/\WO (kC b p).1 gX/\True)/\(A₀=true->A₀=true/\rsz dD<=190000000/\True)/\(A₀=true->A₀=true/\True)/\(eP=true->A₀=true)/\True)/\ifB (bif bif Prod.fst (kC a p).2 then Prod.fst (kC b p).2 else false then sgn (Rat.num dD) != 0 else false) jO ((asT Int 0<=0/\asT Int 0<aB dU/\True)/\(asT Int 0<=1/\asT Int 1<aB dU/\True)/\(True/\True)/\(nU/\nU/\(aT=true->aT=true/\aT=true/\(JW (fO a b).1/\JW iZ.1)/\True)/\(bV=true->bV=true/\((Prod.fst A₁==0)=true->aT=true)/\True)/\((Prod.fst A₁==2)=false->bV=true)/\True)/\True/\(bif Prod.fst A₁==2 then true else bif Prod.fst A₁==0 then decide (Prod.fst (fO a b)=Prod.fst iZ) else false)=true/\True))))) (by kernel_rfl) ?_
 have hZ:(⟨false,0,[],[]⟩:aH)=bF:=rfl
 try simp only[aC,aj,ah]
 try dsimp only[aB,asT,aA,aF,Ty.den,Lf.den] at *
 try simp only[hZ,Int.toNat_natCast,aC,aj,ah,jh,jg,gy,bf]
 try simp only[bT,bP,List.all_cons,List.all_nil,jk,dw,ig,jf,jy,ne_eq,au,bg,dn,eu,jd,oq,jr,ou,jh,jg,iw,bn,List.length_cons,List.length_nil]
 refine fun _=>⟨fun _=>TT a b,fun h=>h.elim (fun h=>(h trivial).elim) (fun h=>by simp at h),fun _=>⟨fun h=>⟨h,by omega⟩,fun h=>?_⟩⟩
 obtain⟨h0,hf⟩:=h
 obtain⟨hs,hne,e⟩:=a3U h0
 obtain⟨ha,hb⟩:=MJ hs
 have hp:JR p:=by
  simp only[List.any_cons,List.any_nil,Bool.or_false,bn] at hf
  exact⟨rH hf.1,rH hf.2.1,rH hf.2.2⟩
 have key:(kC a p).2.1=true/\(kC b p).2.1=true->okM (fO a b).1/\szM (fO a b).1 1000000/\(kC a p).1.length=wdM (fO a b).1/\(∀ q ∈ (kC a p).1,rsz q<=1000000)/\WO (kC b p).1 (mvL (fO a b).1 (kC a p).1)/\pV (kC b p).1 (mvL (fO a b).1 (kC a p).1) (kC b p).1.length=0:=fun i=>by
  obtain⟨d1,d2,d3,d4,d5,d6⟩:=b5t h0 hp i.1 i.2
  obtain⟨o1,o2,o3,o4⟩:=d1.ok (by omega)
  have la:(vT a p).length=3:=rfl
  have lb:(vT b p).length=3:=rfl
  rw[d2,d3]
  generalize fO a b=O at *
  have lm:(mvL O.1 (vT a p)).length=3:=by rw[a0H];exact o4
  exact⟨o1,o2,o3.symm,fun q hq=>iq (d4 q hq) (by omega),⟨lb.trans lm.symm,by omega,fun i hi=>⟨iq (bU d5 hi) (by omega),iq (bU (b1e d1.1 d1.2 d4 la) (by rw[lm];omega)) (by omega)⟩⟩,d6⟩
 have mv:=b7K h0 hp
 have z1:=TT a b
 have z2:=TT (mvS a p) (mvS b p)
 clear e
 generalize fO (mvS a p) (mvS b p)=O2 at *
 generalize fO a b=O at *
 refine⟨⟨ha,hp⟩,⟨hb,hp⟩,⟨fun i=>⟨i,i,(key i).1,(key i).2.1,(key i).2.2.1,(key i).2.2.2.1⟩,fun i=>⟨i,i,(key i).2.2.2.2.1⟩,fun i=>⟨i,by rw[(key i).2.2.2.2.2];decide +kernel⟩⟩,fun i=>?_,fun _=>⟨⟨by omega,by omega⟩,⟨by omega,by omega⟩,⟨fun k=>⟨k,k,z1,z2⟩,fun k=>⟨k,fun m=>⟨k,m⟩⟩⟩,mv.imp id fun m=>⟨m.1,uf m.2⟩⟩⟩
 exact absurd (by rw[(key i.1).2.2.2.2.2];rfl) i.2
end Go.Proofs.YtbkocjmmbkifjaaGreat
