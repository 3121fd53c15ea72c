/-
  EpipolarDecomposes: Decompose of the program and of the law answer alike.
-/
import Derived.Test.YtbkocjmmbkifjaaGreatQd33
namespace Go.Proofs.YtbkocjmmbkifjaaGreat
open Go Go.RowKit
set_option maxRecDepth 100000
set_option maxHeartbeats 4000000
set_option linter.unusedVariables false
set_option linter.unusedSimpArgs false
noncomputable def c2c:Ctr:=⟨[tM],[tM],fun x=>m33 1000 x.1,fun x=>(stc (xO x.1),())⟩
noncomputable def c4X:Ctr:=⟨[.list tQ],[tM],fun x=>(show LQ' from x.1).length=3/\∀ i,rsz (lv x.1 i)<=20000,fun x=>(stc (zN x.1),())⟩
theorem b2H:aH Tryz.prog 104 ⟨[tM],[tM],fun x=>m33 1000 x.1,fun x=>(xO x.1,())⟩:=by
 refine aI (((nil0.ad nK).ad sH).ad vX) ⟨[],[],[]⟩ Tryz.func104 rfl (by decide) (fun x=>[.inv {k:Nat // k<=3} (fun i=>[(11,.val tI (i.1:Int)),(3,.own 67 0),(67,.any)]) (fun i=>[(67,.row 39 (.list tQ) (tab i.1 3 (mV (ent (show MQ from x.1)))) 0)]) (fun i=>3-i.1) ⟨0,by omega⟩ (fun i=>[
 .inv {k:Nat // k<=3} (fun j=>[(14,.val tI (j.1:Int)),(5,.own 62 0),(62,.any)]) (fun j=>[(67,.row 39 (.list tQ) (tab i.1 3 (mV (ent (show MQ from x.1)))) 0),(62,.row 47 tQ ((List.range j.1).map (mV (ent (show MQ from x.1)) i.1)) 0)]) (fun j=>3-j.1) ⟨0,by omega⟩ (fun _=>[])])]) (fun x hp=>?_)
 obtain⟨f,u⟩:=x
 change MQ at f
 refine aO ((asT Int 0=0/\(True/\asT (List (List Rat)) (aC (List Rat))=aC (List Rat))/\(asT (List (List Rat)) (aC (List Rat))=aC (List Rat)/\0=0/\asT Bool true=true)/\True)/\∀ (i:{ k:Nat // k<=3 }),let A₂:=(IntKind.wrap IntKind.i64 (aB (aA i)+1));let A₀:=(List.getD f (Int.tmod A₂ 3).toNat (aC Rat));let aN:=(IntKind.wrap IntKind.i64 (aB (aA i)+2));let A₁:=(List.getD f (Int.tmod aN 3).toNat (aC Rat));let aU:=(mV (ent f) (aA i));asT Bool true=true/\ifB (decide (aB (aA i)<3)) ((asT Int 0=0/\(True/\asT (List Rat) (aC Rat)=aC Rat)/\tab (aA i) 3 (mV (ent f))=tab (aA i) 3 (mV (ent f))/\(asT (List Rat) (aC Rat)=aC Rat/\0=0/\asT Bool true=true)/\True)/\∀ (i_1:{ k:Nat // k<=3 }),let dA:=(IntKind.wrap IntKind.i64 (aB (aA i_1)+1));let aX:=(Int.tmod dA 3).toNat;let dF:=(IntKind.wrap IntKind.i64 (aB (aA i_1)+2));let bJ:=(Int.tmod dF 3).toNat;let dL:=(List.getD A₀ bJ 0*List.getD A₁ aX 0);let dP:=(List.range (aA i_1));let fO:=(List.getD A₀ aX 0*List.getD A₁ bJ 0+-dL);asT Bool true=true/\ifB (decide (aB (aA i_1)<3)) ((asT Int 3≠0/\asT Int 3≠0/\asT Int 3≠0/\asT Int 3≠0/\True)/\(0<=Int.tmod A₂ 3/\Int.tmod A₂ 3<aB f.length/\0<=Int.tmod dA 3/\Int.tmod dA 3<aB A₀.length/\0<=Int.tmod aN 3/\Int.tmod aN 3<aB f.length/\0<=Int.tmod dF 3/\Int.tmod dF 3<aB A₁.length/\s19 (List.getD A₀ aX 0) (List.getD A₁ bJ 0)/\0<=Int.tmod A₂ 3/\Int.tmod A₂ 3<aB f.length/\0<=Int.tmod dF 3/\Int.tmod dF 3<aB A₀.length/\0<=Int.tmod aN 3/\Int.tmod aN 3<aB f.length/\0<=Int.tmod dA 3/\Int.tmod dA 3<aB A₁.length/\s19 (List.getD A₀ bJ 0) (List.getD A₁ aX 0)/\rsz dL<=190000000/\s19 (List.getD A₀ aX 0*List.getD A₁ bJ 0) (-dL)/\List.length (List.map aU dP)+List.length (fO::aC Rat)<=1000000000/\True)/\∃ (i':{ k:Nat // k<=3 }),3-aA i'<3-aA i_1/\IntKind.wrap IntKind.i64 (aB (aA i_1)+1)=aB (aA i')/\tab (aA i) 3 (mV (ent f))=tab (aA i) 3 (mV (ent f))/\List.map aU dP++fO::aC Rat=List.map aU (List.range (aA i'))/\True) ((List.length (tab (aA i) 3 (mV (ent f)))+List.length (List.map aU dP::aC (List Rat))<=1000000000/\True)/\∃ (i':{ k:Nat // k<=3 }),3-aA i'<3-aA i/\IntKind.wrap IntKind.i64 (aB (aA i)+1)=aB (aA i')/\tab (aA i) 3 (mV (ent f))++List.map aU dP::aC (List Rat)=tab (aA i') 3 (mV (ent f))/\True)) (True/\tab (aA i) 3 (mV (ent f))=xO f/\True)) (by kernel_rfl) ?_
 try simp only[zP0]
 try dsimp only[aB,asT,aA,aC,Ty.den,Lf.den] at *
 try simp only[zP1]
 try simp only[zP2]
 have hf:m33 1000 f:=hp
 obtain⟨l3,hr⟩:=hf.rows
 have b:∀ i j,i<3->j<3->rsz ((f.getD i []).getD j 0)<=1000:=fun i j hi hj=>(hr i hi).2 j hj
 have L:∀ i,i<3->(f.getD i []).length=3:=fun i hi=>(hr i hi).1
 have T1:∀ i:Nat,i<3->(IntKind.wrap .i64 ((i:Int)+1)).tmod 3=(((i+1)%3:Nat):Int):=fun i hi=>by
  rw[aJ (by omega) (by omega),wu (by omega)];omega
 have T2:∀ i:Nat,i<3->(IntKind.wrap .i64 ((i:Int)+2)).tmod 3=(((i+2)%3:Nat):Int):=fun i hi=>by
  rw[aJ (by omega) (by omega),wu (by omega)];omega
 refine fun i=>⟨fun h1 k=>⟨fun h2=>?_,fun h2=>?_⟩,fun h1=>?_⟩
 ·have hi:i.1<3:=by omega
  have hk:k.1<3:=by omega
  rw[T1 i.1 hi,T2 i.1 hi,T1 k.1 hk,T2 k.1 hk]
  simp only[Int.toNat_natCast]
  have e:mV (ent f) i.1 k.1=(f.getD ((i.1+1)%3) []).getD ((k.1+1)%3) 0*(f.getD ((i.1+2)%3) []).getD ((k.1+2)%3) 0+-((f.getD ((i.1+1)%3) []).getD ((k.1+2)%3) 0*(f.getD ((i.1+2)%3) []).getD ((k.1+1)%3) 0):=Dz _ _
  rw[<-e,l3,L _ (show (i.1+1)%3<3 by omega),L _ (show (i.1+2)%3<3 by omega)]
  have c1:=b _ _ (show (i.1+1)%3<3 by omega) (show (k.1+1)%3<3 by omega)
  have c2:=b _ _ (show (i.1+2)%3<3 by omega) (show (k.1+2)%3<3 by omega)
  have c3:=b _ _ (show (i.1+1)%3<3 by omega) (show (k.1+2)%3<3 by omega)
  have c4:=b _ _ (show (i.1+2)%3<3 by omega) (show (k.1+1)%3<3 by omega)
  generalize (f.getD ((i.1+1)%3) []).getD ((k.1+1)%3) 0=q1 at *
  generalize (f.getD ((i.1+2)%3) []).getD ((k.1+2)%3) 0=q2 at *
  generalize (f.getD ((i.1+1)%3) []).getD ((k.1+2)%3) 0=q3 at *
  generalize (f.getD ((i.1+2)%3) []).getD ((k.1+1)%3) 0=q4 at *
  have m1:=cO q1 q2
  have m2:=cO q3 q4
  have m3:=jE (q3*q4)
  have z:∀ x y:Rat,rsz x<=190000000->rsz y<=190000000->s19 x y:=fun x y h1 h2=>⟨h1,h2⟩
  refine⟨by omega,?_,⟨k.1+1,by omega⟩,by simp only;omega,by rw[aJ (by omega) (by omega)];rfl,?_⟩
  ·and_intros<;>first|omega|(refine z _ _ ?_ ?_<;>omega)|(rw[jo,jy];omega)
  ·show _=List.map _ (List.range (k.1+1))
   rw[oh,ug];rfl
 ·have hk:k.1=3:=by have:=k.2;omega
  refine⟨by rw[jW];omega,⟨i.1+1,by omega⟩,by simp only;omega,by rw[aJ (by omega) (by omega)];rfl,?_⟩
  show _=tab (i.1+1) 3 _
  unfold tab
  rw[hk,oh (n:=i.1),ug];rfl
 ·rw[show i.1=3 by have:=i.2;omega];rfl
theorem b2U:aH Tryz.prog 34 ⟨[.list tQ],[tM],fun x=>(show LQ' from x.1).length=3/\∀ i,rsz (lv x.1 i)<=20000,fun x=>(zN x.1,())⟩:=by
 refine aI ((nil0.ad vX).ad tH) ⟨[3],[],[]⟩ Tryz.func34 rfl (by decide) (fun x=>[]) (fun x hp=>?_)
 obtain⟨v,u⟩:=x
 change List Rat at v
 refine aO ((bP 0/\True)/\(asT Int 0<=2/\2<aB v.length/\rsz (List.getD v 2 0)<=190000000/\asT Int 0<=1/\1<aB v.length/\asT Int 0<=2/\2<aB v.length/\asT Int 0<=0/\0<aB v.length/\rsz (List.getD v 0 0)<=190000000/\asT Int 0<=1/\1<aB v.length/\rsz (List.getD v 1 0)<=190000000/\asT Int 0<=0/\0<aB v.length/\True)/\True/\(aV 0::-List.getD v 2 0::List.getD v 1 0::aC Rat)::(List.getD v 2 0::aV 0::-List.getD v 0 0::aC Rat)::(-List.getD v 1 0::List.getD v 0 0::aV 0::aC Rat)::aC (List Rat)=zN v/\True) (by kernel_rfl) ?_
 try simp only[zP0]
 try dsimp only[aB,asT,aA,aC,Ty.den,Lf.den] at *
 try simp only[zP1]
 try simp only[zP2]
 obtain⟨h3,b⟩:v.length=3/\∀ i,rsz (lv v i)<=20000:=hp
 have b0:rsz (v.getD 0 0)<=20000:=b 0
 have b1:rsz (v.getD 1 0)<=20000:=b 1
 have b2:rsz (v.getD 2 0)<=20000:=b 2
 exact⟨by decide,⟨by omega,by omega,by omega,by omega,by omega,by omega,by omega,by omega,by omega,by omega,by omega,by omega,by omega,by omega,by omega⟩,rfl⟩
theorem a8z:aH Tryz.prog 104 c2c:=gG b2H fun x _=>ql (fun y:MQ=>(y,())) (jV _).symm
theorem a8O:aH Tryz.prog 34 c4X:=gG b2U fun x _=>ql (fun y:MQ=>(y,())) (jV _).symm
noncomputable def c5g:Ctr:=⟨[tQ,tQ],[tQ,tI],fun x=>s19 x.1 x.2.1/\(show Rat from x.2.1)≠0,fun x=>(stc ((show Rat from x.1) / (show Rat from x.2.1)),(0:Int),())⟩
theorem b3k:aH Tryz.prog 74 c5g:=gG a0v fun x _=>ql (fun y:Rat=>(y,(0:Int),())) (jV _).symm
noncomputable def c5y:Ctr:=⟨[.list tQ],[.list tZ],fun x=>TW x.1,fun x=>(stc (EK x.1),())⟩
theorem b4B:aH Tryz.prog 102 c5y:=gG b0u fun x _=>ql (fun y:List Int=>(y,())) (jV _).symm
noncomputable def c5Z:Ctr:=⟨[.list tM],[tM],fun x=>0<(show List MQ from x.1).length/\nD ((show List MQ from x.1).getD 0 []) ((show List MQ from x.1).drop 1),fun x=>(stc (fB ((show List MQ from x.1).getD 0 []) ((show List MQ from x.1).drop 1)),())⟩
theorem b5u:aH Tryz.prog 70 c5Z:=gG a6i fun x _=>ql (fun y:MQ=>(y,())) (jV _).symm
noncomputable def c6e:Ctr:=⟨[tM],[tM],fun x=>okM x.1,fun x=>(stc (trM x.1),())⟩
theorem b5x:aH Tryz.prog 71 c6e:=gG a5T fun x _=>ql (fun y:MQ=>(y,())) (jV _).symm
noncomputable def c5f:Ctr:=⟨[.list tQ,.list tQ],[tQ],fun x=>IG x.1 x.2.1,fun x=>(stc (oM x.1 x.2.1 (show LQ' from x.1).length),())⟩
theorem b3i:aH Tryz.prog 18 c5f:=gG a1j fun x _=>ql (fun y:Rat=>(y,())) (jV _).symm
noncomputable def c5d:Ctr:=⟨[tMR],[.list rJ,tI],fun x=>rV x.1/\rW x.1=false,fun _=>([],(1:Int),())⟩
theorem b3h:aH Tryz.prog 22 c5d:=by
 refine aI (nil0.ad a5c) ⟨[4,11,15,16,18,29,31,33,35],[],[]⟩ Tryz.func22 rfl (by decide) (fun x=>[.turns 1 [] [] []]) (fun x hp=>?_)
 obtain⟨f,u⟩:=x
 change List (List aG) at f
 refine aO ((rV f/\True)/\ifB (!rW f) (True/\asT (List ((Int × Int × Int × Int × PUnit) × List Int × PUnit)) (aC ((Int × Int × Int × Int × PUnit) × List Int × PUnit))=aC ((Int × Int × Int × Int × PUnit) × List Int × PUnit)/\True/\asT Int 1=1/\True) False) (by kernel_rfl) ?_
 try simp only[zP0]
 try dsimp only[aB,asT,aA,aC,Ty.den,Lf.den] at *
 try simp only[zP1]
 try simp only[zP2]
 obtain⟨h1,h2⟩:rV f/\rW f=false:=hp
 exact⟨h1,fun h=>by rw[h2] at h;cases h⟩
def kN (e:MQ):Int:=((isq (sqD e).num.natAbs:Nat):Int)
def kM (e:MQ):Int:=((isq (sqD e).den:Nat):Int)
noncomputable def c5e:Ctr:=⟨[tM],[.list rJ,tI],fun x=>dcP x.1,fun x=>dcT x.1⟩
theorem c1E:aH Tryz.prog 38 a4C:=(a8R a5c)
theorem b3b:aH Tryz.prog 22 c5e:=by
 refine aI ((((((((((((((((((((nil0.ad nK).ad sH).ad vX).ad uX).ad a0v).ad tH).ad b3k).ad OA).ad ED).ad c1E).ad b3v).ad a6k).ad b5x).ad b5u).ad b4B).ad b3i).ad b5d).ad a8z).ad a8O).ad b4u) ⟨[4,11,15,16,18,29,31,33,35],[],[]⟩ Tryz.func22 rfl (by decide) (fun x=>[.inv {k:Nat // k<=3/\∀ j,j<k->axN (show MQ from x.1) j=false} (fun k=>[(55,.val tI (k.1:Int)),(7,.any)]) (fun k=>[(4,.box [⟨tQ,hlT (show MQ from x.1)⟩])]) (fun k=>3-k.1) ⟨0,by omega,fun j h=>absurd h (yu j)⟩ (fun k=>[
  .inv {k:Nat // k<=3} (fun i=>[(58,.val tI (i.1:Int)),(7,.own 83 0),(83,.any),(9,.val tB (zrB (show MQ from x.1) k.1 i.1))]) (fun i=>[(4,.box [⟨tQ,hlT (show MQ from x.1)⟩]),(83,.row 47 tQ ((List.range i.1).map fun i=>hE (show MQ from x.1) i k.1) 0)]) (fun i=>3-i.1) ⟨0,by omega⟩ (fun _=>[])]),
  .inv {k:Nat // k<=3} (fun i=>[(93,.val tI (i.1:Int)),(13,.own 101 0),(101,.any)]) (fun i=>[(4,.box [⟨tQ,hlT (show MQ from x.1)⟩]),(101,.row 47 tQ (uQ (show MQ from x.1) i.1) 0)]) (fun i=>3-i.1) ⟨0,by omega⟩ (fun _=>[]),
  .inv {s:Nat // s<=2/\∀ j,j<s->(omT (dcM (show MQ from x.1) j)).2.1=0} (fun s=>[(128,.val tI (s.1:Int)),(22,.own 221 0),(221,.any)]) (fun s=>[(16,.box [⟨tQ,sqD (show MQ from x.1)⟩]),(18,.box [⟨tZ,kN (show MQ from x.1)⟩,⟨tZ,kM (show MQ from x.1)⟩]),(101,.fro tQ (uQ (show MQ from x.1) 3) 0),(221,.row 60 rJ (poL (show MQ from x.1) s.1) 0)]) (fun s=>2-s.1) ⟨0,by omega,fun j h=>absurd h (yu j)⟩ (fun s=>[
   .inv {k:Nat // k<=3} (fun i=>[(132,.val tI (i.1:Int)),(25,.own 182 0),(182,.any)]) (fun i=>[(16,.box [⟨tQ,sqD (show MQ from x.1)⟩]),(18,.box [⟨tZ,kN (show MQ from x.1)⟩,⟨tZ,kM (show MQ from x.1)⟩]),(101,.fro tQ (uQ (show MQ from x.1) 3) 0),(221,.row 60 rJ (poL (show MQ from x.1) s.1) 0),(182,.row 39 (.list tQ) (tab i.1 3 (lwE (show MQ from x.1) s.1)) 0)]) (fun i=>3-i.1) ⟨0,by omega⟩ (fun i=>[
    .inv {k:Nat // k<=3} (fun j=>[(135,.val tI (j.1:Int)),(27,.own 177 0),(177,.any)]) (fun j=>[(16,.box [⟨tQ,sqD (show MQ from x.1)⟩]),(18,.box [⟨tZ,kN (show MQ from x.1)⟩,⟨tZ,kM (show MQ from x.1)⟩]),(101,.fro tQ (uQ (show MQ from x.1) 3) 0),(221,.row 60 rJ (poL (show MQ from x.1) s.1) 0),(182,.row 39 (.list tQ) (tab i.1 3 (lwE (show MQ from x.1) s.1)) 0),(177,.row 47 tQ ((List.range j.1).map (lwE (show MQ from x.1) s.1 i.1)) 0)]) (fun j=>3-j.1) ⟨0,by omega⟩ (fun _=>[])])])]) (fun x hp=>?_)
 obtain⟨e,u⟩:=x
 change MQ at e
 refine aO (let A₁:=((Int × Int × Int × Int × PUnit) × List Int × PUnit);let A₂:=(fun(x:Ty.den (Ty.pair (Ty.lf Lf.big) (Ty.pair (Ty.lf Lf.big) Ty.unit)))=>Rat.divInt (asT Int x.1) (asT Int x.2.1));let aN:=(oM (uQ e 3) (uQ e 3) (uQ e 3).length);let aU:=(e::stc (trM e)::aC (List (List Rat)));let A₀:=(stc (fB e (List.drop 1 aU)));let aX:=(True/\aC A₁=Prod.fst (dcT e)/\True/\15=Prod.fst (dcT e).2/\True);let bJ:=(asT (List Rat) (aC Rat)=aC Rat/\0=0/\asT Bool true=true);let dA:=(True/\asT (List Rat) (aC Rat)=aC Rat);let dF:=(-1::1::aC Int).length;(dcP e/\True)/\(m33 100 e/\True)/\ifB (!FK e) aX ((m33 10000 e/\bP 2/\(s19 (trQ (gM e)) (aV 2)/\asT Rat (aV 2)≠0)/\True)/\(okM e/\(0<List.length aU/\nD e (List.drop 1 aU))/\True)/\(asT Int 0=0/\stc (trQ (gM e) / aV 2)=hlT e/\True)/\∀ (i:{ k:Nat // k<=3/\∀ (j:Nat),j<k->axN e j=false }),let dL:=(fun(i_5:Nat)=>hE e i_5 (aA i));let dP:=(aB (aA i)).toNat;let fO:=(fun(i_2:Nat)=>hE e i_2 (aA i));let jA:=(fun(i_3:Nat)=>hE e i_3 (aA i));asT Bool true=true/\ifB (decide (aB (aA i)<3)) ((asT Int 0=0/\dA/\true=zrB e (aA i) 0/\hlT e=hlT e/\bJ/\True)/\∀ (i_1:{ k:Nat // k<=3 }),let gB:=(List.getD A₀ (aB (aA i_1)).toNat (aC Rat));let kW:=(zrB e (aA i) (aA i_1)==true);let qA:=(List.range (aA i_1));let gK:=(stc (EK (List.map dL qA)));let wC:=(stc (EK (List.map jA qA)));let vG:=(-List.getD gB dP 0+hlT e);let FC:=(zrB e (aA i) (aA i_1)=true->kW=true);let FD:=(kW=true->kW=true/\True);asT Bool true=true/\ifB (decide (aB (aA i_1)<3)) ((0<=aB (aA i_1)/\aB (aA i_1)<aB A₀.length/\0<=aB (aA i)/\aB (aA i)<aB gB.length/\rsz (List.getD gB dP 0)<=190000000/\True)/\ifB (aB (aA i_1)==aB (aA i)) ((s19 (-List.getD gB dP 0) (hlT e)/\True)/\((kW=true->kW=true/\rsz vG<=190000000/\True)/\FD/\FC/\True)/\(List.length (List.map fO qA)+List.length (vG::aC Rat)<=1000000000/\True)/\∃ (i':{ k:Nat // k<=3 }),3-aA i'<3-aA i_1/\IntKind.wrap IntKind.i64 (aB (aA i_1)+1)=aB (aA i')/\(bif zrB e (aA i) (aA i_1) then sgn (Rat.num vG)==0 else false)=zrB e (aA i) (aA i')/\hlT e=hlT e/\List.map fO qA++vG::aC Rat=List.map fO (List.range (aA i'))/\True) (((kW=true->kW=true/\rsz (-List.getD gB dP 0)<=190000000/\True)/\FD/\FC/\True)/\(List.length (List.map fO qA)+List.length (-List.getD gB dP 0::aC Rat)<=1000000000/\True)/\∃ (i':{ k:Nat // k<=3 }),3-aA i'<3-aA i_1/\IntKind.wrap IntKind.i64 (aB (aA i_1)+1)=aB (aA i')/\(bif zrB e (aA i) (aA i_1) then sgn (-Rat.num (List.getD gB dP 0))==0 else false)=zrB e (aA i) (aA i')/\hlT e=hlT e/\List.map fO qA++-List.getD gB dP 0::aC Rat=List.map fO (List.range (aA i'))/\True)) (ifB (!zrB e (aA i) (aA i_1)) ((TW (List.map fO qA)/\True)/\(asT Int 0=0/\(True/\uQ e 0=aC Rat)/\hlT e=hlT e/\(uQ e 0=aC Rat/\0=0/\asT Bool true=true)/\True)/\∀ (i_2:{ k:Nat // k<=3 }),let C₂:=(oM (uQ e (aA i_2)) (uQ e (aA i_2)) (uQ e (aA i_2)).length);let EF:=(stc (hlT e / stc C₂));let zA:=(zN (uQ e (aA i_2)));let C₃:=(stc zA::e::aC (List (List Rat)));let C₁:=(stc (fB (stc zA) (List.drop 1 C₃)));let OB:=(aB (aA i_2)).toNat;let zC:=((List.getD wC OB 0,1,())::aC (Int × Int × PUnit));asT Bool true=true/\ifB (decide (aB (aA i_2)<aB wC.length)) ((0<=aB (aA i_2)/\aB (aA i_2)<aB wC.length/\True)/\(bP 1/\List.length (uQ e (aA i_2))+List.length (List.map A₂ zC)<=1000000000/\((asT Int 0<1/\Int.gcd (List.getD wC OB 0) 1=1/\True)/\True)/\True)/\∃ (i':{ k:Nat // k<=3 }),3-aA i'<3-aA i_2/\IntKind.wrap IntKind.i64 (aB (aA i_2)+1)=aB (aA i')/\hlT e=hlT e/\uQ e (aA i_2)++List.map A₂ zC=uQ e (aA i')/\True) ((IG (uQ e (aA i_2)) (uQ e (aA i_2))/\(s19 (hlT e) (stc C₂)/\stc C₂≠0)/\True)/\((0<stc (hlT e / stc C₂)/\rsz EF<=268)/\True)/\ifB (!rtB EF) aX ((m33 1000 e/\(List.length (uQ e (aA i_2))=3/\∀ (i_6:Nat),rsz (lv (uQ e (aA i_2)) i_6)<=20000)/\(0<List.length C₃/\nD (stc zA) (List.drop 1 C₃))/\True)/\(asT Int 0=0/\(True/\poL e 0=aC A₁)/\stc (hlT e / stc C₂)=sqD e/\aB (isq (Int.natAbs (Rat.num EF)))=kN e/\aB (isq (Rat.den EF))=kM e/\uQ e (aA i_2)=uQ e 3/\(poL e 0=aC A₁/\0=0/\asT Bool true=true)/\True)/\∀ (i_3:{ s:Nat // s<=2/\∀ (j:Nat),j<s->Prod.fst (omT (dcM e j)).2=0 }),let OC:=(List.getD (-1::1::aC Int) (aB (aA i_3)).toNat 0);asT Bool true=true/\ifB (decide (aB (aA i_3)<aB dF)) ((0<=aB (aA i_3)/\aB (aA i_3)<aB dF/\True)/\(asT Int 0=0/\(True/\asT (List (List Rat)) (aC (List Rat))=aC (List Rat))/\sqD e=sqD e/\kN e=kN e/\kM e=kM e/\uQ e 3=uQ e 3/\poL e (aA i_3)=poL e (aA i_3)/\(asT (List (List Rat)) (aC (List Rat))=aC (List Rat)/\0=0/\asT Bool true=true)/\True)/\∀ (i_4:{ k:Nat // k<=3 }),let D₂:=(tab (aA i_4) 3 (lwE e (aA i_3)));let VJ:=(lwE e (aA i_3) (aA i_4));let a2P:=(omT D₂).1.2;let ZA:=(Prod.fst (omT D₂).1,Prod.fst a2P,Prod.fst a2P.2,Prod.fst a2P.2.2,());let VK:=(ZA,-List.getD gK 0 0::-List.getD gK 1 0::-List.getD gK 2 0::aC Int,());let a0Q:=(ZA,List.getD gK 0 0::List.getD gK 1 0::List.getD gK 2 0::aC Int,());let a7Z:=(aB (aA i_4)).toNat;let rM:=(List.getD (stc (xO e)) a7Z (aC Rat));let D₁:=(List.getD C₁ a7Z (aC Rat));asT Bool true=true/\ifB (decide (aB (aA i_4)<3)) ((asT Int 0=0/\dA/\sqD e=sqD e/\kN e=kN e/\kM e=kM e/\uQ e 3=uQ e 3/\poL e (aA i_3)=poL e (aA i_3)/\tab (aA i_4) 3 (lwE e (aA i_3))=tab (aA i_4) 3 (lwE e (aA i_3))/\bJ/\True)/\∀ (i_5:{ k:Nat // k<=3 }),let a6v:=(aB (aA i_5)).toNat;let E₀:=(List.range (aA i_5));let c1F:=(aV OC*List.getD D₁ a6v 0 / Rat.divInt (kN e) (kM e));let b6L:=(stc (List.getD rM a6v 0 / sqD e)+stc c1F);asT Bool true=true/\ifB (decide (aB (aA i_5)<3)) ((0<=aB (aA i_4)/\aB (aA i_4)<aB (stc (xO e)).length/\0<=aB (aA i_5)/\aB (aA i_5)<aB rM.length/\(s19 (List.getD rM a6v 0) (sqD e)/\sqD e≠0)/\True)/\(bP OC/\0<=aB (aA i_4)/\aB (aA i_4)<aB C₁.length/\0<=aB (aA i_5)/\aB (aA i_5)<aB D₁.length/\s19 (aV OC) (List.getD D₁ a6v 0)/\0<kM e/\Int.gcd (kN e) (kM e)=1/\(s19 (aV OC*List.getD D₁ a6v 0) (Rat.divInt (kN e) (kM e))/\Rat.divInt (kN e) (kM e)≠0)/\True)/\(s19 (stc (List.getD rM a6v 0 / sqD e)) (stc c1F)/\IG (uQ e 3) (uQ e 3)/\(s19 b6L (stc aN)/\stc aN≠0)/\True)/\(List.length (List.map VJ E₀)+List.length (stc (b6L / stc aN)::aC Rat)<=1000000000/\True)/\∃ (i':{ k:Nat // k<=3 }),3-aA i'<3-aA i_5/\IntKind.wrap IntKind.i64 (aB (aA i_5)+1)=aB (aA i')/\sqD e=sqD e/\kN e=kN e/\kM e=kM e/\uQ e 3=uQ e 3/\poL e (aA i_3)=poL e (aA i_3)/\tab (aA i_4) 3 (lwE e (aA i_3))=tab (aA i_4) 3 (lwE e (aA i_3))/\List.map VJ E₀++stc (b6L / stc aN)::aC Rat=List.map VJ (List.range (aA i'))/\True) ((List.length D₂+List.length (List.map VJ E₀::aC (List Rat))<=1000000000/\True)/\∃ (i':{ k:Nat // k<=3 }),3-aA i'<3-aA i_4/\IntKind.wrap IntKind.i64 (aB (aA i_4)+1)=aB (aA i')/\sqD e=sqD e/\kN e=kN e/\kM e=kM e/\uQ e 3=uQ e 3/\poL e (aA i_3)=poL e (aA i_3)/\tab (aA i_4) 3 (lwE e (aA i_3))++List.map VJ E₀::aC (List Rat)=tab (aA i') 3 (lwE e (aA i_3))/\True)) ((m33 150000 D₂/\True)/\ifB (Prod.fst (omT D₂).2 != 0) (True/\aC A₁=Prod.fst (dcT e)/\True/\Prod.fst (omT D₂).2=Prod.fst (dcT e).2/\True) ((asT Int 0<=0/\0<aB gK.length/\asT Int 0<=1/\1<aB gK.length/\asT Int 0<=2/\2<aB gK.length/\asT Int 0<=0/\0<aB gK.length/\isz (List.getD gK 0 0)<=1000000000/\asT Int 0<=1/\1<aB gK.length/\isz (List.getD gK 1 0)<=1000000000/\asT Int 0<=2/\2<aB gK.length/\isz (List.getD gK 2 0)<=1000000000/\List.length (poL e (aA i_3))+List.length (a0Q::VK::aC A₁)<=1000000000/\True)/\∃ (i':{ s:Nat // s<=2/\∀ (j:Nat),j<s->Prod.fst (omT (dcM e j)).2=0 }),2-aA i'<2-aA i_3/\IntKind.wrap IntKind.i64 (aB (aA i_3)+1)=aB (aA i')/\sqD e=sqD e/\kN e=kN e/\kM e=kM e/\uQ e 3=uQ e 3/\poL e (aA i_3)++a0Q::VK::aC A₁=poL e (aA i')/\True))) (True/\poL e (aA i_3)=Prod.fst (dcT e)/\True/\0=Prod.fst (dcT e).2/\True)))) (∃ (i':{ k:Nat // k<=3/\∀ (j:Nat),j<k->axN e j=false }),3-aA i'<3-aA i/\IntKind.wrap IntKind.i64 (aB (aA i)+1)=aB (aA i')/\hlT e=hlT e/\True))) False)) (by kernel_rfl) ?_
 simp only[jV]
 try simp only[zP0]
 try dsimp only[aB,asT,aA,aC,Ty.den,Lf.den] at *
 try simp only[zP1]
 try simp only[zP2]
 have hP:dcP e:=hp
 have hg:=RU hP.m
 have b1:fB e (List.drop 1 [e,trM e])=gM e:=rfl
 simp only[b1]
 have o1:=(hP.m.mono (show 100<=1000000 by omega)).ok (aj _)
 have hl:=sD e
 have hus:=KW hP.ax
 have u:∀ k,k<3->isz ((axU e).getD k 0)<=12001:=fun k hk=>cZ hus (by rw[hl];exact hk)
 have z1:=QM hP.ax
 have z2:=a0D hP
 have z3:=FZ hg
 have z4:rsz (aV 2)<=10:=by decide +kernel
 have n2:¬ aV 2=0:=by decide +kernel
 have hlz:=a3i hP.m
 have lp:=xI hP.ax
 have zs:∀ i k,zrB e i (k+1)=(zrB e i k&&decide (hE e k i=0)):=fun i k=>by
  unfold zrB
  rw[oh,List.all_append];simp
 obtain⟨lg,rg⟩:=hg.rows
 refine⟨hP,hP.m,fun h=>ZU (.inl h),fun hE'=>⟨⟨hP.m.mono (by omega),by decide,⟨by omega,by omega⟩,n2⟩,⟨o1.1,by omega,a2j (by omega) hP.m hP.m.tr⟩,b6d e,fun i=>⟨fun h1=>⟨rfl,fun k=>⟨fun h2=>?_,fun h2=>⟨fun h3=>?_,fun h3=>?_⟩⟩⟩,fun h1=>?_⟩⟩⟩
 ·have hi:i.1<3:=by omega
  have hk:k.1<3:=by omega
  have x1:rsz ((List.getD (gM e) k.1 []).getD i.1 0)<=700:=(rg k.1 hk).2 i.1 hi
  have x2:=jE ((List.getD (gM e) k.1 []).getD i.1 0)
  have x3:=gW (-(List.getD (gM e) k.1 []).getD i.1 0) (hlT e)
  have st:∀ x,x=hE e k.1 i.1->List.map (fun i_2=>hE e i_2 i.1) (List.range k.1)++[x]=List.map (fun i_2=>hE e i_2 i.1) (List.range (k.1+1)):=fun x hx=>by rw[hx,oh,ug];rfl
  have ll:(List.map (fun i_2=>hE e i_2 i.1) (List.range k.1)).length=k.1:=by rw[jo,jy]
  rw[lg,(rg k.1 hk).1,ll]
  refine⟨⟨by omega,by omega,by omega,by omega,by omega⟩,fun h3=>?_,fun h3=>?_⟩
  ·have eh:-(List.getD (gM e) k.1 []).getD i.1 0+hlT e=hE e k.1 i.1:=(iw h3).symm
   exact⟨⟨by omega,by omega⟩,fun h=>⟨h,by omega⟩,by omega,⟨k.1+1,by omega⟩,by simp only;omega,by rw[aJ (by omega) (by omega)];rfl,by rw[zs,eh,a4c],st _ eh⟩
  ·have eh:-(List.getD (gM e) k.1 []).getD i.1 0=hE e k.1 i.1:=(eu h3).symm
   exact⟨fun h=>⟨h,by omega⟩,by omega,⟨k.1+1,by omega⟩,by simp only;omega,by rw[aJ (by omega) (by omega)];rfl,by rw[zs,<-Rat.neg_num,eh,a4c],st _ eh⟩
 ·have hi:i.1<3:=by omega
  obtain⟨k,hk⟩:=k
  have hk3:k=3:=by dsimp only at h2;omega
  subst hk3
  dsimp only at h3 ⊢
  have hN:axN e i.1=true:=by
   rw[b6J] at h3
   cases h:axN e i.1
   ·rw[h] at h3;cases h3
   ·rfl
  have eJ:axJ e=i.1:=QL hi i.2.2 hN
  have eC:List.map (fun i_2=>hE e i_2 i.1) (List.range 3)=axC e i.1:=rfl
  have eU:EK (axC e i.1)=axU e:=by unfold axU;rw[eJ]
  simp only[eC,eU]
  rw[hl]
  have uS:∀ v,uQ e (v+1)=uQ e v++[aV ((axU e).getD v 0)]:=fun v=>by
   unfold uQ
   rw[oh,ug];rfl
  have uL:∀ v,(uQ e v).length=v:=fun v=>by unfold uQ;rw[jo,jy]
  have dv1:∀ n:Int,Rat.divInt n 1=aV n:=fun n=>by
   rw[show (1:Int)=((1:Nat):Int) from rfl,Rat.divInt_ofNat];exact Rat.mkRat_one n
  refine⟨QK hP.m hi hN,rfl,fun v=>⟨fun g1=>?_,fun g1=>?_⟩⟩
  ·rw[uL]
   refine⟨by omega,⟨by decide,by simp only[jo,List.length_cons,List.length_nil];omega,by omega,Int.gcd_one_right _⟩,⟨v.1+1,by omega⟩,by simp only;omega,by rw[aJ (by omega) (by omega)];rfl,?_⟩
   show uQ e v.1++[Rat.divInt ((axU e).getD v.1 0) 1]=uQ e (v.1+1)
   rw[uS,dv1]
  ·obtain⟨v,hv⟩:=v
   have hv3:v=3:=by dsimp only at g1;omega
   subst hv3
   dsimp only
   have ul3:=uL 3
   have b2:fB (zN (uQ e 3)) (List.drop 1 [zN (uQ e 3),e])=ueM e:=by rw[b2n];rfl
   have uz:∀ i,rsz (lv (uQ e 3) i)<=12002:=fun i=>by rw[b2n];exact a8h hP.ax i
   have c33:m33 12002 (zN (uQ e 3)):=a8Q (by omega) uz
   simp only[ul3,c2T,c4g hP,b2]
   have dp:IG (uQ e 3) (uQ e 3):=⟨rfl,by rw[ul3];omega,fun i _=>⟨ak (uz i) (by omega),ak (uz i) (by omega)⟩⟩
   have ln:¬ axL e=0:=by grind
   refine⟨⟨dp,⟨by omega,by omega⟩,ln⟩,⟨sJ hP,b5n hP⟩,fun hb=>ZU (.inr hb),fun hb=>?_⟩
   have g:=b1C (sJ hP) hb
   have ek:Rat.divInt (kN e) (kM e)=kD e:=rfl
   have kn:¬ kD e=0:=a3T (sJ hP)
   have sn:¬ sqD e=0:=by have:=sJ hP;grind
   have zk:rsz (kD e)<=rsz (sqD e):=a3U _
   have hc:=a1c hP.m
   have hu:=a7S hP
   obtain⟨lc,rc⟩:=hc.rows
   obtain⟨lu,ru⟩:=hu.rows
   simp only[ek]
   have pp:nD (zN (uQ e 3)) [e]:=⟨by show 1<=1000;omega,fun n hn=>by
    rw[ng] at hn
    subst hn
    exact hP.m.mono (by omega),fun k hk=>by
    have hk:k<=1:=hk
    have e1:k=0\/k=1:=by omega
    rcases e1 with rfl|rfl<;>simp only[List.take_zero,List.take_succ_cons,DJ,yE]
    ·exact c33.mono (by omega)
    ·exact(JJ c33 hP.m).mono (by omega)⟩
   have ws:∀ s,s<2->bP (([-1,1]:List Int).getD s 0)/\rsz (aV (([-1,1]:List Int).getD s 0))<=2:=fun s hs=>by
    have:s=0\/s=1:=by omega
    rcases this with rfl|rfl
    ·exact⟨by decide,sg1 (.inr rfl)⟩
    ·exact⟨by decide,sg1 (.inl rfl)⟩
   refine⟨⟨hP.m.mono (by omega),⟨trivial,fun i=>ak (uz i) (by omega)⟩,by omega,pp⟩,⟨rfl,trivial,rfl,rfl,trivial,rfl⟩,fun s=>⟨fun g1=>⟨by omega,fun a=>⟨fun g2 b=>⟨fun g3=>?_,fun g3=>?_⟩,fun g2=>?_⟩⟩,fun g1=>?_⟩⟩
   ·have hs:s.1<2:=by omega
    have ha:a.1<3:=by omega
    have hb':b.1<3:=by omega
    obtain⟨w,zw⟩:=ws s.1 hs
    have y1:rsz ((List.getD (xO e) a.1 []).getD b.1 0)<=500:=(rc a.1 ha).2 b.1 hb'
    have y2:rsz ((List.getD (ueM e) a.1 []).getD b.1 0)<=37000:=(ru a.1 ha).2 b.1 hb'
    have st:∀ x,x=lwE e s.1 a.1 b.1->List.map (lwE e s.1 a.1) (List.range b.1)++[x]=List.map (lwE e s.1 a.1) (List.range (b.1+1)):=fun x hx=>by rw[hx,oh,ug];rfl
    have ec:(List.getD (xO e) a.1 []).getD b.1 0=mV (ent e) a.1 b.1:=kQ ha hb'
    have st2:=st (((List.getD (xO e) a.1 []).getD b.1 0 / sqD e+aV (([-1,1]:List Int).getD s.1 0)*(List.getD (ueM e) a.1 []).getD b.1 0 / kD e) / axL e) (by rw[ec];rfl)
    rw[lc,lu,(rc a.1 ha).1,(ru a.1 ha).1,st2]
    generalize (List.getD (xO e) a.1 []).getD b.1 0=x at *
    generalize (List.getD (ueM e) a.1 []).getD b.1 0=y at *
    generalize aV (([-1,1]:List Int).getD s.1 0)=t at *
    have y3:=yI x (sqD e) sn
    have y4:=cO t y
    have y5:=yI (t*y) (kD e) kn
    have y6:=gW (x / sqD e) (t*y / kD e)
    exact⟨⟨by omega,by omega,by omega,by omega,⟨by omega,by omega⟩,sn⟩,⟨w,by omega,by omega,by omega,by omega,⟨by omega,by omega⟩,g.1,g.2,⟨by omega,by omega⟩,kn⟩,⟨⟨by omega,by omega⟩,dp,⟨by omega,by omega⟩,ln⟩,by rw[jo,jy];omega,⟨b.1+1,by omega⟩,by simp only;omega,by rw[aJ (by omega) (by omega)];rfl,rfl⟩
   ·have hb':b.1=3:=by have:=b.2;omega
    refine⟨by rw[jW];omega,⟨a.1+1,by omega⟩,by simp only;omega,by rw[aJ (by omega) (by omega)];rfl,?_⟩
    show _=tab (a.1+1) 3 _
    unfold tab
    rw[hb',oh (n:=a.1),ug];rfl
   ·have hs:s.1<2:=by omega
    have ha:a.1=3:=by have:=a.2;omega
    have d33:=c2Q hP s.1
    have et:tab 3 3 (lwE e s.1)=dcM e s.1:=by
     rw[<-d33.1.tab]
     unfold tab
     refine ku fun i hi=>ku fun j hj=>c3K hP hs (oq.1 hi) (oq.1 hj)
    rw[ha,et]
    exact⟨d33,fun h2=>a4R hE' hb hs s.2.2 h2,fun h2=>⟨⟨by omega,by omega,by omega,by omega,by omega,by omega,by omega,by omega,ak (u 0 (by omega)) (by omega),by omega,by omega,ak (u 1 (by omega)) (by omega),by omega,by omega,ak (u 2 (by omega)) (by omega),by rw[a5J];omega⟩,⟨s.1+1,by omega,nx2 s.2.2 h2⟩,by simp only;omega,by rw[aJ (by omega) (by omega)];rfl,(b6u e s.1).symm⟩⟩
   ·exact a4Q hE' hb (by have:=s.2.1;omega) s.2.2
 ·refine⟨⟨i.1+1,by omega,fun j hj=>?_⟩,by simp only;omega,by rw[aJ (by omega) (by omega)];rfl⟩
  rcases um.1 hj with hj|rfl
  ·exact i.2.2 j hj
  ·rw[show k.1=3 by have:=k.2;omega,b6J] at h3
   cases h:axN e i.1
   ·rfl
   ·rw[h] at h3;cases h3
 ·obtain⟨a,b,_⟩:=hP.ax.at
  have:=i.2.2 (axJ e) (by have:=i.2.1;omega)
  rw[b] at this
  cases this
noncomputable def c4Y:Ctr:=⟨[tMR],[.list rJ,tI],fun x=>rV x.1,fun x=>dcR x.1⟩
theorem b3a:aH Tryz.prog 22 c4Y:=a4P b3b b3h fun f hp=>a1f hp
def poP (p:mM):Prop:=p.2.1.length=3/\∀ n ∈ p.2.1,isz n<=1000000
noncomputable def c5S:Ctr:=⟨[rJ,rJ],[tB],fun x=>poP x.1/\(show mM from x.1)=(show mM from x.2.1),fun x=>(true,())⟩
theorem b1O:aH Tryz.prog 24 c5S:=by
 refine aI (nil0.ad b5g) ⟨[],[],[]⟩ Tryz.func24 rfl (by decide) (fun x=>[]) (fun x hp=>?_)
 obtain⟨p,q,u⟩:=x
 change mM at p
 change mM at q
 refine aO (let A₂:=(Ty.pair (Ty.int IntKind.i64) (Ty.pair (Ty.int IntKind.i64) (Ty.pair (Ty.int IntKind.i64) (Ty.pair (Ty.int IntKind.i64) Ty.unit))));let aN:=(eqD A₂ p.1 q.1==true);let aU:=(asT (List Int) p.2.1);let aX:=(asT (List Int) q.2.1);let dF:=(List.getD aU 0 0=List.getD aX 0 0);let A₁:=(bif eqD A₂ p.1 q.1 then decide dF else false);let bJ:=((A₁==true)=true->(A₁==true)=true/\asT Int 0<=1/\asT Int 1<3/\True);let dL:=(aN=true->aN=true/\asT Int 0<=0/\asT Int 0<3/\True);let dP:=((A₁==true)=true->(A₁==true)=true/\True);let jA:=(List.getD aU 1 0=List.getD aX 1 0);let A₀:=(bif bif eqD A₂ p.1 q.1 then decide dF else false then decide jA else false);let dA:=((A₀==true)=true->(A₀==true)=true/\asT Int 0<=2/\asT Int 2<3/\True);let fO:=((A₀==true)=true->(A₀==true)=true/\True);let gK:=(aN=true->aN=true/\True);(dL/\gK/\dL/\gK/\(aN=true->aN=true/\aN=true/\(isz (List.getD aU 0 0)<=1000000/\isz (List.getD aX 0 0)<=1000000)/\True)/\(eqD A₂ p.1 q.1=true->aN=true)/\bJ/\dP/\bJ/\dP/\((A₁==true)=true->(A₁==true)=true/\(A₁==true)=true/\(isz (List.getD aU 1 0)<=1000000/\isz (List.getD aX 1 0)<=1000000)/\True)/\(A₁=true->(A₁==true)=true)/\dA/\fO/\dA/\fO/\((A₀==true)=true->(A₀==true)=true/\(A₀==true)=true/\(isz (List.getD aU 2 0)<=1000000/\isz (List.getD aX 2 0)<=1000000)/\True)/\(A₀=true->(A₀==true)=true)/\True)/\True/\(bif bif bif eqD A₂ p.1 q.1 then decide dF else false then decide jA else false then decide (List.getD aU 2 0=List.getD aX 2 0) else false)=true/\True) (by kernel_rfl) ?_
 try simp only[zP0]
 try dsimp only[aB,asT,aA,aC,Ty.den,Lf.den] at *
 try simp only[zP1]
 try simp only[zP2]
 obtain⟨⟨hl,hz⟩,h2⟩:poP p/\p=q:=hp
 subst h2
 have er:eqD ((Ty.int IntKind.i64).pair ((Ty.int IntKind.i64).pair ((Ty.int IntKind.i64).pair ((Ty.int IntKind.i64).pair Ty.unit)))) p.1 p.1=true:=by
  show (p.1.1==p.1.1&&(p.1.2.1==p.1.2.1&&(p.1.2.2.1==p.1.2.2.1&&(p.1.2.2.2.1==p.1.2.2.2.1&&true))))=true
  simp
 have b:∀ k,k<3->isz (p.2.1.getD k 0)<=1000000:=fun k hk=>cZ hz (by omega)
 have b0:=b 0 (by omega)
 have b1:=b 1 (by omega)
 have b2:=b 2 (by omega)
 have dt:∀ n:Int,decide (n=n)=true:=fun n=>jf rfl
 simp only[er,dt,Ee,Dk,true_implies,and_self]
 and_intros<;>first|trivial|rfl|omega|(intro _;and_intros<;>omega)
noncomputable def c5k:Ctr:=⟨[.list rJ,.list rJ,.clo 24 .unit],[tB],fun x=>((show List mM from x.1).length<=1000/\∀ p ∈ (show List mM from x.1),poP p)/\(show List mM from x.1)=(show List mM from x.2.1),fun x=>(true,())⟩
theorem b3s:aH Tryz.prog 23 c5k:=by
 refine aI (nil0.ad b1O) ⟨[8,9],[],[]⟩ Tryz.func23 rfl (by decide) (fun x=>[.inv {k:Nat // k<=(show List mM from x.1).length} (fun k=>[(17,.val tI (k.1:Int))]) (fun k=>[]) (fun k=>(show List mM from x.1).length-k.1) ⟨0,by omega⟩ (fun _=>[])]) (fun x hp=>?_)
 obtain⟨x,y,c,u⟩:=x
 change List mM at x
 change List mM at y
 change Unit at c
 refine aO (let A₀:=((0,0,0,0,PUnit.unit),0::List.replicate 2 0,PUnit.unit);ifB (aB x.length != aB y.length) (True/\asT Bool false=true/\True) ((asT Int 0=0/\True)/\∀ (i:{ k:Nat // k<=List.length x }),let A₂:=(aB (aA i)).toNat;let aN:=(List.getD y A₂ A₀).1;let aU:=(List.getD x A₂ A₀).1;let aX:=(List.getD y A₂ A₀).2.1;let bJ:=(List.getD x A₂ A₀).2.1;let A₁:=((Prod.fst aU,Prod.fst aU.2,Prod.fst aU.2.2,Prod.fst aU.2.2.2,()),List.getD bJ 0 0::List.getD bJ (0+1) 0::List.getD bJ (0+1+1) 0::aC Int,());asT Bool true=true/\ifB (decide (aB (aA i)<aB x.length)) ((0<=aB (aA i)/\aB (aA i)<aB x.length/\True)/\(0<=aB (aA i)/\aB (aA i)<aB y.length/\True)/\((poP A₁/\A₁=((Prod.fst aN,Prod.fst aN.2,Prod.fst aN.2.2,Prod.fst aN.2.2.2,()),List.getD aX 0 0::List.getD aX (0+1) 0::List.getD aX (0+1+1) 0::aC Int,()))/\True)/\∃ (i':{ k:Nat // k<=List.length x }),List.length x-aA i'<List.length x-aA i/\IntKind.wrap IntKind.i64 (aB (aA i)+1)=aB (aA i')/\True) (True/\asT Bool true=true/\True))) (by kernel_rfl) ?_
 try simp only[zP0]
 try dsimp only[aB,asT,aA,aC,Ty.den,Lf.den] at *
 try simp only[zP1]
 try simp only[zP2]
 obtain⟨⟨hl,hz⟩,h2⟩:(x.length<=1000/\∀ p ∈ x,poP p)/\x=y:=hp
 subst h2
 refine⟨fun h=>absurd rfl h,fun _ i h1=>?_⟩
 have hp:poP (x.getD i.1 ((0,0,0,0,PUnit.unit),0::List.replicate 2 0,PUnit.unit)):=cZ hz (by omega)
 generalize x.getD i.1 ((0,0,0,0,PUnit.unit),0::List.replicate 2 0,PUnit.unit)=p at *
 obtain⟨hp1,hp2⟩:=hp
 refine⟨⟨by omega,h1⟩,⟨by omega,h1⟩,⟨⟨rfl,fun n hn=>?_⟩,rfl⟩,⟨i.1+1,by omega⟩,by simp only;omega,by rw[aJ (by omega) (by omega)];rfl⟩
 have b:∀ k,k<3->isz (p.2.1.getD k 0)<=1000000:=fun k hk=>cZ hp2 (by omega)
 simp only[jw,Dw,or_false] at hn
 rcases hn with rfl|rfl|rfl
 ·exact b 0 (by omega)
 ·exact b 1 (by omega)
 ·exact b 2 (by omega)
theorem b7Y {e:MQ} (h:dcP e) {k:Nat}:∀ p ∈ poE e k,poP p:=fun p hp=>by
 have u:∀ k,k<3->isz ((axU e).getD k 0)<=1000000:=fun k hk=>ak (cZ (KW h.ax) (by rw[sD];exact hk)) (by omega)
 simp only[poE,jw,Dw,or_false] at hp
 rcases hp with rfl|rfl
 ·refine⟨rfl,fun n hn=>?_⟩
  simp only[c3P,jw,Dw,or_false] at hn
  rcases hn with rfl|rfl|rfl
  ·exact u 0 (by omega)
  ·exact u 1 (by omega)
  ·exact u 2 (by omega)
 ·refine⟨rfl,fun n hn=>?_⟩
  simp only[negL,jw,Dw,or_false] at hn
  rcases hn with rfl|rfl|rfl<;>rw[jJ]
  ·exact u 0 (by omega)
  ·exact u 1 (by omega)
  ·exact u 2 (by omega)
theorem b7a {f:MR} (hs:rV f):(dcR f).1.length<=1000/\∀ p ∈ (dcR f).1,poP p:=by
 have no:∀ c:Int,(([],c,()):List mM × Int × Unit).1.length<=1000/\∀ p ∈ (([],c,()):List mM × Int × Unit).1,poP p:=fun c=>⟨by show 0<=1000;omega,fun p hp=>by cases hp⟩
 unfold dcR
 split
 ·rename_i h
  have hP:=a6q hs h
  unfold dcT
  split
  ·split
   ·exact no _
   ·split
    ·exact no _
    ·refine⟨by show 4<=1000;omega,fun p hp=>?_⟩
     obtain⟨l,hl,hp⟩:=Ej.1 hp
     obtain⟨k,_,rfl⟩:=ni.1 hl
     exact b7Y hP p hp
  ·exact no _
 ·exact no _
noncomputable def c5j:Ctr:=⟨[tMR],[tB],fun x=>b7j x.1,fun _=>(true,())⟩
theorem b3n:aH Tryz.prog 4 c5j:=by
 refine aI (((((nil0.ad a7c).ad b5l).ad b3c).ad b3a).ad b3s) ⟨[],[],[]⟩ Tryz.func4 rfl (by decide) (fun x=>[]) (fun x hp=>?_)
 obtain⟨f,u⟩:=x
 change List (List aG) at f
 refine aO (let A₀:=(Prod.fst (dcR f).2==Prod.fst (dcR f).2);(True/\True)/\(True/\True)/\ifB (!UL f) (True/\asT Bool true=true/\True) ((rV f/\True)/\(rV f/\True)/\(((A₀==true)=true->(A₀==true)=true/\(A₀==true)=true/\((List.length (dcR f).1<=1000/\∀ (p:mM),p ∈ Prod.fst (dcR f)->poP p)/\Prod.fst (dcR f)=Prod.fst (dcR f))/\True)/\(A₀=true->(A₀==true)=true)/\True)/\True/\(bif Prod.fst (dcR f).2==Prod.fst (dcR f).2 then true else false)=true/\True)) (by kernel_rfl) ?_
 try simp only[zP0]
 try dsimp only[aB,asT,aA,aC,Ty.den,Lf.den] at *
 try simp only[zP1]
 try simp only[zP2]
 have hp:b7j f:=hp
 exact fun h=>⟨UM h hp,UM h hp,fun _=>b7a (UM h hp)⟩
section
open Go Go.ChangeShapes Go.WideShapes Go.ChangeAt Go.RowKit Go.Joins
set_option maxRecDepth 100000 in
theorem wJ {pre:(nest [(.list (.list (.lf .gQ)))]).den->Prop} (h:aH Tryz.prog 4 ⟨[(.list (.list (.lf .gQ)))],[.bool],pre,fun _=>(true,())⟩) (hp:∀ (x0:Ty.den (.list (.list (.lf .gQ)))),good (.list (.list (.lf .gQ))) x0->pre (x0,())):Rows.EpipolarDecomposesSaid:=by
 have lifted:∀ (os:Os) (started:os.Started) (H:Type) (enc:TypeId × Value->H),ReturnsInHanded {} Tryz.checked os 4 .any (Rows.epipolarDecomposesSpec.pre6 enc Tryz.prog Tryz.f4 Rows.epipolarDecomposesRow.domain false) (Rows.epipolarDecomposesSpec.post enc Tryz.prog Tryz.f4 false true false false):=by
  intro os started H enc
  refine returnsInHanded_of_change (C:=Tryz.checked) own started (by kernel_rfl) Tryz.func4
   (ChangeSpec.witness6 (enc:=enc) (C:=Tryz.checked) false ⟨#[],#[.slice none 0 0],[]⟩ 8 (by kernel_rfl) (by kernel_rfl) (by kernel_rfl) (by kernel_rfl)) ?_
  intro W base args ds gs before hval0 hW hcnd _
  have hval:∀ (j:Nat) t v,Tryz.f4.params[j]?=some t->args[j]?=some v->Value.okWide Tryz.prog W .any base t v:=hval0
  have hW':=hW
  obtain⟨p,q,hA0,hV,rfl,hfz,hnd⟩:=hW
  have hA:DataW.TrodAll enc Tryz.prog W 0 (fun _=>true) true Tryz.f4.params.toList args.toList ds p:=hA0
  rw[Tryz.params4] at hA hval
  obtain⟨v0,vs0,d0,ds0,p0,q0,hargs,rfl,rfl,h0,r0⟩:=trodAll_cons hA
  obtain⟨rfl,rfl,rfl⟩:=trodAll_nil r0
  obtain rfl:args=#[v0]:=by cases args;simp_all
  obtain⟨rfl,rfl⟩:=trodVars_none hV
  obtain⟨x0,k0,g0⟩:=b6P (t:=.list (.list (.lf .gQ))) (by kernel_rfl) (hval 0 32 v0 rfl rfl) h0
  have l0:∀ x ∈ p0,x.block<W.heap.size:=fun x hx=>hW'.lt x (by simp[hx])
  refine(h (a2R W) W [v0] (x0,()) (fun q hq=>hq) ⟨_,_,rfl,k0,rfl⟩ (hp x0 g0)).mono fun e W' ⟨v,he,hr,hg⟩=>?_
  subst he
  have hr:iQ _ W' .bool v true:=hr
  rw[a2U hr]
  exact⟨_,rfl,_,_,_,[],_,[],hW',trodAll_cons_mk (shut_bool Tryz.underlying4 _) trodAll_mk0,(trodAll_cons_mk (Below.trod laidOut (by kernel_rfl) (og (by kernel_rfl)) h0 hg l0) trodAll_mk0),rfl,hg.frame _,fun h=>by cases h⟩
 exact OpenClaim.holds_of_wide 4 Tryz.f4 rfl rfl rfl rfl rfl rfl rfl ⟨rfl,rfl,rfl,rfl,rfl⟩ rfl rfl rfl rfl rfl (by kernel_rfl) Tryz.func4 (by kernel_rfl)
  (og (by kernel_rfl)) (by unfold Func.isWrapper;first|(rw[iw (by decide +kernel)];kernel_rfl)|(rw[eu (by decide +kernel)];exact⟨rfl,rfl⟩))
  (fun os started H enc _=>lifted os started H enc)
end
theorem vdecomposes28_holds:Rows.EpipolarDecomposesSaid:=wJ (ZT b3n) (fun _ a=>fun r hr q hq=>(a.2 r hr).2 q hq)
end Go.Proofs.YtbkocjmmbkifjaaGreat
