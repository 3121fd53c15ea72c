/-
  Lemmas for the theorem vrecovers28_holds, part 31 of 35.
-/
import Derived.Test.YtbkocjmmbkifjaaGreatQr30
namespace Go.Proofs.YtbkocjmmbkifjaaGreat
open Go Go.RowKit
set_option maxRecDepth 100000
set_option maxHeartbeats 4000000
set_option linter.unusedVariables false
set_option linter.unusedSimpArgs false
def EJ (n:Int):Bool:=decide (b1p n (IntKind.wrap .i64 (0-n)) > 4000)&&!iH n
def qV (p:dA):Bool:=[p.1.1,p.1.2.1,p.2.1.1,p.2.1.2.1].any EJ
noncomputable def c5t:Ctr:=⟨[tI],[tB],fun x=>True,fun x=>(EJ x.1,())⟩
theorem a5Z:aI Tryz.prog 137 c5t:=by
 refine aJ (nil0.ad JD) ⟨[],[],[]⟩ Tryz.func137 rfl (by decide) (fun x=>[]) (fun x hp=>?_)
 obtain⟨n,u⟩:=x
 change Int at n
 refine aT (let A₁:=(b1p n (IntKind.wrap IntKind.i64 (0-n)) > 4000);let A₀:=(decide A₁==true);let A₂:=(A₀=true->A₀=true/\True);(A₂/\(A₀=true->A₀=true/\List.length (n::aF Int)<=1000000/\True)/\A₂/\(decide A₁=true->A₀=true)/\True)/\True/\(bif decide A₁ then !List.any (n::aF Int) iH else false)=EJ n/\True) (by kernel_rfl) ?_
 have hZ:(⟨false,0,[],[]⟩:aH)=bC:=rfl
 try simp only[aC,aj,ah]
 try dsimp only[aB,asT,aA,aF,Ty.den,Lf.den] at *
 try simp only[hZ,Int.toNat_natCast,aC,aj,ah,jg,jf,gy,bg]
 try simp only[bT,bP,List.all_cons,List.all_nil,jh,dw,ig,je,jy,ne_eq,au,bn,dh,eu,jd,oh,jo,oq,jg,jf,iw,bf,List.length_cons,List.length_nil]
 refine⟨⟨fun h=>⟨h,by omega⟩,fun h=>um h⟩,?_⟩
 rw[List.any_cons,List.any_nil,Bool.or_false];rfl
noncomputable def c3f:Ctr:=⟨[.list tI,.clo 137 .unit],[tI],fun x=>(show List (Int) from x.1).length<=1000000/\∀ q ∈ (show List (Int) from x.1),(fun _=>True) q,fun x=>(lW EJ (show List (Int) from x.1),())⟩
theorem b0K:aI Tryz.prog 218 c3f:=by
 refine aJ (nil0.ad a5Z) ⟨[],[],[]⟩ Tryz.func218 rfl (by decide) (fun x=>[.inv {k:Nat // k<=(show List (Int) from x.1).length/\((show List (Int) from x.1).take k).any EJ=false} (fun k=>[(8,.val tI (k.1:Int))]) (fun k=>[]) (fun k=>(show List (Int) from x.1).length-k.1) ⟨0,by omega,rfl⟩ (fun _=>[])]) (fun x hp=>?_)
 obtain⟨x,c,u⟩:=x
 change List (Int) at x
 change Unit at c
 refine aT ((asT Int 0=0/\True)/\∀ (i:{ k:Nat // k<=List.length x/\List.any (List.take k x) EJ=false }),asT Bool true=true/\ifB (decide (aB (aA i)<aB x.length)) ((0<=aB (aA i)/\aB (aA i)<aB x.length/\True/\True)/\ifB (EJ (List.getD x (aB (aA i)).toNat 0)) (True/\aB (aA i)=lW EJ x/\True) (∃ (i':{ k:Nat // k<=List.length x/\List.any (List.take k x) EJ=false }),List.length x-aA i'<List.length x-aA i/\IntKind.wrap IntKind.i64 (aB (aA i)+1)=aB (aA i')/\True)) (True/\-1=lW EJ x/\True)) (by kernel_rfl) ?_
 have hZ:(⟨false,0,[],[]⟩:aH)=bC:=rfl
 try simp only[aC,aj,ah]
 try dsimp only[aB,asT,aA,aF,Ty.den,Lf.den] at *
 try simp only[hZ,Int.toNat_natCast,aC,aj,ah,jg,jf,gy,bg]
 try simp only[bT,bP,List.all_cons,List.all_nil,jh,dw,ig,je,jy,ne_eq,au,bn,dh,eu,jd,oh,jo,oq,jg,jf,iw,bf,List.length_cons,List.length_nil]
 have hp:x.length<=1000000/\∀ q ∈ x,(fun _=>True) q:=hp
 obtain⟨hl,hb⟩:=hp
 refine fun i=>⟨fun h1=>⟨(by first|exact⟨by omega,h1,bV hb (by omega)⟩|exact⟨by omega,h1⟩),fun h2=>?_,fun h2=>⟨⟨i.1+1,by omega,?_⟩,by simp only;omega,?_⟩⟩,fun h1=>?_⟩
 ·exact(uH (d:=0) (by omega) i.2.2 (by first|exact h2|rw[h2];rfl)).symm
 ·rw[iM (d:=0) (by omega),i.2.2,h2];rfl
 ·rw[aN (by omega) (by omega)];rfl
 ·have h3:=i.2.2
  rw[jv (by omega)] at h3
  exact(xU h3).symm
noncomputable def c2P:Ctr:=⟨[.list tI,.clo 137 .unit],[tB],fun x=>(show List (Int) from x.1).length<=1000000/\∀ q ∈ (show List (Int) from x.1),(fun _=>True) q,fun x=>((show List (Int) from x.1).any EJ,())⟩
theorem a9t:aI Tryz.prog 136 c2P:=by
 refine aJ ((nil0.ad a5Z).ad b0K) ⟨[],[],[]⟩ Tryz.func136 rfl (by decide) (fun x=>[]) (fun x hp=>?_)
 obtain⟨x,c,u⟩:=x
 change List (Int) at x
 change Unit at c
 refine aT (((List.length x<=1000000/\∀ (q:Int),q ∈ x->True)/\True)/\True/\decide (lW EJ x ≥ 0)=List.any x EJ/\True) (by kernel_rfl) ?_
 exact⟨⟨hp,trivial⟩,trivial,uI _ _,trivial⟩
noncomputable def c5s:Ctr:=⟨[KG],[tB],fun x=>True,fun x=>(qV x.1,())⟩
theorem a5Y:aI Tryz.prog 135 c5s:=by
 refine aJ (nil0.ad a9t) ⟨[],[],[]⟩ Tryz.func135 rfl (by decide) (fun x=>[]) (fun x hp=>?_)
 obtain⟨p,u⟩:=x
 change dA at p
 refine aT (let A₁:=p.2.1;let A₂:=p.1.2.1;let A₀:=(asT Int p.1.1::asT Int A₂::asT Int A₁.1::asT Int A₁.2.1::aF Int);((List.length A₀<=1000000/\∀ (q:Int),q ∈ asT Int p.1.1::asT Int A₂::asT Int A₁.1::asT Int A₁.2.1::aF Int->True)/\True)/\True/\List.any A₀ EJ=qV p/\True) (by kernel_rfl) ?_
 have hZ:(⟨false,0,[],[]⟩:aH)=bC:=rfl
 try simp only[aC,aj,ah]
 try dsimp only[aB,asT,aA,aF,Ty.den,Lf.den] at *
 try simp only[hZ,Int.toNat_natCast,aC,aj,ah,jg,jf,gy,bg]
 try simp only[bT,bP,List.all_cons,List.all_nil,jh,dw,ig,je,jy,ne_eq,au,bn,dh,eu,jd,oh,jo,oq,jg,jf,iw,bf,List.length_cons,List.length_nil]
 exact⟨by omega,rfl⟩
noncomputable def c3e:Ctr:=⟨[.list KG,.clo 135 .unit],[tI],fun x=>(show List (dA) from x.1).length<=9223372036854775807/\∀ q ∈ (show List (dA) from x.1),(fun _=>True) q,fun x=>(lW qV (show List (dA) from x.1),())⟩
theorem b0J:aI Tryz.prog 217 c3e:=by
 refine aJ (nil0.ad a5Y) ⟨[],[],[]⟩ Tryz.func217 rfl (by decide) (fun x=>[.inv {k:Nat // k<=(show List (dA) from x.1).length/\((show List (dA) from x.1).take k).any qV=false} (fun k=>[(8,.val tI (k.1:Int))]) (fun k=>[]) (fun k=>(show List (dA) from x.1).length-k.1) ⟨0,by omega,rfl⟩ (fun _=>[])]) (fun x hp=>?_)
 obtain⟨x,c,u⟩:=x
 change List (dA) at x
 change Unit at c
 refine aT ((asT Int 0=0/\True)/\∀ (i:{ k:Nat // k<=List.length x/\List.any (List.take k x) qV=false }),asT Bool true=true/\ifB (decide (aB (aA i)<aB x.length)) ((0<=aB (aA i)/\aB (aA i)<aB x.length/\True/\True)/\ifB (qV (List.getD x (aB (aA i)).toNat jQ)) (True/\aB (aA i)=lW qV x/\True) (∃ (i':{ k:Nat // k<=List.length x/\List.any (List.take k x) qV=false }),List.length x-aA i'<List.length x-aA i/\IntKind.wrap IntKind.i64 (aB (aA i)+1)=aB (aA i')/\True)) (True/\-1=lW qV x/\True)) (by kernel_rfl) ?_
 have hZ:(⟨false,0,[],[]⟩:aH)=bC:=rfl
 try simp only[aC,aj,ah]
 try dsimp only[aB,asT,aA,aF,Ty.den,Lf.den] at *
 try simp only[hZ,Int.toNat_natCast,aC,aj,ah,jg,jf,gy,bg]
 try simp only[bT,bP,List.all_cons,List.all_nil,jh,dw,ig,je,jy,ne_eq,au,bn,dh,eu,jd,oh,jo,oq,jg,jf,iw,bf,List.length_cons,List.length_nil]
 have hp:x.length<=9223372036854775807/\∀ q ∈ x,(fun _=>True) q:=hp
 obtain⟨hl,hb⟩:=hp
 refine fun i=>⟨fun h1=>⟨(by first|exact⟨by omega,h1,bV hb (by omega)⟩|exact⟨by omega,h1⟩),fun h2=>?_,fun h2=>⟨⟨i.1+1,by omega,?_⟩,by simp only;omega,?_⟩⟩,fun h1=>?_⟩
 ·exact(uH (d:=jQ) (by omega) i.2.2 (by first|exact h2|rw[h2];rfl)).symm
 ·rw[iM (d:=jQ) (by omega),i.2.2,h2];rfl
 ·rw[aN (by omega) (by omega)];rfl
 ·have h3:=i.2.2
  rw[jv (by omega)] at h3
  exact(xU h3).symm
noncomputable def c2O:Ctr:=⟨[.list KG,.clo 135 .unit],[tB],fun x=>(show List (dA) from x.1).length<=9223372036854775807/\∀ q ∈ (show List (dA) from x.1),(fun _=>True) q,fun x=>((show List (dA) from x.1).any qV,())⟩
theorem a9s:aI Tryz.prog 134 c2O:=by
 refine aJ ((nil0.ad a5Y).ad b0J) ⟨[],[],[]⟩ Tryz.func134 rfl (by decide) (fun x=>[]) (fun x hp=>?_)
 obtain⟨x,c,u⟩:=x
 change List (dA) at x
 change Unit at c
 refine aT (((List.length x<=9223372036854775807/\∀ (q:dA),q ∈ x->True)/\True)/\True/\decide (lW qV x ≥ 0)=List.any x qV/\True) (by kernel_rfl) ?_
 exact⟨⟨hp,trivial⟩,trivial,uI _ _,trivial⟩
noncomputable def c3i:Ctr:=⟨[.list KG],[tB],fun x=>(show List dA from x.1).length<=9223372036854775807,fun x=>(!(show List dA from x.1).any qV,())⟩
theorem b1r:aI Tryz.prog 49 c3i:=by
 refine aJ (nil0.ad a9s) ⟨[],[],[]⟩ Tryz.func49 rfl (by decide) (fun x=>[]) (fun x hp=>?_)
 obtain⟨l,u⟩:=x
 change List dA at l
 refine aT (((List.length l<=9223372036854775807/\∀ (q:dA),q ∈ l->True)/\True)/\True/\(!List.any l qV)=!List.any l qV/\True) (by kernel_rfl) ?_
 have hZ:(⟨false,0,[],[]⟩:aH)=bC:=rfl
 try simp only[aC,aj,ah]
 try dsimp only[aB,asT,aA,aF,Ty.den,Lf.den] at *
 try simp only[hZ,Int.toNat_natCast,aC,aj,ah,jg,jf,gy,bg]
 try simp only[bT,bP,List.all_cons,List.all_nil,jh,dw,ig,je,jy,ne_eq,au,bn,dh,eu,jd,oh,jo,oq,jg,jf,iw,bf,List.length_cons,List.length_nil]
 exact hp
noncomputable def c5I:Ctr:=⟨[.list KG],[tM],fun x=>(show List dA from x.1).length<=64/\∀ p ∈ (show List dA from x.1),cdP p.1/\cdP p.2.1,fun x=>((show List dA from x.1).map gI,())⟩
theorem b6c:aI Tryz.prog 139 c5I:=by
 refine aJ ((nil0.ad yX).ad b6u) ⟨[5],[],[(40,tQ)]⟩ Tryz.func139 rfl (by decide) (fun x=>[.inv {k:Nat // k<=(show List dA from x.1).length} (fun k=>[(13,.val tI (k.1:Int)),(3,.own 40 0),(40,.any),(34,.any)]) (fun k=>[(40,.mat 39 47 tQ none (((show List dA from x.1).take k.1).map gI) 0)]) (fun k=>(show List dA from x.1).length-k.1) ⟨0,by omega⟩ (fun k=>[
  .inv {b:Nat // b<=3} (fun b=>[(20,.val tI (b.1:Int)),(6,.own 34 0),(34,.any)]) (fun b=>[(40,.mat 39 47 tQ none (((show List dA from x.1).take k.1).map gI) 0),(5,.box [⟨tI,(List.getD (show List dA from x.1) k.1 jQ).1.1⟩,⟨tI,(List.getD (show List dA from x.1) k.1 jQ).1.2.1⟩,⟨tI,(List.getD (show List dA from x.1) k.1 jQ).2.1.1⟩,⟨tI,(List.getD (show List dA from x.1) k.1 jQ).2.1.2.1⟩]),(34,.row 47 tQ ((gI (List.getD (show List dA from x.1) k.1 jQ)).take (3*b.1)) 0)]) (fun b=>3-b.1) ⟨0,by omega⟩ (fun b=>[
   .inv {c:Nat // c<=3} (fun c=>[(26,.val tI (c.1:Int)),(6,.own 34 0),(34,.any)]) (fun c=>[(40,.mat 39 47 tQ none (((show List dA from x.1).take k.1).map gI) 0),(5,.box [⟨tI,(List.getD (show List dA from x.1) k.1 jQ).1.1⟩,⟨tI,(List.getD (show List dA from x.1) k.1 jQ).1.2.1⟩,⟨tI,(List.getD (show List dA from x.1) k.1 jQ).2.1.1⟩,⟨tI,(List.getD (show List dA from x.1) k.1 jQ).2.1.2.1⟩]),(34,.row 47 tQ ((gI (List.getD (show List dA from x.1) k.1 jQ)).take (3*b.1+c.1)) 0)]) (fun c=>3-c.1) ⟨0,by omega⟩ (fun _=>[])])])]) (fun x hp=>?_)
 obtain⟨l,u⟩:=x
 change List dA at l
 refine aT ((asT Int 0=0/\(True/\asT (List (List Rat)) (aF (List Rat))=aF (List Rat))/\(asT (Option (List Nat)) none=none/\asT (List (List Rat)) (aF (List Rat))=aF (List Rat)/\0=0/\asT Bool true=true)/\True)/\∀ (i:{ k:Nat // k<=List.length l }),let A₀:=(List.getD l (aA i) jQ);let A₂:=A₀.2.1;let aK:=(List.take (aA i) l);let aQ:=A₀.1.2;let dF:=(Prod.fst A₀.1::Prod.fst aQ::1::aF Int);let dH:=(List.getD l (aB (aA i)).toNat jQ);let A₁:=dH.2.1;let dL:=(Prod.fst A₁::Prod.fst A₁.2::1::aF Int);asT Bool true=true/\ifB (decide (aB (aA i)<aB l.length)) ((0<=aB (aA i)/\aB (aA i)<aB l.length/\True)/\(True/\True)/\(asT Int 0=0/\(True/\asT (List Rat) (aF Rat)=aF Rat)/\List.map gI aK=List.map gI aK/\Prod.fst dH.1=Prod.fst A₀.1/\Prod.fst dH.1.2=Prod.fst aQ/\Prod.fst A₁=Prod.fst A₂/\Prod.fst A₁.2=Prod.fst A₂.2/\(asT (List Rat) (aF Rat)=aF Rat/\0=0/\asT Bool true=true)/\True)/\∀ (i_1:{ b:Nat // b<=3 }),let fB:=(aB (aA i_1)).toNat;asT Bool true=true/\ifB (decide (aB (aA i_1)<3)) ((0<=aB (aA i_1)/\aB (aA i_1)<3/\True)/\(True/\True)/\(asT Int 0=0/\List.map gI aK=List.map gI aK/\Prod.fst A₀.1=Prod.fst A₀.1/\Prod.fst aQ=Prod.fst aQ/\Prod.fst A₂=Prod.fst A₂/\Prod.fst A₂.2=Prod.fst A₂.2/\List.take (3*aA i_1) (gI A₀)=List.take (3*aA i_1+0) (gI A₀)/\True)/\∀ (i_2:{ c:Nat // c<=3 }),let fU:=(IntKind.wrap IntKind.i64 (List.getD dF (aB (aA i_2)).toNat 0*List.getD dL fB 0));let fK:=(3*aA i_1+aA i_2);asT Bool true=true/\ifB (decide (aB (aA i_2)<3)) ((0<=aB (aA i_2)/\aB (aA i_2)<3/\True)/\(bU fU/\List.length (List.take fK (gI A₀))+List.length (aV fU::aF Rat)<=1000000000/\True)/\∃ (i':{ c:Nat // c<=3 }),3-aA i'<3-aA i_2/\IntKind.wrap IntKind.i64 (aB (aA i_2)+1)=aB (aA i')/\List.map gI aK=List.map gI aK/\Prod.fst A₀.1=Prod.fst A₀.1/\Prod.fst aQ=Prod.fst aQ/\Prod.fst A₂=Prod.fst A₂/\Prod.fst A₂.2=Prod.fst A₂.2/\List.take fK (gI A₀)++aV fU::aF Rat=List.take (3*aA i_1+aA i') (gI A₀)/\True) (∃ (i':{ b:Nat // b<=3 }),3-aA i'<3-aA i_1/\IntKind.wrap IntKind.i64 (aB (aA i_1)+1)=aB (aA i')/\List.map gI aK=List.map gI aK/\Prod.fst A₀.1=Prod.fst A₀.1/\Prod.fst aQ=Prod.fst aQ/\Prod.fst A₂=Prod.fst A₂/\Prod.fst A₂.2=Prod.fst A₂.2/\List.take fK (gI A₀)=List.take (3*aA i') (gI A₀)/\True)) ((bG none (List.map gI aK)+1<=1000000000/\True)/\∃ (i':{ k:Nat // k<=List.length l }),List.length l-aA i'<List.length l-aA i/\IntKind.wrap IntKind.i64 (aB (aA i)+1)=aB (aA i')/\List.map gI aK++List.take (3*aA i_1) (gI A₀)::aF (List Rat)=List.map gI (List.take (aA i') l)/\True)) (True/\List.map gI aK=List.map gI l/\True)) (by kernel_rfl) ?_
 have hZ:(⟨false,0,[],[]⟩:aH)=bC:=rfl
 try simp only[aC,aj,ah]
 try dsimp only[aB,asT,aA,aF,Ty.den,Lf.den] at *
 try simp only[hZ,Int.toNat_natCast,aC,aj,ah,jg,jf,gy,bg]
 try simp only[bT,bP,List.all_cons,List.all_nil,jh,dw,ig,je,jy,ne_eq,au,bn,dh,eu,jd,oh,jo,oq,jg,jf,iw,bf,List.length_cons,List.length_nil]
 obtain⟨h64,hc⟩:l.length<=64/\∀ p ∈ l,cdP p.1/\cdP p.2.1:=hp
 refine fun i=>⟨fun h1=>⟨⟨by omega,h1⟩,fun b=>⟨fun h2=>⟨⟨by omega,h2⟩,rfl,fun c=>⟨fun h3=>?_,fun h3=>⟨⟨b.1+1,by omega⟩,by simp only;omega,by rw[aN (by omega) (by omega)];rfl,?_⟩⟩⟩,fun h2=>⟨?_,⟨i.1+1,by omega⟩,by simp only;omega,by rw[aN (by omega) (by omega)];rfl,?_⟩⟩⟩,fun h1=>?_⟩
 ·obtain⟨c1,c2⟩:=hc _ (kD (d:=jQ) (show i.1<l.length by omega))
  have hb:b.1<3:=by omega
  have hk:c.1<3:=by omega
  generalize l.getD i.1 jQ=p at *
  have hn:3*b.1+c.1<(OT p).length:=by show _<9;omega
  have e:[p.1.1,p.1.2.1,1].getD c.1 0*[p.2.1.1,p.2.1.2.1,1].getD b.1 0=(OT p).getD (3*b.1+c.1) 0:=(Int.mul_comm _ _).trans (b5T p hb hk).symm
  have hz:=bV (b5U c1 c2) hn (d:=0)
  rw[e,aN (by omega) (by omega)]
  refine⟨⟨by omega,h3⟩,⟨⟨by omega,by omega⟩,by rw[ny];omega⟩,⟨c.1+1,by omega⟩,by simp only;omega,by rw[aN (by omega) (by omega)];rfl,?_⟩
  exact whT hn
 ·show _=List.take (3*(b.1+1)) _
  rw[show 3*b.1+c.1=3*(b.1+1) by have:=c.2;omega]
 ·show (List.map gI (List.take i.1 l)).length+1<=_
  rw[vw,ny];omega
 ·show _=List.map gI (List.take (i.1+1) l)
  rw[show b.1=3 by have:=b.2;omega,jv (l:=gI _) (by rw[b2A];omega),Ai,List.map_append,iy (show i.1<l.length by omega),jc,iy (show i.1<l.length by omega)];rfl
 ·rw[jv (by omega)]
def sD (l:List dA):MQ:=NY (l.map gI)
def pO (l:List dA):MQ × Int × Unit :=
 if l.length<8\/l.length > 64 then ([],3,()) else if xA l≠0 then ([],2,()) else if (sD l).length=0 then ([],6,()) else if (sD l).length=1 then (vY ((sD l).getD 0 []),0,()) else ([],13,())
def nI (n:Int):Prop:=-4000<=n/\n<=4000
theorem a4S {n:Int} (h:EJ n=false) (hc:cdI n):nI n:=by
 obtain⟨h1,h2⟩:=hc
 unfold EJ at h
 have hf:iH n=false:=by unfold iH;rw[lg (by omega),lg (by omega)];rfl
 rw[hf,Bool.not_false,jh,ah] at h
 rw[aN (by omega) (by omega)] at h
 unfold b1p at h
 constructor<;>(split at h<;>omega)
theorem nI.mul {a b:Int} (ha:nI a) (hb:nI b):isz (a*b)<=1:=uN (by
 rw[Int.natAbs_mul]
 have:a.natAbs*b.natAbs<=4000*4000:=xw (by obtain⟨x,y⟩:=ha;omega) (by obtain⟨x,y⟩:=hb;omega)
 have:BB ^ 1=1000000000:=by rw[bK]
 omega)
theorem b8Y {p:dA} (h:nI p.1.1/\nI p.1.2.1/\nI p.2.1.1/\nI p.2.1.2.1):∀ n ∈ OT p,isz n<=1:=fun n hn=>by
 have o:nI 1:=⟨by omega,by omega⟩
 obtain⟨a,b,c,d⟩:=h
 simp only[OT,qj,Ag,or_false] at hn
 rcases hn with rfl|rfl|rfl|rfl|rfl|rfl|rfl|rfl|rfl
 ·exact c.mul a
 ·exact c.mul b
 ·exact c.mul o
 ·exact d.mul a
 ·exact d.mul b
 ·exact d.mul o
 ·exact o.mul a
 ·exact o.mul b
 ·exact o.mul o
theorem b8E {l:List dA} (hn:l.any qV=false) (hr:xA l=0):∀ p ∈ l,nI p.1.1/\nI p.1.2.1/\nI p.2.1.1/\nI p.2.1.2.1:=fun p hp=>by
 have hc:=b2u hr p hp
 have h2:qV p=false:=by simpa using Bl.mp hn p hp
 unfold qV at h2
 simp only[List.any_cons,List.any_nil,Bool.or_false,bf] at h2
 exact⟨a4S h2.1 hc.1.1,a4S h2.2.1 hc.1.2,a4S h2.2.2.1 hc.2.1,a4S h2.2.2.2 hc.2.2⟩
theorem b2J {l:List dA} {i j:Nat} (hi:i<l.length) (hj:j<9):ent (l.map gI) i j=aV ((OT (l.getD i jQ)).getD j 0):=by
 show ((l.map gI).getD i []).getD j 0=_
 rw[a6t _ hj,jc (l:=l.map gI),xu,iy hi,jc (l:=l),iy hi];rfl
theorem a0N {l:List dA} (h1:1<=l.length) (h2:l.length<=64):isM (l.map gI) l.length 9:=⟨vw _,fun r hr=>by obtain⟨p,_,rfl⟩:=ug.1 hr;rfl,h1,h2,by omega,by omega⟩
theorem b2K {l:List dA} (h1:1<=l.length) (h2:l.length<=64) (hn:l.any qV=false) (hr:xA l=0):Cdn (ent (l.map gI)) l.length 9 1:=⟨1,by omega,by decide +kernel,fun i hi j hj=>⟨(OT (l.getD i jQ)).getD j 0,by
 rw[b2J hi hj]
 show _*(1:Rat)=_
 rw[Rat.mul_one],bV (b8Y (b8E hn hr _ (kD hi))) (by show j<9;exact hj)⟩⟩
theorem b6d {l:List dA} (h1:1<=l.length) (h2:l.length<=64) (hn:l.any qV=false) (hr:xA l=0):okE (l.map gI):=by
 have hm:=a0N h1 h2
 have hc:=b2K h1 h2 hn hr
 have hC:CdM (l.map gI) 1:=by unfold CdM;rw[hm.len,hm.wd];exact hc
 refine⟨hC.ok hm (by omega),?_⟩
 rw[hm.len,hm.wd]
 exact a6d hc (ay _) (by omega)
theorem b1z {l:List dA} (h1:1<=l.length) (h2:l.length<=64) (hn:l.any qV=false) (hr:xA l=0):∀ v ∈ sD l,JQ v/\v.length=9:=fun v hv=>by
 have hm:=a0N h1 h2
 have hc:=(b2K h1 h2 hn hr).red 9 (ay _)
 have E:=kN l.length (ent (l.map gI)) 9
 unfold sD NY JW at hv
 rw[hm.len,hm.wd] at hv
 obtain⟨j,hj,rfl⟩:=ug.1 hv
 obtain⟨hj9,hjp⟩:=qB.1 hj
 have hl:((List.range 9).map (wJ (red l.length (ent (l.map gI)) 9).1 (red l.length (ent (l.map gI)) 9).2 j)).length=9:=by simp
 refine⟨⟨by rw[hl];omega,fun q hq=>?_,1,ug.2 ⟨j,wu.2 hj9,DW _ _ _⟩,by decide⟩,hl⟩
 obtain⟨c,hc9,rfl⟩:=ug.1 hq
 have hc9:=wu.1 hc9
 unfold wJ
 split
 ·decide +kernel
 ·split
  ·rename_i hcp
   have h3:=(PY hcp).1
   rw[QG]
   exact jl (hc.rsz (oz h3 E.le) hj9) (by omega)
  ·decide +kernel
noncomputable def c2Y:Ctr:=⟨[.list KG],[tM,tI],fun x=>(show List dA from x.1).any qV=false,fun x=>pO x.1⟩
theorem a9G:aI Tryz.prog 50 c2Y:=by
 refine aJ ((((nil0.ad a7X).ad b6c).ad a7P).ad a1o) ⟨[],[],[]⟩ Tryz.func50 rfl (by decide) (fun x=>[]) (fun x hp=>?_)
 obtain⟨l,u⟩:=x
 change List dA at l
 refine aT (let A₀:=(List.getD (NY (List.map gI l)) 0 (aF Rat));let A₂:=(List.map (fun(n:Int)=>aV n) (yG A₀));let aK:=(NY (List.map gI l)).length;let aQ:=(aB l.length<8);let A₁:=(decide aQ==false);let dF:=(A₁=true->A₁=true/\True);(dF/\dF/\(decide aQ=false->A₁=true)/\True)/\ifB (bif decide aQ then true else decide (aB l.length > 64)) (True/\aF (List Rat)=Prod.fst (pO l)/\True/\3=Prod.fst (pO l).2/\True) ((List.length l<=1000000/\True)/\ifB (xA l != 0) (True/\aF (List Rat)=Prod.fst (pO l)/\True/\xA l=Prod.fst (pO l).2/\True) (((List.length l<=64/\∀ (p:dA),p ∈ l->cdP p.1/\cdP p.2.1)/\okE (List.map gI l)/\True)/\ifB (aB aK==0) (True/\aF (List Rat)=Prod.fst (pO l)/\True/\6=Prod.fst (pO l).2/\True) (ifB (aB aK==1) ((asT Int 0<=0/\0<aB aK/\(JQ A₀/\List.length A₀=9)/\True)/\True/\List.take 3 A₂::List.drop 3 (List.take 6 A₂)::List.drop 6 A₂::aF (List Rat)=Prod.fst (pO l)/\True/\0=Prod.fst (pO l).2/\True) (True/\aF (List Rat)=Prod.fst (pO l)/\True/\13=Prod.fst (pO l).2/\True))))) (by kernel_rfl) ?_
 have hZ:(⟨false,0,[],[]⟩:aH)=bC:=rfl
 try simp only[aC,aj,ah]
 try dsimp only[aB,asT,aA,aF,Ty.den,Lf.den] at *
 try simp only[hZ,Int.toNat_natCast,aC,aj,ah,jg,jf,gy,bg]
 try simp only[bT,bP,List.all_cons,List.all_nil,jh,dw,ig,je,jy,ne_eq,au,bn,dh,eu,jd,oh,jo,oq,jg,jf,iw,bf,List.length_cons,List.length_nil]
 have hn:l.any qV=false:=hp
 refine⟨fun h=>lg h,fun h=>?_,fun h=>?_⟩
 ·have h:l.length<8\/l.length > 64:=h.elim (fun h=>.inl (by have:=tu h;omega)) (fun h=>.inr (by have:=tu h;omega))
  rw[show pO l=([],3,()) from jq h];exact⟨rfl,rfl⟩
 ·have h8:¬ l.length<8:=by have:=ru h.1;omega
  have h64:¬ l.length > 64:=by have:=ru h.2;omega
  have hh:¬ (l.length<8\/l.length > 64):=fun e=>e.elim h8 h64
  refine⟨by omega,fun hr=>?_,fun hr=>?_⟩
  ·rw[show pO l=([],2,()) from(ji hh).trans (jq hr)]
   refine⟨rfl,?_⟩
   unfold xA at hr ⊢
   cases e:l.any RP
   ·rw[e] at hr;exact absurd rfl hr
   ·rfl
  ·have e0:pO l=if (sD l).length=0 then ([],6,()) else if (sD l).length=1 then (vY ((sD l).getD 0 []),0,()) else ([],13,()):=(ji hh).trans (ji (fun e=>e hr))
   refine⟨⟨⟨by omega,b2u hr⟩,b6d (by omega) (by omega) hn hr⟩,fun h3=>?_,fun h3=>⟨fun h4=>?_,fun h4=>?_⟩⟩
   ·have h3:(sD l).length=0:=Int.ofNat.inj h3
    rw[e0,jq h3];exact⟨rfl,rfl⟩
   ·have h3:¬ (sD l).length=0:=fun e=>h3 (xq Int.ofNat e)
    have h4:(sD l).length=1:=Int.ofNat.inj h4
    have hv:=b1z (by omega) (by omega) hn hr _ (kD (xs:=sD l) (i:=0) (d:=[]) (by omega))
    rw[e0,ji h3,jq h4]
    exact⟨⟨by omega,by show (0:Int)<((sD l).length:Int);omega,hv.1,hv.2⟩,rfl,rfl⟩
   ·have h3:¬ (sD l).length=0:=fun e=>h3 (xq Int.ofNat e)
    have h4:¬ (sD l).length=1:=fun e=>h4 (xq Int.ofNat e)
    rw[e0,ji h3,ji h4];exact⟨rfl,rfl⟩
theorem a5A {xs ys:Nat->Int} {n:Nat} (h:∀ j,j<n->ys j=- xs j):∀ k,k<=n->gsq ys k=gsq xs k
 | 0,_=>rfl
 | k+1,hk=>by
  show ((Int.gcd (gsq ys k) (ys k):Nat):Int)=((Int.gcd (gsq xs k) (xs k):Nat):Int)
  rw[a5A h k (by omega),h k (by omega),Int.gcd_neg]
theorem a5y {xs ys:Nat->Int} {n:Nat} (h:∀ j,j<n->ys j=- xs j):∀ k,k<=n->fsq ys k=- fsq xs k
 | 0,_=>rfl
 | k+1,hk=>by
  show (if fsq ys k=0 then ys k else fsq ys k)=- (if fsq xs k=0 then xs k else fsq xs k)
  rw[a5y h k (by omega),h k (by omega)]
  by_cases e:fsq xs k=0
  ·rw[jq e,jq (by omega)]
  ·rw[ji e,ji (by omega)]
theorem a1P {xs:Nat->Int}:∀ k,fsq xs k=0->∀ j,j<k->xs j=0
 | 0,_,j,hj=>by omega
 | k+1,h,j,hj=>by
  have h:(if fsq xs k=0 then xs k else fsq xs k)=0:=h
  by_cases e:fsq xs k=0
  ·rw[jq e] at h
   by_cases e2:j=k
   ·rw[e2];exact h
   ·exact a1P k e j (by omega)
  ·rw[ji e] at h;exact absurd h e
theorem b5v {xs ys:Nat->Int} {n j:Nat} (h:∀ j,j<n->ys j=- xs j) (hj:j<n):prN ys n j=prN xs n j:=by
 have g:=a5A h n (ay n)
 have f:=a5y h n (ay n)
 by_cases e:fsq xs n=0
 ·have e1:=a1P n e j hj
  unfold prN
  rw[h j hj,e1]
  show (0:Int).fdiv _=(0:Int).fdiv _
  rw[Int.zero_fdiv,Int.zero_fdiv]
 ·have e2:prG ys n=- prG xs n:=by
   unfold prG
   rw[g,f]
   by_cases e3:fsq xs n<0
   ·rw[jq e3,ji (by omega),Int.neg_neg]
   ·rw[ji e3,jq (by omega)]
  unfold prN
  rw[e2,h j hj,Int.neg_fdiv_neg]
theorem a1S {xs ys:Nat->Int} {n:Nat} (h:∀ j,j<n->ys j=xs j):∀ k,k<=n->gsq ys k=gsq xs k
 | 0,_=>rfl
 | k+1,hk=>by
  show ((Int.gcd (gsq ys k) (ys k):Nat):Int)=((Int.gcd (gsq xs k) (xs k):Nat):Int)
  rw[a1S h k (by omega),h k (by omega)]
theorem a1O {xs ys:Nat->Int} {n:Nat} (h:∀ j,j<n->ys j=xs j):∀ k,k<=n->fsq ys k=fsq xs k
 | 0,_=>rfl
 | k+1,hk=>by
  show (if fsq ys k=0 then ys k else fsq ys k)=(if fsq xs k=0 then xs k else fsq xs k)
  rw[a1O h k (by omega),h k (by omega)]
theorem b1S {xs ys:Nat->Int} {n j:Nat} (h:∀ j,j<n->ys j=xs j) (hj:j<n):prN ys n j=prN xs n j:=by
 unfold prN prG
 rw[a1S h n (ay n),a1O h n (ay n),h j hj]
theorem a7Y {u v:Int} (hu:u≠0) (hv:v≠0) {xs ys:Nat->Int} {n j:Nat} (h:∀ j,j<n->v*ys j=u*xs j) (hj:j<n):prN ys n j=prN xs n j:=by
 have one:∀ {w:Int} (hw:w≠0) (zs:Nat->Int),prN (fun j=>w*zs j) n j=prN zs n j:=fun {w} hw zs=>by
  by_cases e:0<w
  ·exact XY (t:=w.toNat) (by omega) (fun k _=>by rw[Int.toNat_of_nonneg (by omega)]) hj
  ·rw[<-b5v (xs:=zs) (ys:=fun j=>- zs j) (fun _ _=>rfl) hj]
   exact XY (t:=(-w).toNat) (by omega) (fun k _=>by rw[Int.toNat_of_nonneg (by omega),Int.neg_mul_neg]) hj
 rw[<-one hv ys,<-one hu xs]
 exact b1S h hj
theorem b2a (q:Rat):q*(((q.den:Nat):Int):Rat)=((q.num:Int):Rat):=by
 have h:(((q.den:Nat):Int):Rat)≠0:=fun e=>by
  have e:(((q.den:Nat):Int):Rat)=((0:Int):Rat):=e
  have:=Rat.intCast_inj.1 e
  have:=q.den_nz
  omega
 have e:q=((q.num:Int):Rat) / (((q.den:Nat):Int):Rat):=by rw[<-Dq];exact(Rat.num_divInt_den q).symm
 have m:=Cb _ h
 rw[Rat.div_def] at e
 have e2:q*(((q.den:Nat):Int):Rat)=((q.num:Int):Rat)*(((q.den:Nat):Int):Rat)⁻¹*(((q.den:Nat):Int):Rat):=xq (fun r=>r*(((q.den:Nat):Int):Rat)) e
 rw[e2,Rat.mul_assoc,Rat.mul_comm (((q.den:Nat):Int):Rat)⁻¹,m,Rat.mul_one]
theorem b6M {D:Int} {q:Nat->Rat} {j:Nat} (h:((q j).den:Int) ∣ D):((a1s D q j:Int):Rat)=(D:Rat)*q j:=by
 unfold a1s
 obtain⟨t,rfl⟩:=h
 have hd:((q j).den:Int)≠0:=by have:=(q j).den_nz;omega
 have e:=b2a (q j)
 rw[Int.mul_fdiv_cancel_left _ hd,uj,uj,<-e]
 grind
theorem a7Z {q r:Nat->Rat} {n:Nat} {c:Rat} (hc:c≠0) (h:∀ j,j<n->r j=c*q j):b1V r n=b1V q n:=by
 unfold b1V
 have hn:c.num≠0:=fun e=>hc (Rat.num_eq_zero.1 e)
 have hd:((c.den:Nat):Int)≠0:=by have:=c.den_nz;omega
 refine qh fun j hj=>a7Y (u:=kT r n*c.num) (v:=kT q n*((c.den:Nat):Int)) (Ed (JB _ _) hn) (Ed (JB _ _) hd) (fun k hk=>?_) (wu.1 hj)
 apply Rat.intCast_inj.1
 rw[uj,uj,uj,uj,b6M (uO hk),b6M (uO hk),h k hk,<-b2a c]
 generalize (((c.den:Nat):Int):Rat)=d
 generalize ((kT r n:Int):Rat)=a
 generalize ((kT q n:Int):Rat)=b
 grind
theorem b8D (n:Nat) (a:Mt) (t:Rat) (x:Nat->Rat) (i:Nat):mv n a (fun c=>t*x c) i=t*mv n a x i:=by
 unfold mv
 rw[<-yR]
 exact dZ n fun c _=>by grind
theorem Ech.one {R n:Nat} {e m:Mt} {p:List Nat} (E:Ech R e n m p) {j:Nat} (hj:j<n) (hjp:j ∉ p) (hf:∀ c,c<n->c ∉ p->c=j) {x:Nat->Rat} (hx:∀ i,i<R->mv n e x i=0):∀ c,c<n->x c=x j*wJ m p j c:=fun c hc=>by
 have h:=E.span (x:=fun c=>x c-x j*wJ m p j c) (fun i hi=>by
  have e1:=a3N n e x (fun c=>x j*wJ m p j c) i
  rw[e1,b8D,hx i hi,E.null hj hjp i hi];grind) (fun c hc hn=>by
  have:=hf c hc hn
  subst this
  show x c-x c*wJ m p c c=0
  rw[DW];grind) c hc
 have h:x c-x j*wJ m p j c=0:=h
 grind
theorem b8K {l:List dA} (h1:1<=l.length) (h2:l.length<=64) {f:LQ'} (hz:∀ i,i<l.length->sm 9 (fun j=>lv (gI (l.getD i jQ)) j*lv f j)=0):∀ i,i<l.length->mv 9 (ent (l.map gI)) (lv f) i=0:=fun i hi=>by
 rw[<-hz i hi]
 refine dZ 9 fun c hc=>?_
 have e1:lv (gI (l.getD i jQ)) c=ent (l.map gI) i c:=by rw[b2J hi hc];exact(a6t _ hc).symm
 rw[e1]
theorem b4Z {l:List dA} (h1:1<=l.length) (h2:l.length<=64) {f:LQ'} (h9:f.length=9) (hnz:∃ q ∈ f,q≠0) (hz:∀ i,i<l.length->sm 9 (fun j=>lv (gI (l.getD i jQ)) j*lv f j)=0):(sD l).length≠0/\((sD l).length=1->vY f=vY ((sD l).getD 0 [])):=by
 have hm:=a0N h1 h2
 have E:=kN l.length (ent (l.map gI)) 9
 have hx:=b8K h1 h2 hz
 have hne:¬ ∀ c,c<9->lv f c=0:=fun h=>by
  obtain⟨q,hq,h0⟩:=hnz
  obtain⟨c,hc,rfl⟩:=Bh hq
  have:=h c (by omega)
  rw[show lv f c=f[c] from by show f.getD c 0=_;rw[jc,iy hc];rfl] at this
  exact h0 this
 unfold sD NY JW
 rw[hm.len,hm.wd,vw]
 generalize red l.length (ent (l.map gI)) 9=g at E ⊢
 obtain⟨m,p⟩:=g
 refine⟨fun h=>?_,fun h=>?_⟩
 ·refine hne (E.span hx fun c hc hn=>?_)
  have h3:=qB.2 ⟨hc,hn⟩
  rw[List.length_eq_zero_iff.1 h] at h3
  exact nomatch h3
 ·obtain⟨j,hj⟩:=List.length_eq_one_iff.1 h
  have hjm:j ∈ frees 9 p:=by rw[hj];exact qw.2 rfl
  obtain⟨hj9,hjp⟩:=qB.1 hjm
  have h4:=E.one hj9 hjp (fun c hc hn=>by
   have h3:=qB.2 ⟨hc,hn⟩
   rw[hj] at h3
   exact qw.1 h3) hx
  have hc:lv f j≠0:=fun e=>hne fun c hc=>by rw[h4 c hc,e];grind
  show vY f=vY ((List.map (fun j=>(List.range 9).map (wJ m p j)) (frees 9 p)).getD 0 [])
  rw[hj]
  show vY f=vY ((List.range 9).map (wJ m p j))
  unfold vY yG
  rw[h9,vw,bg,a7Z hc (q:=lv ((List.range 9).map (wJ m p j))) fun k hk=>by
   rw[show lv ((List.range 9).map (wJ m p j)) k=wJ m p j k from gU hk]
   exact h4 k hk]
abbrev eX:Type:=Int × Int × Int × Unit
abbrev aY:Type:=Int × Int × Int × Int × Unit
abbrev eF:Type:=eX × aY × Int × a6X × Unit
def zA (a b:eF):LQ':=[aV (b.1.1-a.1.1),aV (b.1.2.1-a.1.2.1),aV (b.1.2.2.1-a.1.2.2.1)]
def a3w (v:LQ'):MQ:=[[aV 0,-lv v 2,lv v 1],[lv v 2,aV 0,-lv v 0],[-lv v 1,lv v 0,aV 0]]
def qN (a b c d:Int):Int:=a*a+b*b+c*c+d*d
def qM (a b c d:Int):Nat->Nat->Int
 | 0=>fun|0=>a*a+b*b-c*c-d*d|1=>2*(b*c-a*d)|_=>2*(b*d+a*c)
 | 1=>fun|0=>2*(b*c+a*d)|1=>a*a-b*b+c*c-d*d|_=>2*(c*d-a*b)
 | _=>fun|0=>2*(b*d-a*c)|1=>2*(c*d+a*b)|_=>a*a-b*b-c*c+d*d
def qR (a b c d:Int):Mt:=fun i j=>Rat.divInt (qM a b c d i j) (qN a b c d)
theorem three {i:Nat} (h:i<3):i=0\/i=1\/i=2:=by omega
theorem MI {a b c d:Int} (h:¬ (a=0/\b=0/\c=0/\d=0)):0<qN a b c d:=by
 have s:∀ x:Int,0<=x*x:=fun x=>by
  rcases Int.le_total 0 x with h|h
  ·exact Int.mul_nonneg h h
  ·exact Int.mul_nonneg_of_nonpos_of_nonpos h h
 have p:∀ x:Int,x≠0->0<x*x:=fun x hx=>by
  rcases Int.lt_or_gt_of_ne hx with h|h
  ·exact Int.mul_pos_of_neg_of_neg h h
  ·exact Int.mul_pos h h
 unfold qN
 have:=s a;have:=s b;have:=s c;have:=s d
 by_cases ha:a=0
 ·by_cases hb:b=0
  ·by_cases hc:c=0
   ·have:=p d (fun e=>h ⟨ha,hb,hc,e⟩);omega
   ·have:=p c hc;omega
  ·have:=p b hb;omega
 ·have:=p a ha;omega
theorem b5F (a b c d:Int) {i j:Nat} (hi:i<3) (hj:j<3):qM a b c d i 0*qM a b c d j 0+qM a b c d i 1*qM a b c d j 1+qM a b c d i 2*qM a b c d j 2=if i=j then qN a b c d*qN a b c d else 0:=by
 rcases three hi with rfl|rfl|rfl<;>rcases three hj with rfl|rfl|rfl<;>simp only[qM,qN]<;>grind
theorem b5l {n x0 x1 x2 y0 y1 y2 e:Int} (h:n≠0) {t:Rat} (h1:x0*y0+x1*y1+x2*y2=e) (he:(e:Rat)=t*((n:Rat)*(n:Rat))):Rat.divInt x0 n*Rat.divInt y0 n+Rat.divInt x1 n*Rat.divInt y1 n+Rat.divInt x2 n*Rat.divInt y2 n=t:=by
 have hn:(n:Rat)≠0:=fun e=>h (Rat.intCast_inj.1 e)
 have hi:=Cb _ hn
 have h2:(x0:Rat)*y0+x1*y1+x2*y2=e:=by rw[<-h1];simp only[Rat.intCast_add,uj]
 simp only[Dq,Rat.div_def]
 generalize (n:Rat)⁻¹=m at *
 generalize (n:Rat)=k at *
 grind
theorem sm3 (f:Nat->Rat):sm 3 f=f 0+f 1+f 2:=by
 show 0+f 0+f 1+f 2=_
 rw[Rat.zero_add]
theorem b5G {a b c d:Int} (h:qN a b c d≠0) {i j:Nat} (hi:i<3) (hj:j<3):sm 3 (fun k=>qR a b c d i k*qR a b c d j k)=idm i j:=by
 rw[sm3]
 refine b5l h (b5F a b c d hi hj) ?_
 unfold idm
 split
 ·rw[Rat.one_mul,uj]
 ·rw[Rat.zero_mul];rfl
def crE (t:Nat->Rat):Mt
 | 0=>fun|0=>0|1=>- t 2|_=>t 1
 | 1=>fun|0=>t 2|1=>0|_=>- t 0
 | _=>fun|0=>- t 1|1=>t 0|_=>0
def epi (iB N T M iA:Mt):Mt:=mm 3 (mm 3 (mm 3 (mm 3 (tr iB) (tr N)) T) M) iA
def a1h (M:Mt):Prop:=∀ i,i<3->∀ j,j<3->mm 3 M (tr M) i j=idm i j
theorem a6g {M:Mt} (h:a1h M) (u:Nat->Rat) {i:Nat} (hi:i<3):mv 3 M (mv 3 (tr M) u) i=u i:=by
 rw[<-TM,BI (b:=idm) (fun c hc=>h i hi c hc),b1q hi]
theorem b7R (iB N T M iA:Mt) (x:Nat->Rat):mv 3 (epi iB N T M iA) x=mv 3 (tr iB) (mv 3 (tr N) (mv 3 T (mv 3 M (mv 3 iA x)))):=by
 funext i
 unfold epi
 rw[TM,TM,TM,TM]
theorem a5n {A B iA iB N M T:Mt} (hA:tN 3 A iA) (hB:tN 3 B iB) (hN:a1h N) (hM:a1h M) (u v:Nat->Rat) :
  dt 3 (mv 3 B (mv 3 (tr N) v)) (mv 3 (epi iB N T M iA) (mv 3 A (mv 3 (tr M) u)))=dt 3 v (mv 3 T u):=by
 rw[b7R,b6O,b7t,RG (fun i hi=>hB.mvl _ hi),b6O,b7t,RG (fun i hi=>a6g hN v hi)]
 refine RH fun i _=>JI fun c hc=>?_
 rw[JI (fun k hk=>hA.mvl _ hk),a6g hM u hc]
theorem tri (t u v:Nat->Rat):dt 3 v (mv 3 (crE t) u)=v 0*(t 1*u 2-t 2*u 1)+v 1*(t 2*u 0-t 0*u 2)+v 2*(t 0*u 1-t 1*u 0):=by
 unfold dt mv
 rw[sm3,sm3,sm3,sm3]
 simp only[crE]
 grind
theorem c6v (n:Nat) (a:Mt) (t:Rat) (x:Nat->Rat) (i:Nat):mv n a (fun c=>t*x c) i=t*mv n a x i:=by
 unfold mv
 rw[<-yR]
 exact dZ n fun c _=>by grind
theorem a9L {A B iA iB N M T:Mt} (hA:tN 3 A iA) (hB:tN 3 B iB) (hN:a1h N) (hM:a1h M) {u v x y:Nat->Rat} {k l:Rat} (hk:k≠0) (hl:l≠0)
  (hx:∀ i,i<3->mv 3 A (mv 3 (tr M) u) i=k*x i) (hy:∀ i,i<3->mv 3 B (mv 3 (tr N) v) i=l*y i) (h0:dt 3 v (mv 3 T u)=0):dt 3 y (mv 3 (epi iB N T M iA) x)=0:=by
 have h:=a5n (T:=T) hA hB hN hM u v
 rw[h0,RG hy,RH (fun i _=>JI hx)] at h
 have e:dt 3 (fun i=>l*y i) (mv 3 (epi iB N T M iA) fun c=>k*x c)=l*k*dt 3 y (mv 3 (epi iB N T M iA) x):=by
  unfold dt
  rw[<-yR]
  exact dZ 3 fun i _=>by rw[c6v];grind
 rw[e] at h
 rcases Rat.mul_eq_zero.1 h with h|h
 ·rcases Rat.mul_eq_zero.1 h with h|h
  ·exact absurd h hl
  ·exact absurd h hk
 ·exact h
theorem b7S {A B iA iB N M:Mt} {t:Nat->Rat} (hA:tN 3 A iA) (hB:tN 3 B iB) (hN:a1h N) (hM:a1h M) (h0:∀ i,i<3->∀ j,j<3->epi iB N (crE t) M iA i j=0):t 0=0/\t 1=0/\t 2=0:=by
 have h:∀ u v:Nat->Rat,dt 3 v (mv 3 (crE t) u)=0:=fun u v=>by
  rw[<-a5n hA hB hN hM u v]
  unfold dt
  refine nG 3 fun i hi=>?_
  have:mv 3 (epi iB N (crE t) M iA) (mv 3 A (mv 3 (tr M) u)) i=0:=by
   unfold mv
   exact nG 3 fun j hj=>by rw[h0 i hi j hj,Rat.zero_mul]
  rw[this,Rat.mul_zero]
 have h1:=h (fun i=>if i=2 then 1 else 0) (fun i=>if i=1 then 1 else 0)
 have h2:=h (fun i=>if i=0 then 1 else 0) (fun i=>if i=2 then 1 else 0)
 have h3:=h (fun i=>if i=1 then 1 else 0) (fun i=>if i=0 then 1 else 0)
 rw[tri] at h1 h2 h3
 simp at h1 h2 h3
 exact⟨by grind,by grind,by grind⟩
def kE (f x y:Rat):Mt
 | 0=>fun|0=>f|1=>0|_=>x
 | 1=>fun|0=>0|1=>f|_=>y
 | _=>fun|0=>0|1=>0|_=>1
theorem b7f (f x y:Rat) (d:Nat->Rat):mv 3 (kE f x y) d 0=f*d 0+x*d 2/\mv 3 (kE f x y) d 1=f*d 1+y*d 2/\mv 3 (kE f x y) d 2=d 2:=by
 unfold mv
 rw[sm3,sm3,sm3]
 simp only[kE]
 exact⟨by grind,by grind,by grind⟩
theorem b0P {f x y:Rat} (hf:f≠0) {d:Nat->Rat} (h:∀ i,i<3->mv 3 (kE f x y) d i=0):∀ c,c<3->d c=0:=fun c hc=>by
 obtain⟨a,b,e⟩:=b7f f x y d
 rw[h 0 (by omega)] at a
 rw[h 1 (by omega)] at b
 rw[h 2 (by omega)] at e
 have m0:f*d 0=0:=by grind
 have m1:f*d 1=0:=by grind
 rcases three hc with rfl|rfl|rfl
 ·exact(Rat.mul_eq_zero.1 m0).resolve_left hf
 ·exact(Rat.mul_eq_zero.1 m1).resolve_left hf
 ·exact e.symm
def b0w (f x y:Rat) (d:Nat->Rat):Nat->Rat
 | 0=>f*d 0 / d 2+x
 | 1=>f*d 1 / d 2+y
 | _=>1
theorem b0O {f x y:Rat} {d:Nat->Rat} (hd:d 2≠0) {i:Nat} (hi:i<3):mv 3 (kE f x y) d i=d 2*b0w f x y d i:=by
 obtain⟨a,b,e⟩:=b7f f x y d
 have m:=Cb _ hd
 rcases three hi with rfl|rfl|rfl
 ·rw[a];simp only[b0w,Rat.div_def];grind
 ·rw[b];simp only[b0w,Rat.div_def];grind
 ·rw[e];simp only[b0w];grind
def qOk (q:aY):Prop:=¬ (q.1=0/\q.2.1=0/\q.2.2.1=0/\q.2.2.2.1=0)/\cdI q.1/\cdI q.2.1/\cdI q.2.2.1/\cdI q.2.2.2.1
def MV (p:eX):Prop:=cdI p.1/\cdI p.2.1/\cdI p.2.2.1
def jZ (s:eF):Prop:=MV s.1/\qOk s.2.1/\(1<=s.2.2.1/\s.2.2.1<=1048576)/\cdP s.2.2.2.1
def qE (q:aY):Mt:=qR q.1 q.2.1 q.2.2.1 q.2.2.2.1
def w3 (n:Int):Nat:=if n=n then 3 else 3
theorem b7w (n:Int):w3 n=3:=by unfold w3;split<;>rfl
def qMx (q:aY):MQ:=tab (w3 q.1) 3 (qE q)
theorem MH (q:aY):qMx q=tab 3 3 (qE q):=by unfold qMx;rw[b7w]
def stK (s:eF):Mt:=kE (aV s.2.2.1) (aV s.2.2.2.1.1) (aV s.2.2.2.1.2.1)
def iI (s:eF):MQ:=tab (w3 s.2.2.1) 3 (stK s)
theorem IV (s:eF):iI s=tab 3 3 (stK s):=by unfold iI;rw[b7w]
def FM (a b:eF):MQ:=mulM (mulM (mulM (mulM (trM (wH (iI b))) (trM (qMx b.2.1))) (a3w (zA a b))) (qMx a.2.1)) (wH (iI a))
theorem eqQ (x:aY):eqD zG x (0,0,0,0,())=decide (x.1=0/\x.2.1=0/\x.2.2.1=0/\x.2.2.2.1=0):=by
 show (x.1==0&&(x.2.1==0&&(x.2.2.1==0&&(x.2.2.2.1==0&&true))))=_
 rw[Bool.eq_iff_iff]
 simp
theorem b7V (x y:eX):eqD OB x y=decide (x.1=y.1/\x.2.1=y.2.1/\x.2.2.1=y.2.2.1):=by
 show (x.1==y.1&&(x.2.1==y.2.1&&(x.2.2.1==y.2.2.1&&true)))=_
 rw[Bool.eq_iff_iff]
 simp
set_option maxHeartbeats 400000
theorem i33 {f:Mt}:isM (tab 3 3 f) 3 3:=sK (by omega) (by omega) (by omega) (by omega)
theorem q33 (q:aY):isM (qMx q) 3 3:=by rw[MH];exact i33
theorem oP (s:eF):isM (iI s) 3 3:=by rw[IV];exact i33
theorem ZU (v:LQ'):a3w v=tab 3 3 (crE (lv v)):=rfl
theorem EX (v:LQ'):isM (a3w v) 3 3:=by rw[ZU];exact i33
theorem nT {a:MQ} (h:isM a 3 3):isM (wH a) 3 3:=h.inv
theorem a6V (a b:eF):isM (FM a b) 3 3:=((((nT (oP b)).trp.mul (q33 b.2.1).trp).mul (EX _)).mul (q33 a.2.1)).mul (nT (oP a))
theorem IE {x y:MQ} {f g:Mt} (hx:isM x 3 3) (hy:isM y 3 3) (h1:∀ i,i<3->∀ j,j<3->ent x i j=f i j) (h2:∀ i,i<3->∀ j,j<3->ent y i j=g i j):∀ i,i<3->∀ j,j<3->ent (mulM x y) i j=mm 3 f g i j:=fun i hi j hj=>by
 unfold mulM
 rw[hx.len,hy.wd,hy.len,lU hi hj]
 exact dZ 3 fun k hk=>by rw[h1 i hi k hk,h2 k hk j hj]
theorem ZY {x:MQ} {f:Mt} (hx:isM x 3 3) (h1:∀ i,i<3->∀ j,j<3->ent x i j=f i j):∀ i,i<3->∀ j,j<3->ent (trM x) i j=tr f i j:=fun i hi j hj=>by
 unfold trM
 rw[hx.len,hx.wd,lU hi hj]
 exact h1 j hj i hi
def iK (s:eF):Mt:=ent (wH (iI s))
theorem b2X {s:eF} (h:jZ s):aV s.2.2.1≠0:=fun e=>by
 have e:((s.2.2.1:Int):Rat)=((0:Int):Rat):=e
 have:=Rat.intCast_inj.1 e
 have:=h.2.2.1.1
 omega
theorem a0l {s:eF} (h:jZ s):tN 3 (stK s) (iK s):=by
 have hm:isM (iI s) 3 3:=oP s
 have he:∀ i,i<3->∀ j,j<3->ent (iI s) i j=stK s i j:=fun i hi j hj=>by rw[IV];exact lU hi hj
 have hr:(red 3 (jG 3 (ent (iI s)) idm) 3).2.length=3:=(a0m idm).mpr fun x hx=>b0P (b2X h) fun i hi=>by
  rw[<-hx i hi]
  exact BI fun c hc=>(he i hi c hc).symm
 have H:=inv_of hr
 have hi2:∀ i,i<3->∀ j,j<3->iK s i j=(red 3 (jG 3 (ent (iI s)) idm) 3).1 i (3+j):=fun i hi j hj=>by
  unfold iK wH OQ
  rw[hm.len,lU hi hj]
 refine⟨fun i hi j hj=>?_,fun i hi j hj=>?_⟩
 ·rw[<-H.r i hi j hj]
  exact dZ 3 fun k hk=>by rw[he i hi k hk,hi2 k hk j hj]
 ·rw[<-H.l i hi j hj]
  exact dZ 3 fun k hk=>by rw[he k hk j hj,hi2 i hi k hk]
theorem b8X {s:eF} (h:jZ s):VN (iI s)=true:=by
 have hm:isM (iI s) 3 3:=oP s
 unfold VN OQ
 rw[hm.len]
 exact um ((a0m idm).mpr fun x hx=>b0P (b2X h) fun i hi=>by
  rw[<-hx i hi]
  exact BI fun c hc=>by rw[IV];exact(lU hi hc).symm)
theorem PZ {q:aY} (h:qOk q):a1h (qE q):=fun i hi j hj=>b5G (by have:=MI h.1;unfold qE at *;omega) hi hj
theorem a8L (a b:eF):∀ i,i<3->∀ j,j<3->ent (FM a b) i j=epi (iK b) (qE b.2.1) (crE (lv (zA a b))) (qE a.2.1) (iK a) i j:=by
 have hq:∀ q:aY,∀ i,i<3->∀ j,j<3->ent (qMx q) i j=qE q i j:=fun q i hi j hj=>by rw[MH];exact lU hi hj
 have h1:=ZY (nT (oP b)) (f:=iK b) fun i hi j hj=>rfl
 have h2:=ZY (q33 b.2.1) (hq b.2.1)
 have h3:=IE (nT (oP b)).trp (q33 b.2.1).trp h1 h2
 have h4:=IE ((nT (oP b)).trp.mul (q33 b.2.1).trp) (EX (zA a b)) h3 (g:=crE (lv (zA a b))) fun i hi j hj=>by rw[ZU];exact lU hi hj
 have h5:=IE (((nT (oP b)).trp.mul (q33 b.2.1).trp).mul (EX (zA a b))) (q33 a.2.1) h4 (hq a.2.1)
 exact IE ((((nT (oP b)).trp.mul (q33 b.2.1).trp).mul (EX (zA a b))).mul (q33 a.2.1)) (nT (oP a)) h5 (g:=iK a) fun i hi j hj=>rfl
theorem a9f {f:Mt} {K:Nat} (hK:1<=K) (h:∀ i,i<3->∀ j,j<3->∃ z:Int,f i j=aV z/\isz z<=K):CdM (tab 3 3 f) K:=CJ (by omega) ⟨1,by omega,jl (by decide +kernel) hK,fun i hi j hj=>by
 obtain⟨z,h1,h2⟩:=h i hi j hj
 refine⟨z,?_,h2⟩
 rw[h1]
 show _*(1:Rat)=_
 rw[Rat.mul_one]⟩
theorem a7D {z:Int} (h:z.natAbs<=4194304):isz z<=1:=uN (by unfold BB;omega)
theorem cdI.s1 {n:Int} (h:cdI n):isz n<=1:=a7D (by obtain⟨a,b⟩:=h;omega)
theorem a1q {s:eF} (h:jZ s):CdM (iI s) 1:=by
 rw[IV]
 refine a9f (ay _) fun i hi j hj=>?_
 have z:isz 0<=1:=by decide +kernel
 have o:isz 1<=1:=by decide +kernel
 have f1:isz s.2.2.1<=1:=a7D (by have:=h.2.2.1;omega)
 rcases three hi with rfl|rfl|rfl<;>rcases three hj with rfl|rfl|rfl
 ·exact⟨_,rfl,f1⟩
 ·exact⟨0,rfl,z⟩
 ·exact⟨_,rfl,h.2.2.2.1.s1⟩
 ·exact⟨0,rfl,z⟩
 ·exact⟨_,rfl,f1⟩
 ·exact⟨_,rfl,h.2.2.2.2.s1⟩
 ·exact⟨0,rfl,z⟩
 ·exact⟨0,rfl,z⟩
 ·exact⟨1,rfl,o⟩
theorem cdI.d {a b:Int} (h:cdI a) (g:cdI b):isz (a-b)<=1/\isz (-(a-b))<=1:=⟨a7D (by obtain⟨x,y⟩:=h;obtain⟨z,w⟩:=g;omega),a7D (by obtain⟨x,y⟩:=h;obtain⟨z,w⟩:=g;omega)⟩
theorem a3t {a b:eF} (h:jZ a) (g:jZ b):CdM (a3w (zA a b)) 1:=by
 rw[ZU]
 refine a9f (ay _) fun i hi j hj=>?_
 have z:isz 0<=1:=by decide +kernel
 obtain⟨x1,x2⟩:=g.1.1.d h.1.1
 obtain⟨y1,y2⟩:=g.1.2.1.d h.1.2.1
 obtain⟨w1,w2⟩:=g.1.2.2.d h.1.2.2
 rcases three hi with rfl|rfl|rfl<;>rcases three hj with rfl|rfl|rfl
 ·exact⟨0,rfl,z⟩
 ·exact⟨_,(Rat.intCast_neg _).symm,w2⟩
 ·exact⟨_,rfl,y1⟩
 ·exact⟨_,rfl,w1⟩
 ·exact⟨0,rfl,z⟩
 ·exact⟨_,(Rat.intCast_neg _).symm,x2⟩
 ·exact⟨_,(Rat.intCast_neg _).symm,y2⟩
 ·exact⟨_,rfl,x1⟩
 ·exact⟨0,rfl,z⟩
theorem cdI.nZ {a b:Int} (h:cdI a) (g:cdI b):-1099511627776<=a*b/\a*b<=1099511627776:=by
 have:=h.mul g
 omega
theorem YB {q:aY} (h:qOk q) {i j:Nat} (hi:i<3) (hj:j<3):(qM q.1 q.2.1 q.2.2.1 q.2.2.2.1 i j).natAbs<=8796093022208/\(qN q.1 q.2.1 q.2.2.1 q.2.2.2.1).natAbs<=8796093022208:=by
 obtain⟨qa,qb,qc,qd,u⟩:=q
 obtain⟨h0,a,b,c,d⟩:=h
 clear h0
 dsimp only at *
 have aa:=a.nZ a
 have ab:=a.nZ b
 have ac:=a.nZ c
 have ad:=a.nZ d
 have bb:=b.nZ b
 have bc:=b.nZ c
 have bd:=b.nZ d
 have cc:=c.nZ c
 have cd:=c.nZ d
 have dd:=d.nZ d
 clear a b c d
 refine⟨?_,?_⟩
 ·rcases three hi with rfl|rfl|rfl<;>rcases three hj with rfl|rfl|rfl<;>simp only[qM]<;>omega
 ·unfold qN;omega
theorem b8S (a b c d:Int) (h:0<qN a b c d) (i j:Nat):qR a b c d i j*((qN a b c d).toNat:Nat)=aV (qM a b c d i j):=by
 have hn:aV (qN a b c d)≠0:=fun e=>by
  have e:((qN a b c d:Int):Rat)=((0:Int):Rat):=e
  have:=Rat.intCast_inj.1 e
  omega
 have e:(((qN a b c d).toNat:Nat):Rat)=aV (qN a b c d):=by
  rw[<-Rat.intCast_natCast,Int.toNat_of_nonneg (by omega)]
 rw[e]
 unfold qR
 rw[Dq,Rat.div_def,Rat.mul_assoc,Rat.mul_comm _ (aV _),Cb _ hn,Rat.mul_one]
theorem ZR {q:aY} (h:qOk q):CdM (qMx q) 2:=by
 rw[MH]
 exact CJ (by omega) ⟨(qN q.1 q.2.1 q.2.2.1 q.2.2.2.1).toNat,by have:=MI h.1;omega,by
  have:=(YB h (i:=0) (j:=0) (by omega) (by omega)).2
  have e:=uN (k:=2) (x:=qN q.1 q.2.1 q.2.2.1 q.2.2.2.1) (by unfold BB;omega)
  have hp:=MI h.1
  unfold isz at e
  rw[show (qN q.1 q.2.1 q.2.2.1 q.2.2.2.1).toNat=(qN q.1 q.2.1 q.2.2.1 q.2.2.2.1).natAbs by omega]
  exact e,fun i hi j hj=>⟨_,b8S _ _ _ _ (MI h.1) i j,uN (by have:=(YB h hi hj).1;unfold BB;omega)⟩⟩
theorem b6B {a b:eF} (h:jZ a) (g:jZ b):m33 100 (FM a b):=by
 have hi:∀ s:eF,isM (iI s) 3 3:=oP
 have c1:=((a1q g).inv (hi b)).trp (nT (hi b))
 have c2:=c1.mul ((ZR g.2.1).trp (q33 _)) (nT (hi b)).trp (q33 _).trp
 have c3:=c2.mul (a3t h g) ((nT (hi b)).trp.mul (q33 _).trp) (EX _)
 have c4:=c3.mul (ZR h.2.1) (((nT (hi b)).trp.mul (q33 _).trp).mul (EX _)) (q33 _)
 have c5:=c4.mul ((a1q h).inv (hi a)) ((((nT (hi b)).trp.mul (q33 _).trp).mul (EX _)).mul (q33 _)) (nT (hi a))
 exact⟨a6V a b,c5.sz (by omega)⟩
theorem c2y {a b:eF} (h:jZ a) (g:jZ b) (hne:¬ (a.1.1=b.1.1/\a.1.2.1=b.1.2.1/\a.1.2.2.1=b.1.2.2.1)):∃ q ∈ (FM a b).flatten,q≠0:=by
 apply Classical.byContradiction
 intro hc
 have hz:∀ i,i<3->∀ j,j<3->ent (FM a b) i j=0:=fun i hi j hj=>Classical.byContradiction fun h0=>hc ⟨_,List.mem_flatten.2 ⟨(FM a b).getD i [],kD (by rw[(a6V a b).len];exact hi),kD (d:=(0:Rat)) (by rw[(a6V a b).2.1 _ (kD (by rw[(a6V a b).len];exact hi))];exact hj)⟩,h0⟩
 obtain⟨e0,e1,e2⟩:=b7S (a0l h) (a0l g) (PZ g.2.1) (PZ h.2.1) (t:=lv (zA a b)) fun i hi j hj=>by rw[<-a8L a b i hi j hj];exact hz i hi j hj
 have z:∀ x y:Int,aV (x-y)=0->y=x:=fun x y e=>by
  have e:((x-y:Int):Rat)=((0:Int):Rat):=e
  have:=Rat.intCast_inj.1 e
  omega
 exact hne ⟨z _ _ e0,z _ _ e1,z _ _ e2⟩
theorem a8M {a b:eF} (h:jZ a) (g:jZ b) (hne:¬ (a.1.1=b.1.1/\a.1.2.1=b.1.2.1/\a.1.2.2.1=b.1.2.2.1)):JQ (FM a b).flatten/\(FM a b).flatten.length=9:=by
 obtain⟨l9,hs⟩:=(b6B h g).flat
 exact⟨⟨by omega,fun q hq=>jl (hs q hq) (by omega),c2y h g hne⟩,l9⟩
def a0F (s:eF) (p:eX):LQ':=[aV (p.1-s.1.1),aV (p.2.1-s.1.2.1),aV (p.2.2.1-s.1.2.2.1)]
def jM (s:eF) (p:eX):LQ':=mvL (trM (qMx s.2.1)) (a0F s p)
def oO (s:eF) (p:eX):LQ':=[aV s.2.2.1*lv (jM s p) 0 / lv (jM s p) 2+aV s.2.2.2.1.1,aV s.2.2.1*lv (jM s p) 1 / lv (jM s p) 2+aV s.2.2.2.1.2.1,aV 1]
theorem KU (s:eF) (p:eX) {i:Nat} (hi:i<3):lv (jM s p) i=mv 3 (tr (qE s.2.1)) (lv (a0F s p)) i:=by
 have hm:isM (trM (qMx s.2.1)) 3 3:=(q33 _).trp
 unfold jM mvL
 rw[hm.len,hm.wd]
 rw[show lv ((List.range 3).map (mv 3 (ent (trM (qMx s.2.1))) (lv (a0F s p)))) i=mv 3 (ent (trM (qMx s.2.1))) (lv (a0F s p)) i from gU hi]
 exact BI fun c hc=>ZY (q33 _) (fun i hi j hj=>by rw[MH];exact lU hi hj) i hi c hc
theorem b0x (s:eF) (p:eX) {i:Nat} (hi:i<3):lv (oO s p) i=b0w (aV s.2.2.1) (aV s.2.2.2.1.1) (aV s.2.2.2.1.2.1) (mv 3 (tr (qE s.2.1)) (lv (a0F s p))) i:=by
 rcases three hi with rfl|rfl|rfl
 ·show _ / _+_=_ / _+_
  rw[KU s p (by omega),KU s p (by omega)]
 ·show _ / _+_=_ / _+_
  rw[KU s p (by omega),KU s p (by omega)]
 ·rfl
theorem b0D (a b:Int):aV (a-b)=aV a-aV b:=Rat.intCast_sub a b
theorem a7W {a b:eF} (h:jZ a) (g:jZ b) (p:eX) (ha:lv (jM a p) 2≠0) (hb:lv (jM b p) 2≠0):dt 3 (lv (oO b p)) (mv 3 (ent (FM a b)) (lv (oO a p)))=0:=by
 rw[KU a p (by omega)] at ha
 rw[KU b p (by omega)] at hb
 have e:=a9L (T:=crE (lv (zA a b))) (x:=lv (oO a p)) (y:=lv (oO b p)) (a0l h) (a0l g) (PZ g.2.1) (PZ h.2.1) ha hb
  (fun i hi=>by rw[b0x a p hi];exact b0O ha hi) (fun i hi=>by rw[b0x b p hi];exact b0O hb hi) (by
   rw[tri]
   show aV (p.1-b.1.1)*(aV (b.1.2.1-a.1.2.1)*aV (p.2.2.1-a.1.2.2.1)-aV (b.1.2.2.1-a.1.2.2.1)*aV (p.2.1-a.1.2.1))+aV (p.2.1-b.1.2.1)*(aV (b.1.2.2.1-a.1.2.2.1)*aV (p.1-a.1.1)-aV (b.1.1-a.1.1)*aV (p.2.2.1-a.1.2.2.1))+aV (p.2.2.1-b.1.2.2.1)*(aV (b.1.1-a.1.1)*aV (p.2.1-a.1.2.1)-aV (b.1.2.1-a.1.2.1)*aV (p.1-a.1.1))=0
   simp only[b0D]
   grind)
 rw[<-e]
 exact RH fun i hi=>BI fun c hc=>a8L a b i hi c hc
end Go.Proofs.YtbkocjmmbkifjaaGreat
