/-
  Lemmas for the theorem vstations28_holds, part 31 of 34.
-/
import Derived.Test.YtbkocjmmbkifjaaGreatQs30
namespace Go.Proofs.YtbkocjmmbkifjaaGreat
open Go Go.RowKit
set_option maxRecDepth 100000
set_option maxHeartbeats 4000000
set_option linter.unusedVariables false
set_option linter.unusedSimpArgs false
abbrev RI:Type:=List (List Int)
def VU (r:RI):Prop:=r.length=3/\∀ l ∈ r,l.length=3/\∀ n ∈ l,aX n
def rI (r:RI):MQ:=tab 3 3 fun i j=>aO ((r.getD i []).getD j 0)
abbrev tRI:Ty:=.list (.list tI)
noncomputable def c4l:Ctr:=⟨[.list tI,.ref tRI],[tB],fun x=>(show List Int from x.1).length=3/\0<(show RI from x.2.1).length/\((show RI from x.2.1).getD 0 []).length=3,fun _=>(false,())⟩
theorem b4w:aI Tryz.prog 226 c4l:=by
 refine aK Lib.nil ⟨[],[],[]⟩ Tryz.func226 rfl (by decide) (fun x=>[]) (fun x hp=>?_)
 obtain⟨l,r,u⟩:=x
 change List Int at l
 change RI at r
 refine aU ((asT Int 0<=0/\0<aB r.length/\True)/\True/\(aB l.length != aB (List.getD r 0 (aF Int)).length)=false/\True) (by kernel_rfl) ?_
 have hZ:(⟨false,0,[],[]⟩:aH)=bF:=rfl
 try simp only[aC,aj,ah]
 try dsimp only[aB,asT,aA,aF,Ty.den,Lf.den] at *
 try simp only[hZ,Int.toNat_natCast,aC,aj,ah,jh,jg,gy,bf]
 try simp only[bT,bP,List.all_cons,List.all_nil,jk,dw,ig,jf,jy,ne_eq,au,bg,dn,eu,jd,oq,jr,ou,jh,jg,iw,bn,List.length_cons,List.length_nil]
 obtain⟨h1,h2,h3⟩:l.length=3/\0<r.length/\(r.getD 0 []).length=3:=hp
 exact⟨⟨by omega,by omega⟩,h1.trans h3.symm⟩
def ofP (x:RI) (c:RI):Prop:=x.length=3/\(∀ q ∈ x,q.length=3)/\0<c.length/\(c.getD 0 []).length=3
noncomputable def c4g:Ctr:=⟨[tRI,.clo 226 (.pair (.ref tRI) .unit)],[tI],fun x=>ofP x.1 x.2.1.1,fun _=>((-1:Int),())⟩
noncomputable def c3X:Ctr:=⟨[tRI,.clo 226 (.pair (.ref tRI) .unit)],[tB],fun x=>ofP x.1 x.2.1.1,fun _=>(false,())⟩
theorem b3V:aI Tryz.prog 271 c4g:=by
 refine aK (nil0.ad b4w) ⟨[],[],[]⟩ Tryz.func271 rfl (by decide) (fun x=>[.inv {k:Nat // k<=(show RI from x.1).length} (fun k=>[(8,.val tI (k.1:Int))]) (fun k=>[]) (fun k=>(show RI from x.1).length-k.1) ⟨0,by omega⟩ (fun _=>[])]) (fun x hp=>?_)
 obtain⟨x,c,u⟩:=x
 change RI at x
 change RI × Unit at c
 refine aU ((asT Int 0=0/\True)/\∀ (i:{ k:Nat // k<=List.length x }),asT Bool true=true/\ifB (decide (aB (aA i)<aB x.length)) ((0<=aB (aA i)/\aB (aA i)<aB x.length/\(List.length (List.getD x (aB (aA i)).toNat (aF Int))=3/\0<List.length (asT (List (List Int)) c.1)/\List.length (List.getD (asT (List (List Int)) c.1) 0 (aF Int))=3)/\True)/\∃ (i':{ k:Nat // k<=List.length x }),List.length x-aA i'<List.length x-aA i/\IntKind.wrap IntKind.i64 (aB (aA i)+1)=aB (aA i')/\True) (True/\asT Int (-1)=-1/\True)) (by kernel_rfl) ?_
 have hZ:(⟨false,0,[],[]⟩:aH)=bF:=rfl
 try simp only[aC,aj,ah]
 try dsimp only[aB,asT,aA,aF,Ty.den,Lf.den] at *
 try simp only[hZ,Int.toNat_natCast,aC,aj,ah,jh,jg,gy,bf]
 try simp only[bT,bP,List.all_cons,List.all_nil,jk,dw,ig,jf,jy,ne_eq,au,bg,dn,eu,jd,oq,jr,ou,jh,jg,iw,bn,List.length_cons,List.length_nil]
 obtain⟨h1,h2,h3,h4⟩:ofP x c.1:=hp
 exact fun i h=>⟨⟨by omega,h,bU h2 (by omega),h3,h4⟩,⟨i.1+1,by omega⟩,by simp only;omega,by rw[aP (by omega) (by omega)];rfl⟩
theorem b3p:aI Tryz.prog 225 c3X:=by
 refine aK (nil0.ad b3V) ⟨[],[],[]⟩ Tryz.func225 rfl (by decide) (fun x=>[]) (fun x hp=>?_)
 obtain⟨x,c,u⟩:=x
 change RI at x
 change RI × Unit at c
 refine aU ((ofP x (asT (List (List Int)) c.1)/\True)/\True/\asT Bool (decide (-1 ≥ 0))=false/\True) (by kernel_rfl) ?_
 have hZ:(⟨false,0,[],[]⟩:aH)=bF:=rfl
 try simp only[aC,aj,ah]
 try dsimp only[aB,asT,aA,aF,Ty.den,Lf.den] at *
 try simp only[hZ,Int.toNat_natCast,aC,aj,ah,jh,jg,gy,bf]
 try simp only[bT,bP,List.all_cons,List.all_nil,jk,dw,ig,jf,jy,ne_eq,au,bg,dn,eu,jd,oq,jr,ou,jh,jg,iw,bn,List.length_cons,List.length_nil]
 exact⟨hp,by omega⟩
abbrev TOf:List Ty:=[.ref tRI]
def b4E (c:(nest TOf).den) (i j:Int):Prop:=(0<=i/\i.toNat<(show RI from c.1).length/\0<=j/\j.toNat<((show RI from c.1).getD i.toNat []).length)/\aX (((show RI from c.1).getD i.toNat []).getD j.toNat 0)
def gOf (c:(nest TOf).den) (i j:Nat):Rat:=aO (((show RI from c.1).getD i []).getD j 0)
theorem WU:aI Tryz.prog 227 (a3s TOf b4E gOf):=by
 refine kS (nil0.ad DK) [5] Tryz.func227 rfl (by decide) (fun x=>[]) (fun x hp=>?_)
 obtain⟨i,j,c⟩:=x
 change Int at i
 change Int at j
 obtain⟨a,u⟩:=c
 change RI at a
 refine aU ((0<=i/\i<aB a.length/\0<=j/\j<aB (List.getD a i.toNat (aF Int)).length/\aX (List.getD (List.getD a i.toNat (aF Int)) j.toNat 0)/\True)/\True/\aO (List.getD (List.getD a i.toNat (aF Int)) j.toNat 0)=gOf (a,u) i.toNat j.toNat/\True) (by kernel_rfl) ?_
 try dsimp only[aB,asT,aA,aF] at *
 have h1:(0<=i/\i.toNat<a.length/\0<=j/\j.toNat<(a.getD i.toNat []).length)/\aX ((a.getD i.toNat []).getD j.toNat 0):=hp
 obtain⟨⟨k1,k2,k3,k4⟩,k5⟩:=h1
 exact⟨⟨k1,by omega,k3,by omega,k5,trivial⟩,trivial,rfl,trivial⟩
theorem b0X:NOk Tryz.prog 184 (TN 227 TOf b4E gOf):=by
 refine tY (nil0.ad WU) ⟨[],[],[(11,tR)]⟩ Tryz.func184 rfl (by decide) (fun x=>xI x.1 x.2.1 (gOf x.2.2.1)) (fun x hp=>?_)
 obtain⟨m,n,c,u⟩:=x
 obtain⟨R,C,hR,hC,r2,c2,hP⟩:=hp
 change m=(R:Int) at hR
 change n=(C:Int) at hC
 subst hR hC
 refine aU (xJ R C (gOf c) (b4E c) (fun y=>bG R C (gOf c)=y)) (by kernel_rfl) ?_
 exact qA r2 c2 hP rfl
noncomputable def c4n:Ctr:=⟨[tRI],[tM,tI],fun x=>VU x.1,fun x=>(rI x.1,(0:Int),())⟩
noncomputable def c4o:Ctr:=⟨[tRI],[tM],fun x=>VU x.1,fun x=>(rI x.1,())⟩
theorem b4z:aI Tryz.prog 145 c4n:=by
 refine aK (((nil0.ad b3p).ad WU).an b0X) ⟨[],[],[]⟩ Tryz.func145 rfl (by decide) (fun x=>[]) (fun x hp=>?_)
 obtain⟨r,u⟩:=x
 change RI at r
 refine aU (let A₂:=(aB r.length<1);let aJ:=(List.getD r 0 (aF Int)).length;let bV:=(bG (aB r.length).toNat (aB aJ).toNat (gOf (r,())));let dH:=(aB r.length > 64);let A₀:=(bif bif decide A₂ then true else decide dH then true else decide (aB aJ<1));let aT:=((A₀==false)=true->(A₀==false)=true/\True);let dD:=((decide A₂==false)=true->(decide A₂==false)=true/\True);let fZ:=(bif decide A₂ then true else decide dH);let A₁:=(fZ==false);let eP:=(A₁=true->A₁=true/\True);(dD/\dD/\(decide A₂=false->(decide A₂==false)=true)/\(A₁=true->A₁=true/\asT Int 0<=0/\0<aB r.length/\True)/\eP/\eP/\eP/\(fZ=false->A₁=true)/\((A₀==false)=true->(A₀==false)=true/\asT Int 0<=0/\0<aB r.length/\True)/\aT/\aT/\aT/\(A₀=false->(A₀==false)=true)/\True)/\ifB (bif bif bif decide A₂ then true else decide dH then true else decide (aB aJ<1) then true else decide (aB aJ > 64)) (True/\aF (List Rat)=rI r/\True/\asT Int 1=0/\True) ((ofP r r/\True)/\(asT Int 0<=0/\0<aB r.length/\TB TOf b4E (aB r.length,aB aJ,(r,()),())/\True)/\(kM (fun(x:Ty.den (Ty.list (Ty.lf Lf.iL)))=>dJ (kM (fun(x:Ty.den (Ty.lf Lf.iL))=>dJ ((aH.ok x=true)::aF Cd)) x::aF Cd)) bV/\True)/\List.map (fun(xs:Ty.den (Ty.list (Ty.lf Lf.iL)))=>List.map (fun(x:Ty.den (Ty.lf Lf.iL))=>aH.x x) xs) bV=rI r/\True/\asT Int 0=0/\True)) (by kernel_rfl) ?_
 have hZ:(⟨false,0,[],[]⟩:aH)=bF:=rfl
 try simp only[aC,aj,ah]
 try dsimp only[aB,asT,aA,aF,Ty.den,Lf.den] at *
 try simp only[hZ,Int.toNat_natCast,aC,aj,ah,jh,jg,gy,bf]
 try simp only[bT,bP,List.all_cons,List.all_nil,jk,dw,ig,jf,jy,ne_eq,au,bg,dn,eu,jd,oq,jr,ou,jh,jg,iw,bn,List.length_cons,List.length_nil]
 obtain⟨hl,hr⟩:VU r:=hp
 have l0:(r.getD 0 []).length=3:=(bU hr (by omega)).1
 simp only[hl,l0]
 refine⟨by decide,fun h=>absurd h (by decide),fun _=>⟨⟨hl,fun q hq=>(hr q hq).1,by omega,l0⟩,⟨by omega,by decide,⟨3,3,rfl,rfl,by omega,by omega,fun i j hi hj=>?_⟩⟩,JX _ _ _,UO _ _ _⟩⟩
 have h1:=bU (d:=[]) hr (show i<r.length by omega)
 exact⟨⟨yc i,by show i<r.length;omega,yc j,by show j<(r.getD i []).length;omega⟩,bU h1.2 (by show j<(r.getD i []).length;omega)⟩
theorem a5T:aI Tryz.prog 60 c4o:=by
 refine aK (nil0.ad b4z) ⟨[],[],[]⟩ Tryz.func60 rfl (by decide) (fun x=>[]) (fun x hp=>?_)
 obtain⟨r,u⟩:=x
 change RI at r
 refine aU ((VU r/\True)/\True/\(aO (List.getD (List.getD r 0 (aF Int)) 0 0)::aO (List.getD (List.getD r 0 (aF Int)) 1 0)::aO (List.getD (List.getD r 0 (aF Int)) 2 0)::aF Rat)::(aO (List.getD (List.getD r 1 (aF Int)) 0 0)::aO (List.getD (List.getD r 1 (aF Int)) 1 0)::aO (List.getD (List.getD r 1 (aF Int)) 2 0)::aF Rat)::(aO (List.getD (List.getD r 2 (aF Int)) 0 0)::aO (List.getD (List.getD r 2 (aF Int)) 1 0)::aO (List.getD (List.getD r 2 (aF Int)) 2 0)::aF Rat)::aF (List Rat)=rI r/\True) (by kernel_rfl) ?_
 have hZ:(⟨false,0,[],[]⟩:aH)=bF:=rfl
 try simp only[aC,aj,ah]
 try dsimp only[aB,asT,aA,aF,Ty.den,Lf.den] at *
 try simp only[hZ,Int.toNat_natCast,aC,aj,ah,jh,jg,gy,bf]
 try simp only[bT,bP,List.all_cons,List.all_nil,jk,dw,ig,jf,jy,ne_eq,au,bg,dn,eu,jd,oq,jr,ou,jh,jg,iw,bn,List.length_cons,List.length_nil]
 exact⟨hp,rfl⟩
noncomputable def c1T:Ctr:=⟨[FP],[tM],fun x=>aX x.1.2.2.1/\aX x.1.2.2.2.1.1/\aX x.1.2.2.2.1.2.1,fun x=>(dO x.1,())⟩
theorem b3O:aI Tryz.prog 67 c1T:=by
 refine aK (nil0.ad a5T) ⟨[],[],[]⟩ Tryz.func67 rfl (by decide) (fun x=>[]) (fun x hp=>?_)
 obtain⟨s,u⟩:=x
 change dN at s
 refine aU (let A₀:=s.2.2;let A₁:=A₀.2.1;(VU ((asT Int A₀.1::0::asT Int A₁.1::aF Int)::(0::asT Int A₀.1::asT Int A₁.2.1::aF Int)::(0::0::1::aF Int)::aF (List Int))/\True)/\True/\(aO (asT Int A₀.1)::aO 0::aO (asT Int A₁.1)::aF Rat)::(aO 0::aO (asT Int A₀.1)::aO (asT Int A₁.2.1)::aF Rat)::(aO 0::aO 0::aO 1::aF Rat)::aF (List Rat)=dO s/\True) (by kernel_rfl) ?_
 have hZ:(⟨false,0,[],[]⟩:aH)=bF:=rfl
 try simp only[aC,aj,ah]
 try dsimp only[aB,asT,aA,aF,Ty.den,Lf.den] at *
 try simp only[hZ,Int.toNat_natCast,aC,aj,ah,jh,jg,gy,bf]
 try simp only[bT,bP,List.all_cons,List.all_nil,jk,dw,ig,jf,jy,ne_eq,au,bg,dn,eu,jd,oq,jr,ou,jh,jg,iw,bn,List.length_cons,List.length_nil]
 obtain⟨w1,w2,w3⟩:aX s.2.2.1/\aX s.2.2.2.1.1/\aX s.2.2.2.1.2.1:=hp
 have w4:aX 0:=⟨by omega,by omega⟩
 have w5:aX 1:=⟨by omega,by omega⟩
 refine⟨⟨rfl,fun l hl=>?_⟩,(CU _).symm⟩
 simp only[qh,yw,Eo] at hl
 rcases hl with rfl|rfl|rfl
 all_goals
  refine⟨rfl,fun n hn=>?_⟩
  simp only[qh,yw,Eo] at hn
  rcases hn with rfl|rfl|rfl
  all_goals assumption
def iI (m:MQ) (l:List MQ):MQ:=l.foldl mulM m
def JE (m:MQ) (l:List MQ):Prop:=l.length<=1000/\(∀ n ∈ l,m33 1000000 n)/\∀ k,k<=l.length->m33 1000000 (iI m (l.take k))
noncomputable def c4r:Ctr:=⟨[tM,.list tM],[tM],fun x=>JE x.1 x.2.1,fun x=>(iI x.1 x.2.1,())⟩
theorem b4P:aI Tryz.prog 64 c4r:=by
 refine aK (nil0.ad b4j) ⟨[],[],[]⟩ Tryz.func64 rfl (by decide) (fun x=>[.inv {k:Nat // k<=(show List MQ from x.2.1).length} (fun k=>[(9,.val tI (k.1:Int)),(0,.val tM (iI x.1 ((show List MQ from x.2.1).take k.1)))]) (fun k=>[]) (fun k=>(show List MQ from x.2.1).length-k.1) ⟨0,by omega⟩ (fun _=>[])]) (fun x hp=>?_)
 obtain⟨m,l,u⟩:=x
 change MQ at m
 change List MQ at l
 refine aU ((asT Int 0=0/\m=iI m (List.take 0 l)/\True)/\∀ (i:{ k:Nat // k<=List.length l }),let A₀:=(List.getD l (aB (aA i)).toNat (aF (List Rat)));let A₁:=(iI m (List.take (aA i) l));asT Bool true=true/\ifB (decide (aB (aA i)<aB l.length)) ((0<=aB (aA i)/\aB (aA i)<aB l.length/\True)/\((okM A₁/\okM A₀/\wdM A₁=List.length A₀/\szM A₁ 1000000/\szM A₀ 1000000)/\True)/\∃ (i':{ k:Nat // k<=List.length l }),List.length l-aA i'<List.length l-aA i/\IntKind.wrap IntKind.i64 (aB (aA i)+1)=aB (aA i')/\tab A₁.length (wdM A₀) (mm A₀.length (ent A₁) (ent A₀))=iI m (List.take (aA i') l)/\True) (True/\iI m (List.take (aA i) l)=iI m l/\True)) (by kernel_rfl) ?_
 have hZ:(⟨false,0,[],[]⟩:aH)=bF:=rfl
 try simp only[aC,aj,ah]
 try dsimp only[aB,asT,aA,aF,Ty.den,Lf.den] at *
 try simp only[hZ,Int.toNat_natCast,aC,aj,ah,jh,jg,gy,bf]
 try simp only[bT,bP,List.all_cons,List.all_nil,jk,dw,ig,jf,jy,ne_eq,au,bg,dn,eu,jd,oq,jr,ou,jh,jg,iw,bn,List.length_cons,List.length_nil]
 obtain⟨h1,h2,h3⟩:JE m l:=hp
 refine⟨rfl,fun i=>⟨fun h=>?_,fun h=>by rw[jv (by omega)]⟩⟩
 have hi:i.1<l.length:=by omega
 obtain⟨a1,a2,a3,a4⟩:=(h3 i.1 i.2).ok (ay _)
 obtain⟨b1,b2,b3,b4⟩:=(h2 _ (nJ (d:=[]) hi)).ok (ay _)
 refine⟨⟨by omega,h⟩,⟨a1,b1,a3.trans b4.symm,a2,b2⟩,⟨i.1+1,by omega⟩,by simp only;omega,by rw[aP (by omega) (by omega)];rfl,?_⟩
 show mulM _ _=iI m (List.take (i.1+1) l)
 rw[Ai,jc hi,iy,jc hi]
 unfold iI
 rw[List.foldl_append];rfl
noncomputable def c2o:Ctr:=⟨[tM],[tM],fun x=>okM x.1,fun x=>(trM x.1,())⟩
noncomputable def c1V:Ctr:=⟨[tM],[tM],fun x=>(okM x.1/\wdM (show MQ from x.1)=(show MQ from x.1).length/\uD (show MQ from x.1).length ((show MQ from x.1).length+(show MQ from x.1).length) (fD (show MQ from x.1).length (ent x.1) idm) (show MQ from x.1).length)/\DZ x.1=true,fun x=>(kD x.1,())⟩
theorem b5B:aI Tryz.prog 65 c2o:=by
 refine aK (nil0.ad a4C) ⟨[],[],[]⟩ Tryz.func65 rfl (by decide) (fun x=>[]) (fun x hp=>?_)
 obtain⟨m,u⟩:=x
 change MQ at m
 refine aU ((okM m/\True)/\True/\tab (wdM m) m.length (tr (ent m))=trM m/\True) (by kernel_rfl) ?_
 have hZ:(⟨false,0,[],[]⟩:aH)=bF:=rfl
 try simp only[aC,aj,ah]
 try dsimp only[aB,asT,aA,aF,Ty.den,Lf.den] at *
 try simp only[hZ,Int.toNat_natCast,aC,aj,ah,jh,jg,gy,bf]
 try simp only[bT,bP,List.all_cons,List.all_nil,jk,dw,ig,jf,jy,ne_eq,au,bg,dn,eu,jd,oq,jr,ou,jh,jg,iw,bn,List.length_cons,List.length_nil]
 exact⟨hp,rfl⟩
theorem b3T:aI Tryz.prog 66 c1V:=by
 refine aK (nil0.ad b3S) ⟨[],[],[]⟩ Tryz.func66 rfl (by decide) (fun x=>[]) (fun x hp=>?_)
 obtain⟨m,u⟩:=x
 change MQ at m
 refine aU (((okM m/\wdM m=List.length m/\uD m.length (List.length m+List.length m) (fD m.length (ent m) idm) m.length)/\True)/\True/\Prod.fst (LH m)=kD m/\True) (by kernel_rfl) ?_
 have hZ:(⟨false,0,[],[]⟩:aH)=bF:=rfl
 try simp only[aC,aj,ah]
 try dsimp only[aB,asT,aA,aF,Ty.den,Lf.den] at *
 try simp only[hZ,Int.toNat_natCast,aC,aj,ah,jh,jg,gy,bf]
 try simp only[bT,bP,List.all_cons,List.all_nil,jk,dw,ig,jf,jy,ne_eq,au,bg,dn,eu,jd,oq,jr,ou,jh,jg,iw,bn,List.length_cons,List.length_nil]
 refine⟨hp.1,?_⟩
 unfold LH
 rw[jm hp.2]
def stk {α:Type} (n:Nat) (x:α):α:=if n=n then x else x
theorem a1f {α:Type} (n:Nat) (x:α):stk n x=x:=by unfold stk;split<;>rfl
noncomputable def c4p:Ctr:=⟨[tRI],[tM],fun x=>VU x.1,fun x=>(stk (((show RI from x.1).getD 0 []).getD 1 0).natAbs (rI x.1),())⟩
noncomputable def c2d:Ctr:=⟨[tM,.list tM],[tM],fun x=>JE x.1 x.2.1,fun x=>(stk (show MQ from x.1).length (iI x.1 x.2.1),())⟩
noncomputable def c2p:Ctr:=⟨[tM],[tM],fun x=>okM x.1,fun x=>(stk (show MQ from x.1).length (trM x.1),())⟩
noncomputable def c1X:Ctr:=⟨[tM],[tM],fun x=>(okM x.1/\wdM (show MQ from x.1)=(show MQ from x.1).length/\uD (show MQ from x.1).length ((show MQ from x.1).length+(show MQ from x.1).length) (fD (show MQ from x.1).length (ent x.1) idm) (show MQ from x.1).length)/\DZ x.1=true,fun x=>(stk (show MQ from x.1).length (kD x.1),())⟩
noncomputable def c1H:Ctr:=⟨[.list (.list tR)],[.list tR],fun x=>(show MR from x.1).length<=1000/\∀ r ∈ (show MR from x.1),r.length<=1000,fun x=>(stk (show MR from x.1).length (show MR from x.1).flatten,())⟩
noncomputable def c1C:Ctr:=⟨[.list tQ],[tM],fun x=>yQ x.1/\(show LQ' from x.1).length=9,fun x=>(stk (show LQ' from x.1).length (uQ x.1),())⟩
theorem vW {α:Type} (n:Nat) (x:α):(x,())=(stk n x,()):=by rw[a1f]
theorem b4x:aI Tryz.prog 60 c4p:=qJ a5T fun x _=>vW _ _
theorem b1B:aI Tryz.prog 64 c2d:=qJ b4P fun x _=>vW _ _
theorem b2O:aI Tryz.prog 65 c2p:=qJ b5B fun x _=>vW _ _
theorem b0t:aI Tryz.prog 66 c1X:=qJ b3T fun x _=>vW _ _
theorem a9g:aI Tryz.prog 63 c1H:=qJ a9h fun x _=>vW _ _
theorem a8P:aI Tryz.prog 62 c1C:=qJ a8N fun x _=>vW _ _
def NY (a b:dN):Prop:=a.1.1=b.1.1/\a.1.2.1=b.1.2.1/\a.1.2.2.1=b.1.2.2.1
instance (a b:dN):Decidable (NY a b):=by unfold NY;infer_instance
def fO (a b:dN):MQ × Int × Unit:=if pG [a,b]≠0 then ([],pG [a,b],()) else if NY a b then ([],13,()) else (uQ (FM a b).flatten,0,())
noncomputable def c2c:Ctr:=⟨[FP,FP],[tM,tI],fun x=>True,fun x=>fO x.1 x.2.1⟩
theorem c3A {q:aZ} (h:zQ q=false):¬ (q.1=0/\q.2.1=0/\q.2.2.1=0/\q.2.2.2.1=0):=ug h
theorem rH {n:Int} (h:kT n=false):cdI n:=by
 unfold kT at h
 rw[bn] at h
 have h1:=ug h.1
 have h2:=ug h.2
 exact⟨by omega,by omega⟩
theorem a5k {s:dN} (hz:zS s=false) (h:sW s=false):nX s:=by
 unfold sW at h
 simp only[bn,List.any_cons,List.any_nil,Bool.or_false,ah] at h
 obtain⟨⟨⟨a,b,c,d,e,f,g,i,j⟩,k⟩,l⟩:=h
 exact⟨⟨rH a,rH b,rH c⟩,⟨c3A hz,rH f,rH g,rH i,rH j⟩,⟨by omega,by omega⟩,rH d,rH e⟩
theorem MJ {a b:dN} (h:pG [a,b]=0):nX a/\nX b:=by
 unfold pG at h
 have hz:[a,b].any zS=false:=by
  cases e:[a,b].any zS
  ·rfl
  ·rw[e] at h;cases h
 have hf:[a,b].any sW=false:=by
  cases e:[a,b].any sW
  ·rfl
  ·rw[hz,e] at h;cases h
 simp only[List.any_cons,List.any_nil,Bool.or_false,bn] at hz hf
 exact⟨a5k hz.1 hf.1,a5k hz.2 hf.2⟩
theorem b5c (x y z:Int):rI [[0,0-z,y],[z,0,0-x],[0-y,x,0]]=NZ [aO x,aO y,aO z]:=by
 have n:∀ t:Int,aO (0-t)=- aO t:=fun t=>by rw[Int.zero_sub];exact Rat.intCast_neg t
 show [[aO 0,aO (0-z),aO y],[aO z,aO 0,aO (0-x)],[aO (0-y),aO x,aO 0]]=[[aO 0,- aO z,aO y],[aO z,aO 0,- aO x],[- aO y,aO x,aO 0]]
 rw[n,n,n]
theorem a2C {K:Nat} {x:MQ} (h:isM x 3 3) (c:CdM x K) (hK:K<=1000):okM x:=⟨by rw[h.len,h.wd];exact h,c.sz (by omega)⟩
theorem CV {s:dN} (h:nX s):((okM (dO s)/\wdM (dO s)=(dO s).length/\uD (dO s).length ((dO s).length+(dO s).length) (fD (dO s).length (ent (dO s)) idm) (dO s).length)/\DZ (dO s)=true)/\okM (kD (dO s)):=by
 have hm:=nK s
 have hc:=WH h
 refine⟨⟨⟨a2C hm hc (by omega),by rw[hm.len,hm.wd],?_⟩,b7V h⟩,a2C (nM hm) (hc.inv hm) (by omega)⟩
 rw[hm.len]
 exact a5U (hc.EX hm) (by omega) (by omega)
theorem LX (m:MQ):iI m []=m:=rfl
theorem FH (m x:MQ) (l:List MQ):iI m (x::l)=iI (mulM m x) l:=rfl
theorem a2J {a b:dN} (h:nX a) (g:nX b):JE (trM (kD (dO b))) [trM (qMx b.2.1),NZ (nZ a b),qMx a.2.1,kD (dO a)]:=by
 have m1:=(nM (nK b)).trp
 have m2:=m1.mul (q33 b.2.1).trp
 have m3:=m2.mul (EH (nZ a b))
 have m4:=m3.mul (q33 a.2.1)
 have m5:=m4.mul (nM (nK a))
 have c1:=((WH g).inv (nK b)).trp (nM (nK b))
 have d2:=(VJ g.2.1).trp (q33 _)
 have d5:=(WH h).inv (nK a)
 have c2:=c1.mul d2 m1 (q33 _).trp
 have c3:=c2.mul (a3w h g) m2 (EH _)
 have c4:=c3.mul (VJ h.2.1) m3 (q33 _)
 have c5:=c4.mul d5 m4 (nM (nK a))
 refine⟨by show 4<=1000;omega,fun n hn=>?_,fun k hk=>?_⟩
 ·simp only[qh,yw,Eo] at hn
  rcases hn with rfl|rfl|rfl|rfl
  ·exact⟨(q33 _).trp,d2.sz (by omega)⟩
  ·exact⟨EH _,(a3w h g).sz (by omega)⟩
  ·exact⟨q33 _,(VJ h.2.1).sz (by omega)⟩
  ·exact⟨nM (nK a),d5.sz (by omega)⟩
 ·have hk:k<=4:=hk
  have e:k=0\/k=1\/k=2\/k=3\/k=4:=by omega
  rcases e with rfl|rfl|rfl|rfl|rfl<;>simp only[List.take_zero,List.take_succ_cons,LX,FH]
  ·exact⟨m1,c1.sz (by omega)⟩
  ·exact⟨m2,c2.sz (by omega)⟩
  ·exact⟨m3,c3.sz (by omega)⟩
  ·exact⟨m4,c4.sz (by omega)⟩
  ·exact⟨m5,c5.sz (by omega)⟩
theorem LQ (x:MQ):List.map (fun q:aH=>q.x) (List.map (fun xs=>List.map (fun q=>eU q) xs) x).flatten=x.flatten:=by
 rw[List.map_flatten,List.map_map]
 congr 1
 conv=>rhs;rw[<-List.map_id x]
 refine qj fun r _=>?_
 show List.map (fun q:aH=>q.x) (List.map (fun q=>eU q) r)=r
 rw[List.map_map]
 conv=>rhs;rw[<-List.map_id r]
 exact qj fun q _=>rfl
theorem b4A:aI Tryz.prog 11 c2c:=by
 refine aK (((((((((nil0.ad b4T).ad b4x).ad b4n).ad b3O).ad b0t).ad b2O).ad b1B).ad a9g).ad a8P) ⟨[],[],[]⟩ Tryz.func11 rfl (by decide) (fun x=>[]) (fun x hp=>?_)
 obtain⟨a,b,u⟩:=x
 change dN at a
 change dN at b
 refine aU (let dH:=(a::b::aF ((Int × Int × Int × PUnit) × (Int × Int × Int × Int × PUnit) × Int × (Int × Int × PUnit) × PUnit));let dD:=(asT Int b.1.2.2.1-asT Int a.1.2.2.1);let eP:=(fun(xs:Ty.den (Ty.list (Ty.lf Lf.rat)))=>List.map (fun(x:Ty.den (Ty.lf Lf.rat))=>eU x) xs);let fZ:=(asT Int b.1.2.1-asT Int a.1.2.1);let dU:=(asT Int b.1.1-asT Int a.1.1);let gX:=b.2.1;let iZ:=(dO b).length;let bV:=(stk iZ (kD (dO b)));let jO:=(dO a).length;let kL:=(stk bV.length (trM bV));let oW:=b.2.2.2.1;let nU:=a.2.2.2.1;let fK:=(0-IntKind.wrap IntKind.i64 dD);let A₁:=((0::IntKind.wrap IntKind.i64 fK::IntKind.wrap IntKind.i64 fZ::aF Int)::(IntKind.wrap IntKind.i64 dD::0::IntKind.wrap IntKind.i64 (0-IntKind.wrap IntKind.i64 dU)::aF Int)::(IntKind.wrap IntKind.i64 (0-IntKind.wrap IntKind.i64 fZ)::IntKind.wrap IntKind.i64 dU::0::aF Int)::aF (List Int));let aJ:=(stk (qMx gX).length (trM (qMx gX))::stk (Int.natAbs (IntKind.wrap IntKind.i64 fK)) (rI A₁)::qMx a.2.1::stk jO (kD (dO a))::aF (List (List Rat)));let A₀:=(stk kL.length (iI kL aJ));let A₂:=(List.map eP A₀);let rE:=(stk A₂.length (List.flatten A₂));let aT:=(List.map (fun(x:Ty.den (Ty.lf Lf.iL))=>aH.x x) rE);(List.length dH<=1000000/\True)/\ifB (pG dH != 0) (True/\aF (List Rat)=Prod.fst (fO a b)/\True/\pG dH=Prod.fst (fO a b).2/\True) (ifB (eqD (Ty.pair (Ty.int IntKind.i64) (Ty.pair (Ty.int IntKind.i64) (Ty.pair (Ty.int IntKind.i64) Ty.unit))) a.1 b.1) (True/\aF (List Rat)=Prod.fst (fO a b)/\True/\13=Prod.fst (fO a b).2/\True) ((VU A₁/\True)/\(qOk a.2.1/\True)/\(qOk gX/\True)/\((aX (asT Int b.2.2.1)/\aX (asT Int oW.1)/\aX (asT Int oW.2.1))/\((okM (dO b)/\wdM (dO b)=List.length (dO b)/\uD iZ (List.length (dO b)+List.length (dO b)) (fD iZ (ent (dO b)) idm) iZ)/\DZ (dO b)=true)/\okM bV/\okM (qMx gX)/\(aX (asT Int a.2.2.1)/\aX (asT Int nU.1)/\aX (asT Int nU.2.1))/\((okM (dO a)/\wdM (dO a)=List.length (dO a)/\uD jO (List.length (dO a)+List.length (dO a)) (fD jO (ent (dO a)) idm) jO)/\DZ (dO a)=true)/\JE kL aJ/\kM (fun(x:Ty.den (Ty.list (Ty.lf Lf.rat)))=>dJ (kM (fun(x:Ty.den (Ty.lf Lf.rat))=>dJ (aF Cd)) x::aF Cd)) A₀/\(List.length A₂<=1000/\∀ (r:List aH),r ∈ List.map eP A₀->List.length r<=1000)/\kM (fun(x:Ty.den (Ty.lf Lf.iL))=>dJ ((aH.ok x=true)::aF Cd)) rE/\(yQ aT/\List.length aT=9)/\True)/\True/\stk aT.length (uQ aT)=Prod.fst (fO a b)/\True/\0=Prod.fst (fO a b).2/\True))) (by kernel_rfl) ?_
 have hZ:(⟨false,0,[],[]⟩:aH)=bF:=rfl
 try simp only[aC,aj,ah]
 try dsimp only[aB,asT,aA,aF,Ty.den,Lf.den] at *
 try simp only[hZ,Int.toNat_natCast,aC,aj,ah,jh,jg,gy,bf]
 try simp only[bT,bP,List.all_cons,List.all_nil,jk,dw,ig,jf,jy,ne_eq,au,bg,dn,eu,jd,oq,jr,ou,jh,jg,iw,bn,List.length_cons,List.length_nil]
 simp only[a1f]
 refine⟨by omega,fun h=>?_,fun h=>⟨fun h2=>?_,fun h2=>?_⟩⟩
 ·unfold fO;rw[jm h];exact⟨rfl,rfl⟩
 ·have h2:NY a b:=qw ((b3C a.1 b.1).symm.trans h2)
  unfold fO;rw[ji (by rw[h];exact fun e=>e rfl),jm h2];exact⟨rfl,rfl⟩
 ·have h2:¬ NY a b:=ug ((b3C a.1 b.1).symm.trans h2)
  obtain⟨ha,hb⟩:=MJ h
  have e:fO a b=(uQ (FM a b).flatten,0,()):=by unfold fO;rw[ji (by rw[h];exact fun e=>e rfl),ji h2]
  rw[e]
  obtain⟨⟨a1,a2⟩,⟨a3,a4⟩,a5,a6⟩:=ha.1
  obtain⟨⟨b1,b2⟩,⟨b3,b4⟩,b5,b6⟩:=hb.1
  simp(disch:=omega) only[aP]
  rw[b5c]
  have hf:iI (trM (kD (dO b))) [trM (qMx b.2.1),NZ [aO (b.1.1-a.1.1),aO (b.1.2.1-a.1.2.1),aO (b.1.2.2.1-a.1.2.2.1)],qMx a.2.1,kD (dO a)]=FM a b:=by
   simp only[LX,FH];unfold FM nZ;rfl
  rw[hf]
  obtain⟨hp9,h9⟩:=a4K ha hb h2
  have wk:∀ s:dN,nX s->aX s.2.2.1/\aX s.2.2.2.1.1/\aX s.2.2.2.1.2.1:=fun s h=>⟨⟨by have:=h.2.2.1;omega,by have:=h.2.2.1;omega⟩,h.2.2.2.1.word,h.2.2.2.2.word⟩
  have h33:=a8t a b
  clear hf e
  generalize FM a b=F at *
  refine⟨⟨rfl,fun l hl=>?_⟩,ha.2.1,hb.2.1,⟨wk b hb,(CV hb).1,(CV hb).2,a2C (q33 _) (VJ hb.2.1) (by omega),wk a ha,(CV ha).1,a2J ha hb,FW _,⟨by rw[ru,h33.len];omega,fun r hr=>?_⟩,sN.mpr fun q hq=>⟨?_,trivial⟩,by rw[LQ];exact hp9,by rw[LQ];exact h9⟩,by rw[LQ],trivial⟩
  ·simp only[qh,yw,Eo] at hl
   rcases hl with rfl|rfl|rfl
   all_goals
    refine⟨rfl,fun n hn=>?_⟩
    simp only[qh,yw,Eo] at hn
    rcases hn with rfl|rfl|rfl
    all_goals exact⟨by omega,by omega⟩
  ·obtain⟨x,hx,rfl⟩:=uw.1 hr
   rw[ru,h33.2.1 x hx];omega
  ·obtain⟨r,hr,hq⟩:=List.mem_flatten.1 hq
   obtain⟨x,_,rfl⟩:=uw.1 hr
   obtain⟨y,_,rfl⟩:=uw.1 hq
   rfl
set_option maxHeartbeats 1000000
theorem b5k:NOk Tryz.prog 157 c5e:=by
 refine tY ((nil0.ad BF).an a0Z) ⟨[],[],[]⟩ Tryz.func157 rfl (by decide) (fun x=>[.inv {k:Nat // k<=(show Int from x.1).toNat} (fun k=>[(4,.val tI (k.1:Int))]) (fun k=>[(7,.mat 39 47 tQ none (a2f (show Int from x.1).toNat k.1) 0)]) (fun k=>(show Int from x.1).toNat-k.1) ⟨0,by omega⟩ (fun _=>[])]) (fun x hp=>?_)
 obtain⟨n,u⟩:=x
 change Int at n
 refine aU (((0<=n/\n<=1000/\0<=n/\n<=1000)/\True)/\(asT Int 0=0/\BQ n.toNat n.toNat=a2f n.toNat 0/\True)/\∀ (i:{ k:Nat // k<=Int.toNat n }),let A₁:=(a2f n.toNat (aA i));let A₂:=(aB (aA i)).toNat;let A₀:=(rowAt A₁ (nameAt none A₂));asT Bool true=true/\ifB (decide (aB (aA i)<n)) ((0<=aB (aA i)/\aB (aA i)<aB (aN none A₁)/\Int.toNat (aB (aA i))<aN none A₁/\aX 1/\0<=aB (aA i)/\aB (aA i)<aB A₀.length/\Int.toNat (aB (aA i))<List.length A₀/\True)/\∃ (i':{ k:Nat // k<=Int.toNat n }),Int.toNat n-aA i'<Int.toNat n-aA i/\IntKind.wrap IntKind.i64 (aB (aA i)+1)=aB (aA i')/\List.set A₁ (nameAt none A₂) (List.set A₀ A₂ (aO 1))=a2f n.toNat (aA i')/\True) (idM n.toNat=a2f n.toNat (aA i))) (by kernel_rfl) ?_
 have hZ:(⟨false,0,[],[]⟩:aH)=bF:=rfl
 dsimp only[aB,asT,aA,aF,Ty.den,Lf.den] at *
 simp only[hZ,Int.toNat_natCast,aC,aj,ah,jh,jg,aN,nameAt,bJ,eX,eY,rowAt,gy,bf]
 have hp:0<=n/\n<=1000:=hp
 obtain⟨n0,n1⟩:=hp
 refine⟨⟨n0,n1,n0,n1⟩,?_,fun i=>⟨fun h1=>?_,fun h1=>?_⟩⟩
 ·exact eF fun i _ j _=>(ji (by omega)).symm
 ·have hi:i.1<n.toNat:=by omega
  have hl:(a2f n.toNat i.1).length=n.toNat:=eY
  have hr:((a2f n.toNat i.1).getD i.1 []).length=n.toNat:=by unfold a2f;rw[gU hi];simp
  refine⟨⟨by omega,by rw[hl];omega,by rw[hl];omega,by unfold aX;omega,by omega,by rw[hr];omega,by rw[hr];omega⟩,⟨i.1+1,by omega⟩,by simp only;omega,by rw[aP (by omega) (by omega)];rfl,?_⟩
  refine(BI _ hi).trans (eF fun a _ b _=>?_)
  show (if a=i.1/\b=i.1 then ((1:Int):Rat) else if a=b/\a<i.1 then 1 else 0)=if a=b/\a<i.1+1 then 1 else 0
  by_cases e:a=i.1/\b=i.1
  ·rw[jm e,jm (by omega)];rfl
  ·rw[ji e]
   by_cases e2:a=b/\a<i.1
   ·rw[jm e2,jm (by omega)]
   ·rw[ji e2,ji (by omega)]
 ·have hi:i.1=n.toNat:=by have:=i.2;omega
  rw[hi]
  refine eF fun a ha b _=>?_
  show (if a=b then (1:Rat) else 0)=_
  by_cases e:a=b
  ·rw[jm e,jm ⟨e,ha⟩]
  ·rw[ji e,ji (by omega)]
theorem b1K:NOk Tryz.prog 238 c3k:=by
 refine tY nil0 ⟨[],[],[(5,tQ),(19,tQ)]⟩ Tryz.func238 rfl (by decide) (fun x=>[.inv {k:Nat // k<=(show MQ from x.1).length} (fun k=>[(4,.val tI (k.1:Int)),(3,.own 5 0),(5,.any),(20,.any)]) (fun k=>[(5,.mat 39 47 tQ none ((show MQ from x.1).take k.1) 0)]) (fun k=>(show MQ from x.1).length-k.1) ⟨0,by omega⟩ (fun _=>[])]) (fun x hp=>?_)
 obtain⟨a,u⟩:=x
 change List (List Rat) at a
 refine aU ((asT Int 0=0/\asT (List (List Rat)) (aF (List Rat))=aF (List Rat)/\True)/\∀ (i:{ k:Nat // k<=List.length a }),asT Bool true=true/\ifB (decide (aB (aA i)<aB a.length)) ((0<=aB (aA i)/\aB (aA i)<aB a.length/\List.length (aF Rat)+List.length (List.getD a (aB (aA i)).toNat (aF Rat))<=1000000000/\aN none (List.take (aA i) a)+1<=1000000000/\True)/\∃ (i':{ k:Nat // k<=List.length a }),List.length a-aA i'<List.length a-aA i/\IntKind.wrap IntKind.i64 (aB (aA i)+1)=aB (aA i')/\List.take (aA i) a++(aF Rat++List.getD a (aB (aA i)).toNat (aF Rat))::aF (List Rat)=List.take (aA i') a/\True) (a=List.take (aA i) a)) (by kernel_rfl) ?_
 have hZ:(⟨false,0,[],[]⟩:aH)=bF:=rfl
 dsimp only[aB,asT,aA,aF,Ty.den,Lf.den] at *
 simp only[hZ,Int.toNat_natCast,aC,aj,ah,jh,jg,aN,nameAt,bJ,eX,eY,rowAt,gy,bf]
 have hp:a.length<=1000/\∀ r ∈ a,r.length<=1000:=hp
 obtain⟨h1,h2⟩:=hp
 refine fun i=>⟨fun h3=>?_,fun h3=>?_⟩
 ·have hi:i.1<a.length:=by omega
  have hr:(a.getD i.1 []).length<=1000:=bU h2 hi
  refine⟨⟨by omega,by omega,by show 0+(a.getD i.1 []).length<=_;omega,by rw[ni];omega⟩,⟨i.1+1,by omega⟩,by simp only;omega,by rw[aP (by omega) (by omega)];rfl,?_⟩
  rw[Ai,iy,jc hi];simp
 ·rw[jv (by omega)]
def OD (R C:Nat) (f g:Nat->Nat->Rat) (r c:Nat):MQ:=tab R C fun i j=>if i<r\/i=r/\j<c then f i j else g i j
theorem a8i {R C:Nat} {f g:Nat->Nat->Rat}:OD R C f g 0 0=tab R C g:=eF fun i _ j _=>ji (by omega)
theorem b2H {R C:Nat} {f g:Nat->Nat->Rat} {r c:Nat} (hr:r<R):(OD R C f g r c).set r (((OD R C f g r c).getD r []).set c (f r c))=OD R C f g r (c+1):=by
 unfold OD;rw[BI _ hr]
 refine eF fun i _ j _=>?_
 by_cases e:i=r/\j=c
 ·obtain⟨rfl,rfl⟩:=e;rw[jm ⟨rfl,rfl⟩,jm (by omega)]
 ·rw[ji e]
  by_cases h:i<r\/i=r/\j<c
  ·rw[jm h,jm (by omega)]
  ·rw[ji h,ji (by omega)]
theorem b2G {R C:Nat} {f g:Nat->Nat->Rat} {r c:Nat} (hc:C<=c):OD R C f g r c=OD R C f g (r+1) 0:=by
 refine eF fun i _ j _=>?_
 by_cases h:i<r\/i=r/\j<c
 ·rw[jm h,jm (by omega)]
 ·rw[ji h,ji (by omega)]
theorem b2E {R C:Nat} {f g:Nat->Nat->Rat} {r:Nat} (hr:R<=r):OD R C f g r 0=tab R C f:=eF fun i _ j _=>jm (by omega)
theorem b2F {R C:Nat} {f g:Nat->Nat->Rat} {r c:Nat}:(OD R C f g r c).length=R:=eY
theorem b5y {R C:Nat} {f g:Nat->Nat->Rat} {r c i:Nat} (hi:i<R):((OD R C f g r c).getD i []).length=C:=by unfold OD;rw[gU hi];simp
def zZ (a b:MQ) (r c:Nat):MQ:=OD a.length (wdM b) (mm b.length (ent a) (ent b)) (fun _ _=>0) r c
noncomputable def c1Z:Ctr:=⟨[tM,tM],[tM],fun x=>okM x.1/\okM x.2.1/\wdM (show MQ from x.1)=(show MQ from x.2.1).length/\szM x.1 1000000/\szM x.2.1 1000000,fun x=>(mulM x.1 x.2.1,())⟩
theorem YO:aI Tryz.prog 80 c1Z:=by
 refine aK ((((nil0.ad PE).ad PO).ad BF).an a0Z) ⟨[8],[],[]⟩ Tryz.func80 rfl (by decide) (fun x=>[.inv {k:Nat // k<=(show MQ from x.1).length} (fun r=>[(6,.val tI (r.1:Int))]) (fun r=>[(16,.mat 39 47 tQ none (zZ (show MQ from x.1) (show MQ from x.2.1) r.1 0) 0)]) (fun r=>(show MQ from x.1).length-r.1) ⟨0,by omega⟩ (fun r=>[.inv {k:Nat // k<=wdM (show MQ from x.2.1)} (fun c=>[(7,.val tI (c.1:Int))]) (fun c=>[(16,.mat 39 47 tQ none (zZ (show MQ from x.1) (show MQ from x.2.1) r.1 c.1) 0)]) (fun c=>wdM (show MQ from x.2.1)-c.1) ⟨0,by omega⟩ (fun c=>[.inv {k:Nat // k<=(show MQ from x.2.1).length} (fun k=>[(9,.val tI (k.1:Int))]) (fun k=>[(16,.mat 39 47 tQ none (zZ (show MQ from x.1) (show MQ from x.2.1) r.1 c.1) 0),(8,.box [⟨tQ,mm k.1 (ent (show MQ from x.1)) (ent (show MQ from x.2.1)) r.1 c.1⟩])]) (fun k=>(show MQ from x.2.1).length-k.1) ⟨0,by omega⟩ (fun _=>[])])])]) (fun x hp=>?_)
 obtain⟨a,b,u⟩:=x
 change List (List Rat) at a
 change List (List Rat) at b
 refine aU (let A₀:=(List.getD b 0 (aF Rat)).length;(asT Int 0<=0/\0<aB b.length/\(0<=aB a.length/\aB a.length<=1000/\0<=aB A₀/\aB A₀<=1000)/\True)/\(asT Int 0=0/\BQ (aB a.length).toNat (aB A₀).toNat=zZ a b 0 0/\True)/\∀ (i:{ k:Nat // k<=List.length a }),let A₁:=(aB (aA i)).toNat;let A₂:=(List.getD a A₁ (aF Rat));asT Bool true=true/\ifB (decide (aB (aA i)<aB a.length)) ((asT Int 0=0/\zZ a b (aA i) 0=zZ a b (aA i) 0/\True)/\∀ (i_1:{ k:Nat // k<=wdM b }),let aJ:=(zZ a b (aA i) (aA i_1));let aT:=(aB (aA i_1)).toNat;let bV:=(rowAt aJ (nameAt none A₁));asT Bool true=true/\(asT Int 0<=0/\0<aB b.length/\True)/\ifB (decide (aB (aA i_1)<aB A₀)) ((aX 0/\True)/\(asT Int 0=0/\zZ a b (aA i) (aA i_1)=zZ a b (aA i) (aA i_1)/\aO 0=mm 0 (ent a) (ent b) (aA i) (aA i_1)/\True)/\∀ (i_2:{ k:Nat // k<=List.length b }),let dH:=(aB (aA i_2)).toNat;let dD:=(List.getD b dH (aF Rat));let eP:=(mm (aA i_2) (ent a) (ent b) (aA i) (aA i_1));asT Bool true=true/\ifB (decide (aB (aA i_2)<aB b.length)) ((0<=aB (aA i)/\aB (aA i)<aB a.length/\0<=aB (aA i_2)/\aB (aA i_2)<aB A₂.length/\0<=aB (aA i_2)/\aB (aA i_2)<aB b.length/\0<=aB (aA i_1)/\aB (aA i_1)<aB dD.length/\s19 (List.getD A₂ dH 0) (List.getD dD aT 0)/\s19 eP (List.getD A₂ dH 0*List.getD dD aT 0)/\True)/\∃ (i':{ k:Nat // k<=List.length b }),List.length b-aA i'<List.length b-aA i_2/\IntKind.wrap IntKind.i64 (aB (aA i_2)+1)=aB (aA i')/\zZ a b (aA i) (aA i_1)=zZ a b (aA i) (aA i_1)/\mm (aA i_2) (ent a) (ent b) (aA i) (aA i_1)+List.getD A₂ dH 0*List.getD dD aT 0=mm (aA i') (ent a) (ent b) (aA i) (aA i_1)/\True) ((0<=aB (aA i)/\aB (aA i)<aB (aN none aJ)/\Int.toNat (aB (aA i))<aN none aJ/\0<=aB (aA i_1)/\aB (aA i_1)<aB bV.length/\Int.toNat (aB (aA i_1))<List.length bV/\True)/\∃ (i':{ k:Nat // k<=wdM b }),wdM b-aA i'<wdM b-aA i_1/\IntKind.wrap IntKind.i64 (aB (aA i_1)+1)=aB (aA i')/\List.set aJ (nameAt none A₁) (List.set bV aT eP)=zZ a b (aA i) (aA i')/\True)) (∃ (i':{ k:Nat // k<=List.length a }),List.length a-aA i'<List.length a-aA i/\IntKind.wrap IntKind.i64 (aB (aA i)+1)=aB (aA i')/\zZ a b (aA i) (aA i_1)=zZ a b (aA i') 0/\True)) (True/\zZ a b (aA i) 0=mulM a b/\True)) (by kernel_rfl) ?_
 have hZ:(⟨false,0,[],[]⟩:aH)=bF:=rfl
 dsimp only[aB,asT,aA,aF,Ty.den,Lf.den] at *
 simp only[hZ,Int.toNat_natCast,aC,aj,ah,jh,jg,aN,nameAt,bJ,eX,eY,rowAt,gy,bf]
 have hp:okM a/\okM b/\wdM a=b.length/\szM a 1000000/\szM b 1000000:=hp
 obtain⟨ha,hb,hw,sa,sb⟩:=hp
 have q1:=ha.r64
 have q2:=ha.c64
 have q3:=hb.r64
 have q4:=hb.c64
 have q5:=hb.pos
 rw[show (b.getD 0 []).length=wdM b from rfl]
 refine⟨⟨Dh 0,by omega,by omega,by omega,by omega,by omega⟩,a8i.symm,fun i=>⟨fun h1 c=>⟨⟨Dh 0,by omega⟩,fun h2=>⟨by unfold aX;omega,rfl,fun k=>⟨fun h3=>?_,fun h3=>?_⟩⟩,fun h2=>⟨⟨i.1+1,by omega⟩,by simp only;omega,by rw[aP (by omega) (by omega)];rfl,b2G (by omega)⟩⟩,fun h1=>b2E (by omega)⟩⟩
 ·have hi:i.1<a.length:=by omega
  have hc:c.1<wdM b:=by omega
  have hk:k.1<b.length:=by omega
  rw[ha.row hi,hb.row hk]
  have z1:rsz ((a.getD i.1 []).getD k.1 0)<=1000000:=sa i.1 hi k.1 (by omega)
  have z2:rsz ((b.getD k.1 []).getD c.1 0)<=1000000:=sb k.1 hk c.1 hc
  have z3:=lS ((a.getD i.1 []).getD k.1 0) ((b.getD k.1 []).getD c.1 0)
  have z4:rsz (mm k.1 (ent a) (ent b) i.1 c.1)<=140000000:=by
   have:=UN (K:=2000000) (f:=fun d=>ent a i.1 d*ent b d c.1) k.1 (fun d hd=>by
    have y1:=sa i.1 hi d (by omega)
    have y2:=sb d (by omega) c.1 hc
    have y3:=lS (ent a i.1 d) (ent b d c.1)
    show rsz (ent a i.1 d*ent b d c.1)<=_
    omega)
   have y4:k.1*(2000000+1)<=64*2000001:=xq (by omega) (by omega)
   show rsz (sm k.1 _)<=_
   omega
  exact⟨⟨by omega,by omega,by omega,by omega,by omega,by omega,by omega,by omega,⟨by omega,by omega⟩,by omega,by omega⟩,⟨k.1+1,by omega⟩,by simp only;omega,by rw[aP (by omega) (by omega)];rfl,rfl⟩
 ·have hi:i.1<a.length:=by omega
  have hc:c.1<wdM b:=by omega
  have hk:k.1=b.length:=by have:=k.2;omega
  have e1:(zZ a b i.1 c.1).length=a.length:=b2F
  have e2:((zZ a b i.1 c.1).getD i.1 []).length=wdM b:=b5y hi
  rw[e1,e2,hk]
  exact⟨⟨by omega,by omega,hi,by omega,by omega,hc⟩,⟨c.1+1,by omega⟩,by simp only;omega,by rw[aP (by omega) (by omega)];rfl,b2H hi⟩
def sS (x:LQ'):MQ:=tab x.length 1 fun i _=>lv x i
noncomputable def c1G:Ctr:=⟨[.list tQ],[tM],fun x=>(show LQ' from x.1).length<=1000,fun x=>(sS x.1,())⟩
noncomputable def b6I:Ctr:=⟨[tM],[.list tQ],fun x=>(show MQ from x.1).length<=1000/\∀ r ∈ (show MQ from x.1),1<=r.length,fun x=>((List.range (show MQ from x.1).length).map (fun i=>ent x.1 i 0),())⟩
theorem b1J:aI Tryz.prog 81 c1G:=by
 refine aK nil0 ⟨[],[],[]⟩ Tryz.func81 rfl (by decide) (fun x=>[.inv {k:Nat // k<=(show LQ' from x.1).length} (fun k=>[(4,.val tI (k.1:Int)),(3,.own 5 0),(5,.any),(19,.any)]) (fun k=>[(5,.row 39 (.list tQ) ((sS (show LQ' from x.1)).take k.1) 0)]) (fun k=>(show LQ' from x.1).length-k.1) ⟨0,by omega⟩ (fun _=>[])]) (fun x hp=>?_)
 obtain⟨x,u⟩:=x
 change List Rat at x
 refine aU ((asT Int 0=0/\asT (List (List Rat)) (aF (List Rat))=aF (List Rat)/\True)/\∀ (i:{ k:Nat // k<=List.length x }),asT Bool true=true/\ifB (decide (aB (aA i)<aB x.length)) ((0<=aB (aA i)/\aB (aA i)<aB x.length/\List.length (List.take (aA i) (sS x))+List.length ((List.getD x (aB (aA i)).toNat 0::aF Rat)::aF (List Rat))<=1000000000/\True)/\∃ (i':{ k:Nat // k<=List.length x }),List.length x-aA i'<List.length x-aA i/\IntKind.wrap IntKind.i64 (aB (aA i)+1)=aB (aA i')/\List.take (aA i) (sS x)++(List.getD x (aB (aA i)).toNat 0::aF Rat)::aF (List Rat)=List.take (aA i') (sS x)/\True) (True/\List.take (aA i) (sS x)=sS x/\True)) (by kernel_rfl) ?_
 have hZ:(⟨false,0,[],[]⟩:aH)=bF:=rfl
 dsimp only[aB,asT,aA,aF,Ty.den,Lf.den] at *
 simp only[hZ,Int.toNat_natCast,aC,aj,ah,jh,jg,aN,nameAt,bJ,eX,eY,rowAt,gy,bf]
 have hp:x.length<=1000:=hp
 have hl:(sS x).length=x.length:=eY
 refine fun i=>⟨fun h1=>?_,fun h1=>jv (by rw[hl];omega)⟩
 have hi:i.1<x.length:=by omega
 refine⟨⟨by omega,h1,by rw[ni];simp;omega⟩,⟨i.1+1,by omega⟩,by simp only;omega,by rw[aP (by omega) (by omega)];rfl,?_⟩
 rw[Ai]
 have:(sS x)[i.1]?=some [x.getD i.1 0]:=by
  unfold sS tab;simp[hi]
 rw[this];rfl
theorem a4j:aI Tryz.prog 79 b6I:=by
 refine aK nil0 ⟨[],[],[]⟩ Tryz.func79 rfl (by decide) (fun x=>[.inv {k:Nat // k<=(show MQ from x.1).length} (fun k=>[(4,.val tI (k.1:Int)),(3,.own 5 0),(5,.any),(20,.any)]) (fun k=>[(5,.row 47 tQ ((List.range k.1).map (fun i=>ent (show MQ from x.1) i 0)) 0)]) (fun k=>(show MQ from x.1).length-k.1) ⟨0,by omega⟩ (fun _=>[])]) (fun x hp=>?_)
 obtain⟨a,u⟩:=x
 change List (List Rat) at a
 refine aU ((asT Int 0=0/\asT (List Rat) (aF Rat)=aF Rat/\True)/\∀ (i:{ k:Nat // k<=List.length a }),let A₀:=(fun(i:Nat)=>ent a i 0);let A₁:=(List.getD a (aB (aA i)).toNat (aF Rat));asT Bool true=true/\ifB (decide (aB (aA i)<aB a.length)) ((0<=aB (aA i)/\aB (aA i)<aB a.length/\asT Int 0<=0/\0<aB A₁.length/\List.length (List.map A₀ (List.range (aA i)))+List.length (List.getD A₁ 0 0::aF Rat)<=1000000000/\True)/\∃ (i':{ k:Nat // k<=List.length a }),List.length a-aA i'<List.length a-aA i/\IntKind.wrap IntKind.i64 (aB (aA i)+1)=aB (aA i')/\List.map A₀ (List.range (aA i))++List.getD A₁ 0 0::aF Rat=List.map A₀ (List.range (aA i'))/\True) (True/\List.map A₀ (List.range (aA i))=List.map A₀ (List.range a.length)/\True)) (by kernel_rfl) ?_
 have hZ:(⟨false,0,[],[]⟩:aH)=bF:=rfl
 dsimp only[aB,asT,aA,aF,Ty.den,Lf.den] at *
 simp only[hZ,Int.toNat_natCast,aC,aj,ah,jh,jg,aN,nameAt,bJ,eX,eY,rowAt,gy,bf]
 have hp:a.length<=1000/\∀ r ∈ a,1<=r.length:=hp
 refine fun i=>⟨fun h1=>?_,fun h1=>by rw[show i.1=a.length by have:=i.2;omega]⟩
 have hi:i.1<a.length:=by omega
 have hr:1<=(a.getD i.1 []).length:=bU (p:=fun r:List Rat=>1<=r.length) hp.2 hi
 refine⟨⟨by omega,h1,Dh 0,by omega,by simp;omega⟩,⟨i.1+1,by omega⟩,by simp only;omega,by rw[aP (by omega) (by omega)];rfl,?_⟩
 rw[Bj,List.map_append];rfl
noncomputable def c1w:Ctr:=⟨[tM,.list tQ],[.list tQ],fun x=>okM x.1/\szM x.1 1000000/\(show LQ' from x.2.1).length=wdM (show MQ from x.1)/\∀ q ∈ (show LQ' from x.2.1),rsz q<=1000000,fun x=>(mvL x.1 x.2.1,())⟩
theorem UA:aI Tryz.prog 19 c1w:=by
 refine aK (((nil0.ad YO).ad b1J).ad a4j) ⟨[],[],[]⟩ Tryz.func19 rfl (by decide) (fun x=>[]) (fun x hp=>?_)
 obtain⟨a,x,u⟩:=x
 change List (List Rat) at a
 change List Rat at x
 refine aU ((List.length x<=1000/\(okM a/\okM (sS x)/\wdM a=List.length (sS x)/\szM a 1000000/\szM (sS x) 1000000)/\(List.length (mulM a (sS x))<=1000/\∀ (r:List Rat),r ∈ mulM a (sS x)->1<=List.length r)/\True)/\True/\List.map (fun(i:Nat)=>ent (mulM a (sS x)) i 0) (List.range (mulM a (sS x)).length)=mvL a x/\True) (by kernel_rfl) ?_
 have hZ:(⟨false,0,[],[]⟩:aH)=bF:=rfl
 dsimp only[aB,asT,aA,aF,Ty.den,Lf.den] at *
 simp only[hZ,Int.toNat_natCast,aC,aj,ah,jh,jg,aN,nameAt,bJ,eX,eY,rowAt,gy,bf]
 have hp:okM a/\szM a 1000000/\x.length=wdM a/\∀ q ∈ x,rsz q<=1000000:=hp
 obtain⟨ha,sa,hx,sx⟩:=hp
 have q1:=ha.r64
 have q2:=ha.c64
 have q3:=ha.c1
 have hc:isM (sS x) x.length 1:=qK (by omega) (by omega) (by omega) (by omega)
 have ec:∀ k,k<x.length->ent (sS x) k 0=lv x k:=fun k hk=>jQ hk (by omega)
 have sc:szM (sS x) 1000000:=fun k hk j hj=>by
  rw[hc.len] at hk
  rw[hc.wd] at hj
  rw[show j=0 by omega,ec k hk]
  exact bU sx hk
 have hc2:isM (sS x) (wdM a) 1:=by rw[<-hx];exact hc
 have hm:isM (mulM a (sS x)) a.length 1:=ha.1.mul hc2
 refine⟨⟨by omega,⟨ha,⟨hc.self,fun k hk j hj=>iq (sc k hk j hj) (by omega)⟩,by rw[hc.len];exact hx.symm,sa,sc⟩,by rw[hm.len];omega,fun r hr=>by rw[hm.2.1 r hr];omega⟩,?_⟩
 rw[hm.len]
 refine qj fun k hk=>?_
 have hk:=vw.mp hk
 show ent (mulM a (sS x)) k 0=mv (wdM a) (ent a) (lv x) k
 unfold mulM
 rw[hc.wd,jQ hk (by omega),hc.len,hx]
 exact dQ _ fun d hd=>by rw[ec d (by omega)]
end Go.Proofs.YtbkocjmmbkifjaaGreat
