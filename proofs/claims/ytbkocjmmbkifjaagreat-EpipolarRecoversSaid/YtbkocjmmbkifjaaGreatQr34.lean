/-
  Lemmas for the theorem vrecovers28_holds, part 34 of 35.
-/
import Derived.Test.YtbkocjmmbkifjaaGreatQr33
namespace Go.Proofs.YtbkocjmmbkifjaaGreat
open Go Go.RowKit
set_option maxRecDepth 100000
set_option maxHeartbeats 4000000
set_option linter.unusedVariables false
set_option linter.unusedSimpArgs false
abbrev RI:Type:=List (List Int)
def a3P (r:RI):Prop:=r.length=3/\∀ l ∈ r,l.length=3/\∀ n ∈ l,bU n
def rI (r:RI):MQ:=tab 3 3 fun i j=>aV ((r.getD i []).getD j 0)
abbrev tRI:Ty:=.list (.list tI)
noncomputable def c5u:Ctr:=⟨[.list tI,.ref tRI],[tB],fun x=>(show List Int from x.1).length=3/\0<(show RI from x.2.1).length/\((show RI from x.2.1).getD 0 []).length=3,fun _=>(false,())⟩
theorem b5a:aI Tryz.prog 226 c5u:=by
 refine aJ Lib.nil ⟨[],[],[]⟩ Tryz.func226 rfl (by decide) (fun x=>[]) (fun x hp=>?_)
 obtain⟨l,r,u⟩:=x
 change List Int at l
 change RI at r
 refine aT ((asT Int 0<=0/\0<aB r.length/\True)/\True/\(aB l.length != aB (List.getD r 0 (aF Int)).length)=false/\True) (by kernel_rfl) ?_
 have hZ:(⟨false,0,[],[]⟩:aH)=bC:=rfl
 try simp only[aC,aj,ah]
 try dsimp only[aB,asT,aA,aF,Ty.den,Lf.den] at *
 try simp only[hZ,Int.toNat_natCast,aC,aj,ah,jg,jf,gy,bg]
 try simp only[bT,bP,List.all_cons,List.all_nil,jh,dw,ig,je,jy,ne_eq,au,bn,dh,eu,jd,oh,jo,oq,jg,jf,iw,bf,List.length_cons,List.length_nil]
 obtain⟨h1,h2,h3⟩:l.length=3/\0<r.length/\(r.getD 0 []).length=3:=hp
 exact⟨⟨by omega,by omega⟩,h1.trans h3.symm⟩
def ofP (x:RI) (c:RI):Prop:=x.length=3/\(∀ q ∈ x,q.length=3)/\0<c.length/\(c.getD 0 []).length=3
noncomputable def c5n:Ctr:=⟨[tRI,.clo 226 (.pair (.ref tRI) .unit)],[tI],fun x=>ofP x.1 x.2.1.1,fun _=>((-1:Int),())⟩
noncomputable def c5b:Ctr:=⟨[tRI,.clo 226 (.pair (.ref tRI) .unit)],[tB],fun x=>ofP x.1 x.2.1.1,fun _=>(false,())⟩
theorem b4y:aI Tryz.prog 271 c5n:=by
 refine aJ (nil0.ad b5a) ⟨[],[],[]⟩ Tryz.func271 rfl (by decide) (fun x=>[.inv {k:Nat // k<=(show RI from x.1).length} (fun k=>[(8,.val tI (k.1:Int))]) (fun k=>[]) (fun k=>(show RI from x.1).length-k.1) ⟨0,by omega⟩ (fun _=>[])]) (fun x hp=>?_)
 obtain⟨x,c,u⟩:=x
 change RI at x
 change RI × Unit at c
 refine aT ((asT Int 0=0/\True)/\∀ (i:{ k:Nat // k<=List.length x }),asT Bool true=true/\ifB (decide (aB (aA i)<aB x.length)) ((0<=aB (aA i)/\aB (aA i)<aB x.length/\(List.length (List.getD x (aB (aA i)).toNat (aF Int))=3/\0<List.length (asT (List (List Int)) c.1)/\List.length (List.getD (asT (List (List Int)) c.1) 0 (aF Int))=3)/\True)/\∃ (i':{ k:Nat // k<=List.length x }),List.length x-aA i'<List.length x-aA i/\IntKind.wrap IntKind.i64 (aB (aA i)+1)=aB (aA i')/\True) (True/\asT Int (-1)=-1/\True)) (by kernel_rfl) ?_
 have hZ:(⟨false,0,[],[]⟩:aH)=bC:=rfl
 try simp only[aC,aj,ah]
 try dsimp only[aB,asT,aA,aF,Ty.den,Lf.den] at *
 try simp only[hZ,Int.toNat_natCast,aC,aj,ah,jg,jf,gy,bg]
 try simp only[bT,bP,List.all_cons,List.all_nil,jh,dw,ig,je,jy,ne_eq,au,bn,dh,eu,jd,oh,jo,oq,jg,jf,iw,bf,List.length_cons,List.length_nil]
 obtain⟨h1,h2,h3,h4⟩:ofP x c.1:=hp
 exact fun i h=>⟨⟨by omega,h,bV h2 (by omega),h3,h4⟩,⟨i.1+1,by omega⟩,by simp only;omega,by rw[aN (by omega) (by omega)];rfl⟩
theorem b3P:aI Tryz.prog 225 c5b:=by
 refine aJ (nil0.ad b4y) ⟨[],[],[]⟩ Tryz.func225 rfl (by decide) (fun x=>[]) (fun x hp=>?_)
 obtain⟨x,c,u⟩:=x
 change RI at x
 change RI × Unit at c
 refine aT ((ofP x (asT (List (List Int)) c.1)/\True)/\True/\asT Bool (decide (-1 ≥ 0))=false/\True) (by kernel_rfl) ?_
 have hZ:(⟨false,0,[],[]⟩:aH)=bC:=rfl
 try simp only[aC,aj,ah]
 try dsimp only[aB,asT,aA,aF,Ty.den,Lf.den] at *
 try simp only[hZ,Int.toNat_natCast,aC,aj,ah,jg,jf,gy,bg]
 try simp only[bT,bP,List.all_cons,List.all_nil,jh,dw,ig,je,jy,ne_eq,au,bn,dh,eu,jd,oh,jo,oq,jg,jf,iw,bf,List.length_cons,List.length_nil]
 exact⟨hp,by omega⟩
abbrev TOf:List Ty:=[.ref tRI]
def b5i (c:(nest TOf).den) (i j:Int):Prop:=(0<=i/\i.toNat<(show RI from c.1).length/\0<=j/\j.toNat<((show RI from c.1).getD i.toNat []).length)/\bU (((show RI from c.1).getD i.toNat []).getD j.toNat 0)
def gOf (c:(nest TOf).den) (i j:Nat):Rat:=aV (((show RI from c.1).getD i []).getD j 0)
theorem WH:aI Tryz.prog 227 (a3o TOf b5i gOf):=by
 refine kY (nil0.ad yX) [5] Tryz.func227 rfl (by decide) (fun x=>[]) (fun x hp=>?_)
 obtain⟨i,j,c⟩:=x
 change Int at i
 change Int at j
 obtain⟨a,u⟩:=c
 change RI at a
 refine aT ((0<=i/\i<aB a.length/\0<=j/\j<aB (List.getD a i.toNat (aF Int)).length/\bU (List.getD (List.getD a i.toNat (aF Int)) j.toNat 0)/\True)/\True/\aV (List.getD (List.getD a i.toNat (aF Int)) j.toNat 0)=gOf (a,u) i.toNat j.toNat/\True) (by kernel_rfl) ?_
 try dsimp only[aB,asT,aA,aF] at *
 have h1:(0<=i/\i.toNat<a.length/\0<=j/\j.toNat<(a.getD i.toNat []).length)/\bU ((a.getD i.toNat []).getD j.toNat 0):=hp
 obtain⟨⟨k1,k2,k3,k4⟩,k5⟩:=h1
 exact⟨⟨k1,by omega,k3,by omega,k5,trivial⟩,trivial,rfl,trivial⟩
theorem b1j:NOk Tryz.prog 184 (TN 227 TOf b5i gOf):=by
 refine wI (nil0.ad WH) ⟨[],[],[(11,tR)]⟩ Tryz.func184 rfl (by decide) (fun x=>yB x.1 x.2.1 (gOf x.2.2.1)) (fun x hp=>?_)
 obtain⟨m,n,c,u⟩:=x
 obtain⟨R,C,hR,hC,r2,c2,hP⟩:=hp
 change m=(R:Int) at hR
 change n=(C:Int) at hC
 subst hR hC
 refine aT (yC R C (gOf c) (b5i c) (fun y=>bF R C (gOf c)=y)) (by kernel_rfl) ?_
 exact qG r2 c2 hP rfl
noncomputable def c5v:Ctr:=⟨[tRI],[tM,tI],fun x=>a3P x.1,fun x=>(rI x.1,(0:Int),())⟩
noncomputable def c5w:Ctr:=⟨[tRI],[tM],fun x=>a3P x.1,fun x=>(rI x.1,())⟩
theorem b5c:aI Tryz.prog 145 c5v:=by
 refine aJ (((nil0.ad b3P).ad WH).an b1j) ⟨[],[],[]⟩ Tryz.func145 rfl (by decide) (fun x=>[]) (fun x hp=>?_)
 obtain⟨r,u⟩:=x
 change RI at r
 refine aT (let A₂:=(aB r.length<1);let aK:=(List.getD r 0 (aF Int)).length;let dF:=(bF (aB r.length).toNat (aB aK).toNat (gOf (r,())));let dL:=(aB r.length > 64);let A₀:=(bif bif decide A₂ then true else decide dL then true else decide (aB aK<1));let aQ:=((A₀==false)=true->(A₀==false)=true/\True);let dH:=((decide A₂==false)=true->(decide A₂==false)=true/\True);let fU:=(bif decide A₂ then true else decide dL);let A₁:=(fU==false);let fB:=(A₁=true->A₁=true/\True);(dH/\dH/\(decide A₂=false->(decide A₂==false)=true)/\(A₁=true->A₁=true/\asT Int 0<=0/\0<aB r.length/\True)/\fB/\fB/\fB/\(fU=false->A₁=true)/\((A₀==false)=true->(A₀==false)=true/\asT Int 0<=0/\0<aB r.length/\True)/\aQ/\aQ/\aQ/\(A₀=false->(A₀==false)=true)/\True)/\ifB (bif bif bif decide A₂ then true else decide dL then true else decide (aB aK<1) then true else decide (aB aK > 64)) (True/\aF (List Rat)=rI r/\True/\asT Int 1=0/\True) ((ofP r r/\True)/\(asT Int 0<=0/\0<aB r.length/\NV TOf b5i (aB r.length,aB aK,(r,()),())/\True)/\(jF (fun(x:Ty.den (Ty.list (Ty.lf Lf.gJ)))=>dI (jF (fun(x:Ty.den (Ty.lf Lf.gJ))=>dI ((aH.ok x=true)::aF Cd)) x::aF Cd)) dF/\True)/\List.map (fun(xs:Ty.den (Ty.list (Ty.lf Lf.gJ)))=>List.map (fun(x:Ty.den (Ty.lf Lf.gJ))=>aH.x x) xs) dF=rI r/\True/\asT Int 0=0/\True)) (by kernel_rfl) ?_
 have hZ:(⟨false,0,[],[]⟩:aH)=bC:=rfl
 try simp only[aC,aj,ah]
 try dsimp only[aB,asT,aA,aF,Ty.den,Lf.den] at *
 try simp only[hZ,Int.toNat_natCast,aC,aj,ah,jg,jf,gy,bg]
 try simp only[bT,bP,List.all_cons,List.all_nil,jh,dw,ig,je,jy,ne_eq,au,bn,dh,eu,jd,oh,jo,oq,jg,jf,iw,bf,List.length_cons,List.length_nil]
 obtain⟨hl,hr⟩:a3P r:=hp
 have l0:(r.getD 0 []).length=3:=(bV hr (by omega)).1
 simp only[hl,l0]
 refine⟨by decide,fun h=>absurd h (by decide),fun _=>⟨⟨hl,fun q hq=>(hr q hq).1,by omega,l0⟩,⟨by omega,by decide,⟨3,3,rfl,rfl,by omega,by omega,fun i j hi hj=>?_⟩⟩,EC _ _ _,MX _ _ _⟩⟩
 have h1:=bV (d:=[]) hr (show i<r.length by omega)
 exact⟨⟨uo i,by show i<r.length;omega,uo j,by show j<(r.getD i []).length;omega⟩,bV h1.2 (by show j<(r.getD i []).length;omega)⟩
theorem a6c:aI Tryz.prog 60 c5w:=by
 refine aJ (nil0.ad b5c) ⟨[],[],[]⟩ Tryz.func60 rfl (by decide) (fun x=>[]) (fun x hp=>?_)
 obtain⟨r,u⟩:=x
 change RI at r
 refine aT ((a3P r/\True)/\True/\(aV (List.getD (List.getD r 0 (aF Int)) 0 0)::aV (List.getD (List.getD r 0 (aF Int)) 1 0)::aV (List.getD (List.getD r 0 (aF Int)) 2 0)::aF Rat)::(aV (List.getD (List.getD r 1 (aF Int)) 0 0)::aV (List.getD (List.getD r 1 (aF Int)) 1 0)::aV (List.getD (List.getD r 1 (aF Int)) 2 0)::aF Rat)::(aV (List.getD (List.getD r 2 (aF Int)) 0 0)::aV (List.getD (List.getD r 2 (aF Int)) 1 0)::aV (List.getD (List.getD r 2 (aF Int)) 2 0)::aF Rat)::aF (List Rat)=rI r/\True) (by kernel_rfl) ?_
 have hZ:(⟨false,0,[],[]⟩:aH)=bC:=rfl
 try simp only[aC,aj,ah]
 try dsimp only[aB,asT,aA,aF,Ty.den,Lf.den] at *
 try simp only[hZ,Int.toNat_natCast,aC,aj,ah,jg,jf,gy,bg]
 try simp only[bT,bP,List.all_cons,List.all_nil,jh,dw,ig,je,jy,ne_eq,au,bn,dh,eu,jd,oh,jo,oq,jg,jf,iw,bf,List.length_cons,List.length_nil]
 exact⟨hp,rfl⟩
noncomputable def c5k:Ctr:=⟨[FZ],[tM],fun x=>bU x.1.2.2.1/\bU x.1.2.2.2.1.1/\bU x.1.2.2.2.1.2.1,fun x=>(iI x.1,())⟩
theorem b4r:aI Tryz.prog 67 c5k:=by
 refine aJ (nil0.ad a6c) ⟨[],[],[]⟩ Tryz.func67 rfl (by decide) (fun x=>[]) (fun x hp=>?_)
 obtain⟨s,u⟩:=x
 change eF at s
 refine aT (let A₀:=s.2.2;let A₁:=A₀.2.1;(a3P ((asT Int A₀.1::0::asT Int A₁.1::aF Int)::(0::asT Int A₀.1::asT Int A₁.2.1::aF Int)::(0::0::1::aF Int)::aF (List Int))/\True)/\True/\(aV (asT Int A₀.1)::aV 0::aV (asT Int A₁.1)::aF Rat)::(aV 0::aV (asT Int A₀.1)::aV (asT Int A₁.2.1)::aF Rat)::(aV 0::aV 0::aV 1::aF Rat)::aF (List Rat)=iI s/\True) (by kernel_rfl) ?_
 have hZ:(⟨false,0,[],[]⟩:aH)=bC:=rfl
 try simp only[aC,aj,ah]
 try dsimp only[aB,asT,aA,aF,Ty.den,Lf.den] at *
 try simp only[hZ,Int.toNat_natCast,aC,aj,ah,jg,jf,gy,bg]
 try simp only[bT,bP,List.all_cons,List.all_nil,jh,dw,ig,je,jy,ne_eq,au,bn,dh,eu,jd,oh,jo,oq,jg,jf,iw,bf,List.length_cons,List.length_nil]
 obtain⟨w1,w2,w3⟩:bU s.2.2.1/\bU s.2.2.2.1.1/\bU s.2.2.2.1.2.1:=hp
 have w4:bU 0:=⟨by omega,by omega⟩
 have w5:bU 1:=⟨by omega,by omega⟩
 refine⟨⟨rfl,fun l hl=>?_⟩,(IV _).symm⟩
 simp only[qj,Ag,or_false] at hl
 rcases hl with rfl|rfl|rfl
 all_goals
  refine⟨rfl,fun n hn=>?_⟩
  simp only[qj,Ag,or_false] at hn
  rcases hn with rfl|rfl|rfl
  all_goals assumption
def sG (m:MQ) (l:List MQ):MQ:=l.foldl mulM m
def a2F (m:MQ) (l:List MQ):Prop:=l.length<=1000/\(∀ n ∈ l,m33 1000000 n)/\∀ k,k<=l.length->m33 1000000 (sG m (l.take k))
noncomputable def c5A:Ctr:=⟨[tM,.list tM],[tM],fun x=>a2F x.1 x.2.1,fun x=>(sG x.1 x.2.1,())⟩
theorem b5y:aI Tryz.prog 64 c5A:=by
 refine aJ (nil0.ad b4L) ⟨[],[],[]⟩ Tryz.func64 rfl (by decide) (fun x=>[.inv {k:Nat // k<=(show List MQ from x.2.1).length} (fun k=>[(9,.val tI (k.1:Int)),(0,.val tM (sG x.1 ((show List MQ from x.2.1).take k.1)))]) (fun k=>[]) (fun k=>(show List MQ from x.2.1).length-k.1) ⟨0,by omega⟩ (fun _=>[])]) (fun x hp=>?_)
 obtain⟨m,l,u⟩:=x
 change MQ at m
 change List MQ at l
 refine aT ((asT Int 0=0/\m=sG m (List.take 0 l)/\True)/\∀ (i:{ k:Nat // k<=List.length l }),let A₀:=(List.getD l (aB (aA i)).toNat (aF (List Rat)));let A₁:=(sG m (List.take (aA i) l));asT Bool true=true/\ifB (decide (aB (aA i)<aB l.length)) ((0<=aB (aA i)/\aB (aA i)<aB l.length/\True)/\((okM A₁/\okM A₀/\wdM A₁=List.length A₀/\szM A₁ 1000000/\szM A₀ 1000000)/\True)/\∃ (i':{ k:Nat // k<=List.length l }),List.length l-aA i'<List.length l-aA i/\IntKind.wrap IntKind.i64 (aB (aA i)+1)=aB (aA i')/\tab A₁.length (wdM A₀) (mm A₀.length (ent A₁) (ent A₀))=sG m (List.take (aA i') l)/\True) (True/\sG m (List.take (aA i) l)=sG m l/\True)) (by kernel_rfl) ?_
 have hZ:(⟨false,0,[],[]⟩:aH)=bC:=rfl
 try simp only[aC,aj,ah]
 try dsimp only[aB,asT,aA,aF,Ty.den,Lf.den] at *
 try simp only[hZ,Int.toNat_natCast,aC,aj,ah,jg,jf,gy,bg]
 try simp only[bT,bP,List.all_cons,List.all_nil,jh,dw,ig,je,jy,ne_eq,au,bn,dh,eu,jd,oh,jo,oq,jg,jf,iw,bf,List.length_cons,List.length_nil]
 obtain⟨h1,h2,h3⟩:a2F m l:=hp
 refine⟨rfl,fun i=>⟨fun h=>?_,fun h=>by rw[jv (by omega)]⟩⟩
 have hi:i.1<l.length:=by omega
 obtain⟨a1,a2,a3,a4⟩:=(h3 i.1 i.2).ok (ay _)
 obtain⟨b1,b2,b3,b4⟩:=(h2 _ (kD (d:=[]) hi)).ok (ay _)
 refine⟨⟨by omega,h⟩,⟨a1,b1,a3.trans b4.symm,a2,b2⟩,⟨i.1+1,by omega⟩,by simp only;omega,by rw[aN (by omega) (by omega)];rfl,?_⟩
 show mulM _ _=sG m (List.take (i.1+1) l)
 rw[Ai,iy hi,jc,iy hi]
 unfold sG
 rw[List.foldl_append];rfl
noncomputable def c3u:Ctr:=⟨[tM],[tM],fun x=>okM x.1,fun x=>(trM x.1,())⟩
noncomputable def c3b:Ctr:=⟨[tM],[tM],fun x=>(okM x.1/\wdM (show MQ from x.1)=(show MQ from x.1).length/\BK (show MQ from x.1).length ((show MQ from x.1).length+(show MQ from x.1).length) (jG (show MQ from x.1).length (ent x.1) idm) (show MQ from x.1).length)/\VN x.1=true,fun x=>(wH x.1,())⟩
theorem b6q:aI Tryz.prog 65 c3u:=by
 refine aJ (nil0.ad a4C) ⟨[],[],[]⟩ Tryz.func65 rfl (by decide) (fun x=>[]) (fun x hp=>?_)
 obtain⟨m,u⟩:=x
 change MQ at m
 refine aT ((okM m/\True)/\True/\tab (wdM m) m.length (tr (ent m))=trM m/\True) (by kernel_rfl) ?_
 have hZ:(⟨false,0,[],[]⟩:aH)=bC:=rfl
 try simp only[aC,aj,ah]
 try dsimp only[aB,asT,aA,aF,Ty.den,Lf.den] at *
 try simp only[hZ,Int.toNat_natCast,aC,aj,ah,jg,jf,gy,bg]
 try simp only[bT,bP,List.all_cons,List.all_nil,jh,dw,ig,je,jy,ne_eq,au,bn,dh,eu,jd,oh,jo,oq,jg,jf,iw,bf,List.length_cons,List.length_nil]
 exact⟨hp,rfl⟩
theorem b4w:aI Tryz.prog 66 c3b:=by
 refine aJ (nil0.ad b4v) ⟨[],[],[]⟩ Tryz.func66 rfl (by decide) (fun x=>[]) (fun x hp=>?_)
 obtain⟨m,u⟩:=x
 change MQ at m
 refine aT (((okM m/\wdM m=List.length m/\BK m.length (List.length m+List.length m) (jG m.length (ent m) idm) m.length)/\True)/\True/\Prod.fst (LV m)=wH m/\True) (by kernel_rfl) ?_
 have hZ:(⟨false,0,[],[]⟩:aH)=bC:=rfl
 try simp only[aC,aj,ah]
 try dsimp only[aB,asT,aA,aF,Ty.den,Lf.den] at *
 try simp only[hZ,Int.toNat_natCast,aC,aj,ah,jg,jf,gy,bg]
 try simp only[bT,bP,List.all_cons,List.all_nil,jh,dw,ig,je,jy,ne_eq,au,bn,dh,eu,jd,oh,jo,oq,jg,jf,iw,bf,List.length_cons,List.length_nil]
 refine⟨hp.1,?_⟩
 unfold LV
 rw[jq hp.2]
def stk {α:Type} (n:Nat) (x:α):α:=if n=n then x else x
theorem b3a {α:Type} (n:Nat) (x:α):stk n x=x:=by unfold stk;split<;>rfl
noncomputable def c5x:Ctr:=⟨[tRI],[tM],fun x=>a3P x.1,fun x=>(stk (((show RI from x.1).getD 0 []).getD 1 0).natAbs (rI x.1),())⟩
noncomputable def c3n:Ctr:=⟨[tM,.list tM],[tM],fun x=>a2F x.1 x.2.1,fun x=>(stk (show MQ from x.1).length (sG x.1 x.2.1),())⟩
noncomputable def c3v:Ctr:=⟨[tM],[tM],fun x=>okM x.1,fun x=>(stk (show MQ from x.1).length (trM x.1),())⟩
noncomputable def c3c:Ctr:=⟨[tM],[tM],fun x=>(okM x.1/\wdM (show MQ from x.1)=(show MQ from x.1).length/\BK (show MQ from x.1).length ((show MQ from x.1).length+(show MQ from x.1).length) (jG (show MQ from x.1).length (ent x.1) idm) (show MQ from x.1).length)/\VN x.1=true,fun x=>(stk (show MQ from x.1).length (wH x.1),())⟩
noncomputable def c2S:Ctr:=⟨[.list (.list tR)],[.list tR],fun x=>(show MR from x.1).length<=1000/\∀ r ∈ (show MR from x.1),r.length<=1000,fun x=>(stk (show MR from x.1).length (show MR from x.1).flatten,())⟩
noncomputable def c2K:Ctr:=⟨[.list tQ],[tM],fun x=>JQ x.1/\(show LQ' from x.1).length=9,fun x=>(stk (show LQ' from x.1).length (vY x.1),())⟩
theorem MG {α:Type} (n:Nat) (x:α):(x,())=(stk n x,()):=by rw[b3a]
theorem b5b:aI Tryz.prog 60 c5x:=DF a6c fun x _=>MG _ _
theorem b1U:aI Tryz.prog 64 c3n:=DF b5y fun x _=>MG _ _
theorem b3p:aI Tryz.prog 65 c3v:=DF b6q fun x _=>MG _ _
theorem b0E:aI Tryz.prog 66 c3c:=DF b4w fun x _=>MG _ _
theorem a9w:aI Tryz.prog 63 c2S:=DF a9x fun x _=>MG _ _
theorem a9d:aI Tryz.prog 62 c2K:=DF a1o fun x _=>MG _ _
def a7b (a b:eF):Prop:=a.1.1=b.1.1/\a.1.2.1=b.1.2.1/\a.1.2.2.1=b.1.2.2.1
instance (a b:eF):Decidable (a7b a b):=by unfold a7b;infer_instance
def wK (a b:eF):MQ × Int × Unit:=if rQ [a,b]≠0 then ([],rQ [a,b],()) else if a7b a b then ([],13,()) else (vY (FM a b).flatten,0,())
noncomputable def c5y:Ctr:=⟨[FZ,FZ],[tM,tI],fun x=>True,fun x=>wK x.1 x.2.1⟩
theorem c4E {q:aY} (h:zQ q=false):¬ (q.1=0/\q.2.1=0/\q.2.2.1=0/\q.2.2.2.1=0):=ru h
theorem oK {n:Int} (h:iH n=false):cdI n:=by
 unfold iH at h
 rw[bf] at h
 have h1:=ru h.1
 have h2:=ru h.2
 exact⟨by omega,by omega⟩
theorem a5p {s:eF} (hz:zS s=false) (h:wE s=false):jZ s:=by
 unfold wE at h
 simp only[bf,List.any_cons,List.any_nil,Bool.or_false,ah] at h
 obtain⟨⟨⟨a,b,c,d,e,f,g,i,j⟩,k⟩,l⟩:=h
 exact⟨⟨oK a,oK b,oK c⟩,⟨c4E hz,oK f,oK g,oK i,oK j⟩,⟨by omega,by omega⟩,oK d,oK e⟩
theorem b2Y {a b:eF} (h:rQ [a,b]=0):jZ a/\jZ b:=by
 unfold rQ at h
 have hz:[a,b].any zS=false:=by
  cases e:[a,b].any zS
  ·rfl
  ·rw[e] at h;cases h
 have hf:[a,b].any wE=false:=by
  cases e:[a,b].any wE
  ·rfl
  ·rw[hz,e] at h;cases h
 simp only[List.any_cons,List.any_nil,Bool.or_false,bf] at hz hf
 exact⟨a5p hz.1 hf.1,a5p hz.2 hf.2⟩
theorem b5K (x y z:Int):rI [[0,0-z,y],[z,0,0-x],[0-y,x,0]]=a3w [aV x,aV y,aV z]:=by
 have n:∀ t:Int,aV (0-t)=- aV t:=fun t=>by rw[Int.zero_sub];exact Rat.intCast_neg t
 show [[aV 0,aV (0-z),aV y],[aV z,aV 0,aV (0-x)],[aV (0-y),aV x,aV 0]]=[[aV 0,- aV z,aV y],[aV z,aV 0,- aV x],[- aV y,aV x,aV 0]]
 rw[n,n,n]
theorem b1E {K:Nat} {x:MQ} (h:isM x 3 3) (c:CdM x K) (hK:K<=1000):okM x:=⟨by rw[h.len,h.wd];exact h,c.sz (by omega)⟩
theorem a0n {s:eF} (h:jZ s):((okM (iI s)/\wdM (iI s)=(iI s).length/\BK (iI s).length ((iI s).length+(iI s).length) (jG (iI s).length (ent (iI s)) idm) (iI s).length)/\VN (iI s)=true)/\okM (wH (iI s)):=by
 have hm:=oP s
 have hc:=a1q h
 refine⟨⟨⟨b1E hm hc (by omega),by rw[hm.len,hm.wd],?_⟩,b8X h⟩,b1E (nT hm) (hc.inv hm) (by omega)⟩
 rw[hm.len]
 exact a6d (hc.OQ hm) (by omega) (by omega)
theorem XZ (m:MQ):sG m []=m:=rfl
theorem TV (m x:MQ) (l:List MQ):sG m (x::l)=sG (mulM m x) l:=rfl
theorem b1W {a b:eF} (h:jZ a) (g:jZ b):a2F (trM (wH (iI b))) [trM (qMx b.2.1),a3w (zA a b),qMx a.2.1,wH (iI a)]:=by
 have m1:=(nT (oP b)).trp
 have m2:=m1.mul (q33 b.2.1).trp
 have m3:=m2.mul (EX (zA a b))
 have m4:=m3.mul (q33 a.2.1)
 have m5:=m4.mul (nT (oP a))
 have c1:=((a1q g).inv (oP b)).trp (nT (oP b))
 have d2:=(ZR g.2.1).trp (q33 _)
 have d5:=(a1q h).inv (oP a)
 have c2:=c1.mul d2 m1 (q33 _).trp
 have c3:=c2.mul (a3t h g) m2 (EX _)
 have c4:=c3.mul (ZR h.2.1) m3 (q33 _)
 have c5:=c4.mul d5 m4 (nT (oP a))
 refine⟨by show 4<=1000;omega,fun n hn=>?_,fun k hk=>?_⟩
 ·simp only[qj,Ag,or_false] at hn
  rcases hn with rfl|rfl|rfl|rfl
  ·exact⟨(q33 _).trp,d2.sz (by omega)⟩
  ·exact⟨EX _,(a3t h g).sz (by omega)⟩
  ·exact⟨q33 _,(ZR h.2.1).sz (by omega)⟩
  ·exact⟨nT (oP a),d5.sz (by omega)⟩
 ·have hk:k<=4:=hk
  have e:k=0\/k=1\/k=2\/k=3\/k=4:=by omega
  rcases e with rfl|rfl|rfl|rfl|rfl<;>simp only[List.take_zero,List.take_succ_cons,XZ,TV]
  ·exact⟨m1,c1.sz (by omega)⟩
  ·exact⟨m2,c2.sz (by omega)⟩
  ·exact⟨m3,c3.sz (by omega)⟩
  ·exact⟨m4,c4.sz (by omega)⟩
  ·exact⟨m5,c5.sz (by omega)⟩
theorem MB (x:MQ):List.map (fun q:aH=>q.x) (List.map (fun xs=>List.map (fun q=>dP q) xs) x).flatten=x.flatten:=by
 rw[List.map_flatten,List.map_map]
 congr 1
 conv=>rhs;rw[<-List.map_id x]
 refine qh fun r _=>?_
 show List.map (fun q:aH=>q.x) (List.map (fun q=>dP q) r)=r
 rw[List.map_map]
 conv=>rhs;rw[<-List.map_id r]
 exact qh fun q _=>rfl
theorem b5d:aI Tryz.prog 11 c5y:=by
 refine aJ (((((((((nil0.ad b5C).ad b5b).ad b4P).ad b4r).ad b0E).ad b3p).ad b1U).ad a9w).ad a9d) ⟨[],[],[]⟩ Tryz.func11 rfl (by decide) (fun x=>[]) (fun x hp=>?_)
 obtain⟨a,b,u⟩:=x
 change eF at a
 change eF at b
 refine aT (let dL:=(a::b::aF ((Int × Int × Int × PUnit) × (Int × Int × Int × Int × PUnit) × Int × (Int × Int × PUnit) × PUnit));let dH:=(asT Int b.1.2.2.1-asT Int a.1.2.2.1);let fB:=(fun(xs:Ty.den (Ty.list (Ty.lf Lf.rat)))=>List.map (fun(x:Ty.den (Ty.lf Lf.rat))=>dP x) xs);let fU:=(asT Int b.1.2.1-asT Int a.1.2.1);let fK:=(asT Int b.1.1-asT Int a.1.1);let kH:=b.2.1;let pJ:=(iI b).length;let dF:=(stk pJ (wH (iI b)));let qO:=(iI a).length;let rV:=(stk dF.length (trM dF));let xH:=b.2.2.2.1;let wO:=a.2.2.2.1;let kJ:=(0-IntKind.wrap IntKind.i64 dH);let A₁:=((0::IntKind.wrap IntKind.i64 kJ::IntKind.wrap IntKind.i64 fU::aF Int)::(IntKind.wrap IntKind.i64 dH::0::IntKind.wrap IntKind.i64 (0-IntKind.wrap IntKind.i64 fK)::aF Int)::(IntKind.wrap IntKind.i64 (0-IntKind.wrap IntKind.i64 fU)::IntKind.wrap IntKind.i64 fK::0::aF Int)::aF (List Int));let aK:=(stk (qMx kH).length (trM (qMx kH))::stk (Int.natAbs (IntKind.wrap IntKind.i64 kJ)) (rI A₁)::qMx a.2.1::stk qO (wH (iI a))::aF (List (List Rat)));let A₀:=(stk rV.length (sG rV aK));let A₂:=(List.map fB A₀);let zH:=(stk A₂.length (List.flatten A₂));let aQ:=(List.map (fun(x:Ty.den (Ty.lf Lf.gJ))=>aH.x x) zH);(List.length dL<=1000000/\True)/\ifB (rQ dL != 0) (True/\aF (List Rat)=Prod.fst (wK a b)/\True/\rQ dL=Prod.fst (wK a b).2/\True) (ifB (eqD (Ty.pair (Ty.int IntKind.i64) (Ty.pair (Ty.int IntKind.i64) (Ty.pair (Ty.int IntKind.i64) Ty.unit))) a.1 b.1) (True/\aF (List Rat)=Prod.fst (wK a b)/\True/\13=Prod.fst (wK a b).2/\True) ((a3P A₁/\True)/\(qOk a.2.1/\True)/\(qOk kH/\True)/\((bU (asT Int b.2.2.1)/\bU (asT Int xH.1)/\bU (asT Int xH.2.1))/\((okM (iI b)/\wdM (iI b)=List.length (iI b)/\BK pJ (List.length (iI b)+List.length (iI b)) (jG pJ (ent (iI b)) idm) pJ)/\VN (iI b)=true)/\okM dF/\okM (qMx kH)/\(bU (asT Int a.2.2.1)/\bU (asT Int wO.1)/\bU (asT Int wO.2.1))/\((okM (iI a)/\wdM (iI a)=List.length (iI a)/\BK qO (List.length (iI a)+List.length (iI a)) (jG qO (ent (iI a)) idm) qO)/\VN (iI a)=true)/\a2F rV aK/\jF (fun(x:Ty.den (Ty.list (Ty.lf Lf.rat)))=>dI (jF (fun(x:Ty.den (Ty.lf Lf.rat))=>dI (aF Cd)) x::aF Cd)) A₀/\(List.length A₂<=1000/\∀ (r:List aH),r ∈ List.map fB A₀->List.length r<=1000)/\jF (fun(x:Ty.den (Ty.lf Lf.gJ))=>dI ((aH.ok x=true)::aF Cd)) zH/\(JQ aQ/\List.length aQ=9)/\True)/\True/\stk aQ.length (vY aQ)=Prod.fst (wK a b)/\True/\0=Prod.fst (wK a b).2/\True))) (by kernel_rfl) ?_
 have hZ:(⟨false,0,[],[]⟩:aH)=bC:=rfl
 try simp only[aC,aj,ah]
 try dsimp only[aB,asT,aA,aF,Ty.den,Lf.den] at *
 try simp only[hZ,Int.toNat_natCast,aC,aj,ah,jg,jf,gy,bg]
 try simp only[bT,bP,List.all_cons,List.all_nil,jh,dw,ig,je,jy,ne_eq,au,bn,dh,eu,jd,oh,jo,oq,jg,jf,iw,bf,List.length_cons,List.length_nil]
 simp only[b3a]
 refine⟨by omega,fun h=>?_,fun h=>⟨fun h2=>?_,fun h2=>?_⟩⟩
 ·unfold wK;rw[jq h];exact⟨rfl,rfl⟩
 ·have h2:a7b a b:=tu ((b7V a.1 b.1).symm.trans h2)
  unfold wK;rw[ji (by rw[h];exact fun e=>e rfl),jq h2];exact⟨rfl,rfl⟩
 ·have h2:¬ a7b a b:=ru ((b7V a.1 b.1).symm.trans h2)
  obtain⟨ha,hb⟩:=b2Y h
  have e:wK a b=(vY (FM a b).flatten,0,()):=by unfold wK;rw[ji (by rw[h];exact fun e=>e rfl),ji h2]
  rw[e]
  obtain⟨⟨a1,a2⟩,⟨a3,a4⟩,a5,a6⟩:=ha.1
  obtain⟨⟨b1,b2⟩,⟨b3,b4⟩,b5,b6⟩:=hb.1
  simp(disch:=omega) only[aN]
  rw[b5K]
  have hf:sG (trM (wH (iI b))) [trM (qMx b.2.1),a3w [aV (b.1.1-a.1.1),aV (b.1.2.1-a.1.2.1),aV (b.1.2.2.1-a.1.2.2.1)],qMx a.2.1,wH (iI a)]=FM a b:=by
   simp only[XZ,TV];unfold FM zA;rfl
  rw[hf]
  obtain⟨hp9,h9⟩:=a8M ha hb h2
  have wk:∀ s:eF,jZ s->bU s.2.2.1/\bU s.2.2.2.1.1/\bU s.2.2.2.1.2.1:=fun s h=>⟨⟨by have:=h.2.2.1;omega,by have:=h.2.2.1;omega⟩,h.2.2.2.1.word,h.2.2.2.2.word⟩
  have h33:=a6V a b
  clear hf e
  generalize FM a b=F at *
  refine⟨⟨rfl,fun l hl=>?_⟩,ha.2.1,hb.2.1,⟨wk b hb,(a0n hb).1,(a0n hb).2,b1E (q33 _) (ZR hb.2.1) (by omega),wk a ha,(a0n ha).1,b1W ha hb,CY _,⟨by rw[vw,h33.len];omega,fun r hr=>?_⟩,oC.mpr fun q hq=>⟨?_,trivial⟩,by rw[MB];exact hp9,by rw[MB];exact h9⟩,by rw[MB],trivial⟩
  ·simp only[qj,Ag,or_false] at hl
   rcases hl with rfl|rfl|rfl
   all_goals
    refine⟨rfl,fun n hn=>?_⟩
    simp only[qj,Ag,or_false] at hn
    rcases hn with rfl|rfl|rfl
    all_goals exact⟨by omega,by omega⟩
  ·obtain⟨x,hx,rfl⟩:=ug.1 hr
   rw[vw,h33.2.1 x hx];omega
  ·obtain⟨r,hr,hq⟩:=List.mem_flatten.1 hq
   obtain⟨x,_,rfl⟩:=ug.1 hr
   obtain⟨y,_,rfl⟩:=ug.1 hq
   rfl
theorem a6F {n:Int} (h:eH n=true):dX n=n:=by
 unfold eH at h
 unfold dX
 rw[jq (tu h)]
theorem a5j {q:Rat} (h:q.den=1):aV q.num=q:=by
 have e:=b2a q
 rw[h] at e
 exact e.symm.trans (Rat.mul_one q)
theorem a6O {x:LQ'} (h:wB x=true) (h2:lv x 2=1):(∀ i,i<3->lv (a4F (smV x)) i=lv x i)/\cdP (smV x):=by
 unfold wB at h
 simp only[au,dw,aj,List.any_cons,List.any_nil,Bool.or_false,bf] at h
 obtain⟨⟨⟨⟨a,b⟩,c⟩,d⟩,e,f⟩:=h
 refine⟨fun i hi=>?_,oK e,oK f⟩
 rcases three hi with rfl|rfl|rfl
 ·show aV (dX (lv x 0).num)=lv x 0
  rw[a6F a,a5j c]
 ·show aV (dX (lv x 1).num)=lv x 1
  rw[a6F b,a5j d]
 ·exact h2.symm
theorem b5x {a b:eF} {p:eX} {q:dA} (h:q ∈ prT a b p):lv (jM a p) 2≠0/\lv (jM b p) 2≠0/\wB (oO a p)=true/\wB (oO b p)=true/\q=(smV (oO a p),smV (oO b p),()):=by
 unfold prT at h
 by_cases h1:((rY a p).2.1&&(rY b p).2.1)=true
 ·rw[h1,cond_true] at h
  rw[au] at h1
  by_cases h2:(wB (oO a p)&&wB (oO b p))=true
  ·rw[h2,cond_true,qw] at h
   rw[au] at h2
   exact⟨DU h1.1,DU h1.2,h2.1,h2.2,h⟩
  ·rw[Bool.not_eq_true] at h2
   rw[h2,cond_false] at h
   cases h
 ·rw[Bool.not_eq_true] at h1
  rw[h1,cond_false] at h
  cases h
theorem b1T {a b:eF} (h:jZ a) (g:jZ b) {p:eX} {q:dA} (hq:q ∈ prT a b p):(cdP q.1/\cdP q.2.1)/\c4u (FM a b) q=0:=by
 obtain⟨h1,h2,h3,h4,rfl⟩:=b5x hq
 obtain⟨v1,c1⟩:=a6O h3 rfl
 obtain⟨v2,c2⟩:=a6O h4 rfl
 refine⟨⟨c1,c2⟩,?_⟩
 have hm:=a6V a b
 rw[b2C (b6B h g),<-a7W h g p h1 h2]
 unfold c4t zI
 refine dZ 3 fun i hi=>?_
 show lv (a4F (smV (oO b p))) i*lv (mvL (FM a b) (a4F (smV (oO a p)))) i=_
 rw[v2 i hi]
 have e:lv (mvL (FM a b) (a4F (smV (oO a p)))) i=mv (wdM (FM a b)) (ent (FM a b)) (lv (a4F (smV (oO a p)))) i:=gU (by rw[hm.len];exact hi)
 rw[e,hm.wd,JI v1]
theorem a2G {a b:eF} {l:List eX} {q:dA} (h:q ∈ kL a b l):∃ p,q ∈ prT a b p:=by
 obtain⟨p,_,hp⟩:=yx.1 h
 exact⟨p,hp⟩
theorem c4s {l:List dA} (h:∀ p ∈ l,cdP p.1/\cdP p.2.1):xA l=0:=by
 have e:l.any RP=false:=Bl.mpr fun p hp=>by
  obtain⟨⟨a,b⟩,c,d⟩:=h p hp
  have f:∀ {n:Int},cdI n->iH n=false:=fun {n} h=>by
   obtain⟨x,y⟩:=h
   unfold iH
   rw[lg (by omega),lg (by omega)];rfl
  show ¬ ([p.1.1,p.1.2.1,p.2.1.1,p.2.1.2.1].any iH)=true
  simp only[List.any_cons,List.any_nil,f a,f b,f c,f d]
  decide
 unfold xA
 rw[e];rfl
theorem b5N {a b:eF} (h:jZ a) (g:jZ b) (hne:¬ (a.1.1=b.1.1/\a.1.2.1=b.1.2.1/\a.1.2.2.1=b.1.2.2.1)) {l:List eX} (h12:l.length<=12) (h8:8<=(kL a b l).length):pO (kL a b l)=(vY (FM a b).flatten,0,())\/pO (kL a b l)=([],13,()):=by
 have hl:=JR a b l
 have hr:xA (kL a b l)=0:=c4s fun q hq=>by
  obtain⟨p,hp⟩:=a2G hq
  exact(b1T h g hp).1
 obtain⟨hp,h9⟩:=a8M h g hne
 obtain⟨n0,n1⟩:=b4Z (l:=kL a b l) (f:=(FM a b).flatten) (by omega) (by omega) h9 hp.2.2 fun i hi=>by
  obtain⟨p,hp⟩:=a2G (kD (d:=jQ) hi)
  exact(b1T h g hp).2
 unfold pO
 rw[ji (by omega),ji (by rw[hr];exact fun e=>e rfl),ji n0]
 by_cases h1:(sD (kL a b l)).length=1
 ·rw[jq h1,n1 h1];exact .inl rfl
 ·rw[ji h1];exact .inr rfl
abbrev Rw:=Nat->Rat
def zJ (F:List Rw->Rat) (c:Nat):List Rw->List Rw->Rat
 | _,[]=>0
 | pre,x::post=>x c*F (pre++post)-zJ F c (pre++[x]) post
def EK:List Nat->List Rw->Rat
 | [],[]=>1
 | [],_::_=>0
 | c::cs,rows=>zJ (EK cs) c [] rows
theorem wR {r:List Rw} (h:r≠[]):EK [] r=0:=by cases r with|nil=>exact absurd rfl h|cons=>rfl
def b3A (F:List Rw->Rat):Prop:=∀ a x y b,F (a++x::y::b)=-F (a++y::x::b)
theorem a2j {F:List Rw->Rat} (hF:b3A F) {c:Nat} {p x y:_}:∀ (post q:List Rw),zJ F c (p++x::y::q) post=-zJ F c (p++y::x::q) post
 | [],q=>by simp only[zJ,Rat.neg_zero]
 | z::post,q=>by
  simp only[zJ,yh,List.cons_append]
  rw[hF,a2j hF post (q++[z])]
  grind
theorem XG {F:List Rw->Rat} (hF:b3A F) {c:Nat} {x y:Rw} {post:List Rw}:∀ (l pre:List Rw),zJ F c pre (l++x::y::post)=-zJ F c pre (l++y::x::post)
 | [],pre=>by
  have h:=a2j hF (c:=c) (p:=pre) (x:=x) (y:=y) post []
  simp only[List.nil_append,zJ,yh,List.cons_append]
  rw[h]
  grind
 | z::l,pre=>by
  have h:=XG hF (c:=c) (x:=x) (y:=y) (post:=post) l (pre++[z])
  have h2:=hF (pre++l) x y post
  simp only[yh] at h2
  simp only[List.cons_append,zJ]
  rw[h,h2]
  grind
theorem VZ:∀ cs,b3A (EK cs)
 | []=>fun a x y b=>by
  rw[wR (by simp),wR (by simp)];rfl
 | c::cs=>fun a x y b=>XG (VZ cs) a []
theorem a4P {F:List Rw->Rat} (hF:b3A F) {x:Rw} {c:List Rw}:∀ (b a:List Rw),F (a++x::(b++x::c))=0
 | [],a=>by
  have h:=hF a x x c
  simp only[List.nil_append]
  grind
 | y::b,a=>by
  have h:=a4P hF (x:=x) (c:=c) b (a++[y])
  rw[yh] at h
  rw[List.cons_append,hF]
  simp only[List.cons_append,List.nil_append] at h
  rw[h];rfl
theorem a9A {cs:List Nat} {rows:List Rw} {x:Rw} (h:x ∈ rows):EK cs (rows++[x])=0:=by
 obtain⟨a,b,rfl⟩:=List.append_of_mem h
 have:=a4P (VZ cs) (x:=x) (c:=[]) b a
 simpa using this
theorem a1x {t:Rat} {u v:Rw}:∀ (cs:List Nat) (rows:List Rw),EK cs (rows++[fun i=>u i+t*v i])=EK cs (rows++[u])+t*EK cs (rows++[v])
 | [],rows=>by
  rw[wR (by simp),wR (by simp),wR (by simp)];grind
 | c::cs,rows=>by
  have h:∀ (l pre:List Rw),zJ (EK cs) c pre (l++[fun i=>u i+t*v i])=zJ (EK cs) c pre (l++[u])+t*zJ (EK cs) c pre (l++[v]):=fun l=>by
   induction l with
   | nil=>intro pre;simp only[List.nil_append,zJ];grind
   | cons z l ih =>
    intro pre
    have e:=a1x cs (pre++l) (t:=t) (u:=u) (v:=v)
    simp only[yh] at e
    simp only[List.cons_append,zJ]
    rw[e,ih]
    grind
  exact h rows []
theorem WA {v:Rw}:∀ (cs:List Nat) (rows:List Rw),(∀ c ∈ cs,v c=0)->EK cs (rows++[v])=0
 | [],rows,_=>wR (by simp)
 | c::cs,rows,hv=>by
  have h:∀ (l pre:List Rw),zJ (EK cs) c pre (l++[v])=0:=fun l=>by
   induction l with
   | nil=>intro pre;simp only[List.nil_append,zJ];rw[hv c (by simp)];grind
   | cons z l ih =>
    intro pre
    have e:=WA cs (pre++l) fun d hd=>hv d (by simp[hd])
    simp only[yh] at e
    simp only[List.cons_append,zJ]
    rw[e,ih]
    grind
  exact h rows []
def isI (x:Rat):Prop:=∃ n:Int,x=(n:Rat)
theorem isI.mul {x y:Rat}:isI x->isI y->isI (x*y)
 | ⟨a,ha⟩,⟨b,hb⟩=>⟨a*b,by rw[ha,hb,uj]⟩
theorem isI.sub {x y:Rat}:isI x->isI y->isI (x-y)
 | ⟨a,ha⟩,⟨b,hb⟩=>⟨a-b,by rw[ha,hb,Rat.intCast_sub]⟩
theorem isI.neg {x:Rat}:isI x->isI (-x)
 | ⟨a,ha⟩=>⟨-a,by rw[ha,Rat.intCast_neg]⟩
def isR (v:Rw):Prop:=∀ i,isI (v i)
def Spn (rows:List Rw) (v:Rw):Prop:=∀ P:Rw->Prop,(∀ a ∈ rows,P a)->P (fun _=>0)->(∀ (u w:Rw) (t:Rat),P u->P w->P (fun i=>u i+t*w i))->P v
theorem Spn.det {rows:List Rw} {v:Rw} (h:Spn rows v) (cs:List Nat):EK cs (rows++[v])=0 :=
 h (fun v=>EK cs (rows++[v])=0) (fun a ha=>a9A ha) (WA cs rows fun _ _=>rfl) (fun u w t hu hw=>by rw[a1x,hu,hw];grind)
theorem Spn.mono {rows rows':List Rw} {v:Rw} (h:Spn rows v) (hs:∀ a ∈ rows,a ∈ rows'):Spn rows' v:=fun P h1 h2 h3=>h P (fun a ha=>h1 a (hs a ha)) h2 h3
theorem Spn.zero {rows:List Rw}:Spn rows (fun _=>0):=fun P _ h2 _=>h2
theorem Spn.add {rows:List Rw} {u w:Rw} {t:Rat} (h1:Spn rows u) (h2:Spn rows w):Spn rows (fun i=>u i+t*w i):=fun P a b c=>c u w t (h1 P a b c) (h2 P a b c)
def kd (R:Nat) (e:Mt):Nat->Rat
 | 0=>1
 | n+1 =>
  if fk (red R e n).1 n (red R e n).2.length (R-(red R e n).2.length)=R then kd R e n
  else kd R e n*(red R e n).1 (fk (red R e n).1 n (red R e n).2.length (R-(red R e n).2.length)) n
def a2M (A:Nat->Rw) (r:Nat):List Rw:=(List.range r).map A
structure FF (R:Nat) (m:Mt) (p:List Nat) (d:Rat) (A:Nat->Rw):Prop where
 int:∀ i,i<R->isR (A i)
 top:∀ t,t<p.length->Spn (a2M A p.length) (m t)
 low:∀ i,p.length<=i->i<R->Spn (a2M A p.length) (fun j=>A i j+(-1)*m i j)
 det:EK p.reverse (a2M A p.length)=d\/EK p.reverse (a2M A p.length)=-d
 nz:d≠0
theorem FF.rows {R:Nat} {m:Mt} {p:List Nat} {d:Rat} {A:Nat->Rw} (F:FF R m p d A) (hp:p.length<=R):∀ r ∈ a2M A p.length,isR r:=fun r hr=>by
 obtain⟨i,hi,rfl⟩:=ug.1 hr
 exact F.int i (by have:=wu.1 hi;omega)
section
theorem isI.num {x:Rat} (h:isI x):((x.num:Int):Rat)=x:=by
 obtain⟨n,rfl⟩:=h
 rw[Rat.num_intCast]
section
variable {R:Nat} {e:Mt} (he:∀ i,i<R->isR (e i))
include he
omit he in
omit he in
omit he in
omit he in
omit he in
omit he in
omit he in
omit he in
end
end
theorem w1 {n:Int} (h:isz n<=1):bU n:=by
 have h1:=lN (bH n.natAbs)
 rw[aU] at h1
 have h2:BB ^ (dig n.natAbs).length<=BB ^ 1:=yc fV h
 have:BB ^ 1=1000000000:=by rw[bK]
 exact⟨by omega,by omega⟩
def nP (p:dA):Prop:=nI p.1.1/\nI p.1.2.1/\nI p.2.1.1/\nI p.2.1.2.1
theorem nI.cd {n:Int} (h:nI n):cdI n:=⟨by have:=h.1;omega,by have:=h.2;omega⟩
theorem nP.cd {p:dA} (h:nP p):cdP p.1/\cdP p.2.1:=⟨⟨h.1.cd,h.2.1.cd⟩,h.2.2.1.cd,h.2.2.2.cd⟩
theorem a1p {l:LQ'} (h:JQ l) (h9:l.length=9):MW (vY l):=by
 have hl:((yG l).map fun n=>aV n).length=9:=by rw[vw,a2E,h9]
 have hs:∀ q ∈ ((yG l).map fun n=>aV n),rsz q<=100000000:=fun q hq=>by
  obtain⟨n,hn,rfl⟩:=ug.1 hq
  have:=a6l h n hn
  have h2:rsz (aV n)<=isz n+1:=yL n
  omega
 refine⟨by show 3<=1000;omega,fun r hr=>?_⟩
 simp only[vY,b7O,qj,Ag,or_false] at hr
 rcases hr with rfl|rfl|rfl
 ·exact⟨by rw[ny];omega,fun q hq=>hs q (Bf hq)⟩
 ·exact⟨by rw[Af,ny];omega,fun q hq=>hs q (Bf (List.mem_of_mem_drop hq))⟩
 ·exact⟨by rw[Af];omega,fun q hq=>hs q (List.mem_of_mem_drop hq)⟩
theorem a7p (l:List dA):((pO l).1=[]/\(pO l).2.1≠0)\/(8<=l.length/\l.length<=64/\xA l=0/\(sD l).length=1/\(pO l).1=vY ((sD l).getD 0 [])):=by
 unfold pO
 by_cases hh:l.length<8\/l.length > 64
 ·rw[jq hh];exact .inl ⟨rfl,by decide⟩
 ·rw[ji hh]
  by_cases hr:xA l≠0
  ·rw[jq hr];exact .inl ⟨rfl,by decide⟩
  ·rw[ji hr]
   by_cases h3:(sD l).length=0
   ·rw[jq h3];exact .inl ⟨rfl,by decide⟩
   ·rw[ji h3]
    by_cases h4:(sD l).length=1
    ·rw[jq h4];exact .inr ⟨by omega,by omega,Decidable.not_not.1 hr,h4,rfl⟩
    ·rw[ji h4];exact .inl ⟨rfl,by decide⟩
theorem b7P {l:List dA} (hn:l.any qV=false):MW (pO l).1:=by
 rcases a7p l with⟨h,_⟩|⟨h1,h2,hr,h4,h⟩
 ·rw[h];exact⟨vg _,fun r hr=>nomatch hr⟩
 ·have hv:=b1z (by omega) h2 hn hr _ (kD (xs:=sD l) (i:=0) (d:=[]) (by omega))
  rw[h];exact a1p hv.1 hv.2
def vJ (p:eX):Bool:=[p.1,p.2.1,p.2.2.1].any iH
noncomputable def c5M:Ctr:=⟨[OB],[tB],fun x=>True,fun x=>(vJ x.1,())⟩
theorem a6H:aI Tryz.prog 53 c5M:=by
 refine aJ (nil0.ad JD) ⟨[],[],[]⟩ Tryz.func53 rfl (by decide) (fun x=>[]) (fun x hp=>?_)
 obtain⟨p,u⟩:=x
 change eX at p
 refine aT ((List.length (asT Int p.1::asT Int p.2.1::asT Int p.2.2.1::aF Int)<=1000000/\True)/\True/\List.any (asT Int p.1::asT Int p.2.1::asT Int p.2.2.1::aF Int) iH=vJ p/\True) (by kernel_rfl) ?_
 have hZ:(⟨false,0,[],[]⟩:aH)=bC:=rfl
 try simp only[aC,aj,ah]
 try dsimp only[aB,asT,aA,aF,Ty.den,Lf.den] at *
 try simp only[hZ,Int.toNat_natCast,aC,aj,ah,jg,jf,gy,bg]
 try simp only[bT,bP,List.all_cons,List.all_nil,jh,dw,ig,je,jy,ne_eq,au,bn,dh,eu,jd,oh,jo,oq,jg,jf,iw,bf,List.length_cons,List.length_nil]
 exact⟨by omega,rfl⟩
noncomputable def c3g:Ctr:=⟨[.list OB,.clo 53 .unit],[tI],fun x=>(show List (eX) from x.1).length<=1000000/\∀ q ∈ (show List (eX) from x.1),(fun _=>True) q,fun x=>(lW vJ (show List (eX) from x.1),())⟩
theorem b0L:aI Tryz.prog 141 c3g:=by
 refine aJ (nil0.ad a6H) ⟨[],[],[]⟩ Tryz.func141 rfl (by decide) (fun x=>[.inv {k:Nat // k<=(show List (eX) from x.1).length/\((show List (eX) from x.1).take k).any vJ=false} (fun k=>[(8,.val tI (k.1:Int))]) (fun k=>[]) (fun k=>(show List (eX) from x.1).length-k.1) ⟨0,by omega,rfl⟩ (fun _=>[])]) (fun x hp=>?_)
 obtain⟨x,c,u⟩:=x
 change List (eX) at x
 change Unit at c
 refine aT ((asT Int 0=0/\True)/\∀ (i:{ k:Nat // k<=List.length x/\List.any (List.take k x) vJ=false }),asT Bool true=true/\ifB (decide (aB (aA i)<aB x.length)) ((0<=aB (aA i)/\aB (aA i)<aB x.length/\True/\True)/\ifB (vJ (List.getD x (aB (aA i)).toNat zSp)) (True/\aB (aA i)=lW vJ x/\True) (∃ (i':{ k:Nat // k<=List.length x/\List.any (List.take k x) vJ=false }),List.length x-aA i'<List.length x-aA i/\IntKind.wrap IntKind.i64 (aB (aA i)+1)=aB (aA i')/\True)) (True/\-1=lW vJ x/\True)) (by kernel_rfl) ?_
 have hZ:(⟨false,0,[],[]⟩:aH)=bC:=rfl
 try simp only[aC,aj,ah]
 try dsimp only[aB,asT,aA,aF,Ty.den,Lf.den] at *
 try simp only[hZ,Int.toNat_natCast,aC,aj,ah,jg,jf,gy,bg]
 try simp only[bT,bP,List.all_cons,List.all_nil,jh,dw,ig,je,jy,ne_eq,au,bn,dh,eu,jd,oh,jo,oq,jg,jf,iw,bf,List.length_cons,List.length_nil]
 have hp:x.length<=1000000/\∀ q ∈ x,(fun _=>True) q:=hp
 obtain⟨hl,hb⟩:=hp
 refine fun i=>⟨fun h1=>⟨(by first|exact⟨by omega,h1,bV hb (by omega)⟩|exact⟨by omega,h1⟩),fun h2=>?_,fun h2=>⟨⟨i.1+1,by omega,?_⟩,by simp only;omega,?_⟩⟩,fun h1=>?_⟩
 ·exact(uH (d:=zSp) (by omega) i.2.2 (by first|exact h2|rw[h2];rfl)).symm
 ·rw[iM (d:=zSp) (by omega),i.2.2,h2];rfl
 ·rw[aN (by omega) (by omega)];rfl
 ·have h3:=i.2.2
  rw[jv (by omega)] at h3
  exact(xU h3).symm
noncomputable def c2Q:Ctr:=⟨[.list OB,.clo 53 .unit],[tB],fun x=>(show List (eX) from x.1).length<=1000000/\∀ q ∈ (show List (eX) from x.1),(fun _=>True) q,fun x=>((show List (eX) from x.1).any vJ,())⟩
theorem a9u:aI Tryz.prog 52 c2Q:=by
 refine aJ ((nil0.ad a6H).ad b0L) ⟨[],[],[]⟩ Tryz.func52 rfl (by decide) (fun x=>[]) (fun x hp=>?_)
 obtain⟨x,c,u⟩:=x
 change List (eX) at x
 change Unit at c
 refine aT (((List.length x<=1000000/\∀ (q:eX),q ∈ x->True)/\True)/\True/\decide (lW vJ x ≥ 0)=List.any x vJ/\True) (by kernel_rfl) ?_
 exact⟨⟨hp,trivial⟩,trivial,uI _ _,trivial⟩
noncomputable def c5d:Ctr:=⟨[FZ,FZ,.list OB],[tB],fun x=>(show List eX from x.2.2.1).length<=9223372036854775807,fun _=>(true,())⟩
theorem b4c:aI Tryz.prog 9 c5d:=by
 refine aJ (((((((((nil0.ad a7F).ad a5L).ad b4K).ad a9u).ad b1X).ad b1r).ad a9G).ad b5d).ad a8u) ⟨[],[],[]⟩ Tryz.func9 rfl (by decide) (fun x=>[]) (fun x hp=>?_)
 obtain⟨a,b,l,u⟩:=x
 change eF at a
 change eF at b
 change List eX at l
 refine aT (let A₀:=(a::b::aF ((Int × Int × Int × PUnit) × (Int × Int × Int × Int × PUnit) × Int × (Int × Int × PUnit) × PUnit));let A₁:=(Ty.pair (Ty.int IntKind.i64) (Ty.pair (Ty.int IntKind.i64) (Ty.pair (Ty.int IntKind.i64) Ty.unit)));let A₂:=(aB l.length > 12);let aQ:=(bif bif bif decide A₂ then true else rQ A₀ != 0 then true else eqD A₁ a.1 b.1 then true else !TL a);let dL:=(bif bif decide A₂ then true else rQ A₀ != 0 then true else eqD A₁ a.1 b.1);let dH:=(bif bif bif bif decide A₂ then true else rQ A₀ != 0 then true else eqD A₁ a.1 b.1 then true else !TL a then true else !TL b);let fU:=(Prod.fst (wK a b).2==0);let kH:=(pO (kL a b l)).2;let aK:=(fU==true&&(Prod.fst kH==13)==false);let dF:=(fU==true&&(Prod.fst kH==13)==false&&(Prod.fst kH==0)==true);let pJ:=(aB (kL a b l).length<8);let fK:=(decide pJ==false);let qO:=((fU==true)=true->(fU==true)=true/\True);let rV:=(bif decide A₂ then true else rQ A₀ != 0);let fB:=(rV==false);let xH:=(True/\asT Bool true=true/\True);let wO:=(fB=true->fB=true/\True);let zH:=(aK=true->aK=true/\True);(True/\True)/\(((decide A₂==false)=true->(decide A₂==false)=true/\(decide A₂==false)=true/\True)/\((decide A₂==false)=true->(decide A₂==false)=true/\List.length A₀<=1000000/\True)/\((decide A₂==false)=true->(decide A₂==false)=true/\True)/\(decide A₂=false->(decide A₂==false)=true)/\wO/\wO/\(fB=true->fB=true/\fB=true/\True)/\(rV=false->fB=true)/\((dL==false)=true->(dL==false)=true/\True/\True)/\((dL==false)=true->(dL==false)=true/\True)/\(dL=false->(dL==false)=true)/\((aQ==false)=true->(aQ==false)=true/\True/\True)/\((aQ==false)=true->(aQ==false)=true/\True)/\(aQ=false->(aQ==false)=true)/\((dH==false)=true->(dH==false)=true/\(List.length l<=1000000/\∀ (q:eX),q ∈ l->True)/\True)/\(dH=false->(dH==false)=true)/\True)/\ifB (bif bif bif bif bif decide A₂ then true else rQ A₀ != 0 then true else eqD A₁ a.1 b.1 then true else !TL a then true else !TL b then true else List.any l vJ) xH (((jZ a/\jZ b/\List.length l<=1000/\∀ (p:eX),p ∈ l->MV p)/\True)/\((fK=true->fK=true/\List.length (kL a b l)<=9223372036854775807/\True)/\(fK=true->fK=true/\True)/\(decide pJ=false->fK=true)/\True)/\ifB (bif decide pJ then true else !!List.any (kL a b l) qV) xH ((List.any (kL a b l) qV=false/\True)/\(True/\True)/\(qO/\qO/\zH/\zH/\(dF=true->dF=true/\dF=true/\(MW (pO (kL a b l)).1/\MW (wK a b).1)/\True)/\(aK=true->aK=true/\((Prod.fst kH==0)=true->dF=true)/\True)/\((fU==true)=true->(fU==true)=true/\((Prod.fst kH==13)=false->aK=true)/\True)/\(fU=true->(fU==true)=true)/\True)/\True/\(bif Prod.fst (wK a b).2==0 then bif Prod.fst kH==13 then true else bif Prod.fst kH==0 then decide (Prod.fst (pO (kL a b l))=Prod.fst (wK a b)) else false else false)=true/\True))) (by kernel_rfl) ?_
 have hZ:(⟨false,0,[],[]⟩:aH)=bC:=rfl
 try simp only[aC,aj,ah]
 try dsimp only[aB,asT,aA,aF,Ty.den,Lf.den] at *
 try simp only[hZ,Int.toNat_natCast,aC,aj,ah,jg,jf,gy,bg]
 try simp only[bT,bP,List.all_cons,List.all_nil,jh,dw,ig,je,jy,ne_eq,au,bn,dh,eu,jd,oh,jo,oq,jg,jf,iw,bf,List.length_cons,List.length_nil]
 refine⟨⟨fun h=>⟨h,by omega⟩,fun h=>lg h,fun h=>⟨h,by have:=ru h.1.1.1.1;omega⟩⟩,fun g=>?_⟩
 obtain⟨⟨⟨⟨⟨g1,g2⟩,g3⟩,g4⟩,g5⟩,g6⟩:=g
 have g1:=ru g1
 have h12:l.length<=12:=by omega
 have hne:¬ a7b a b:=ru ((b7V a.1 b.1).symm.trans g3)
 obtain⟨ha,hb⟩:=b2Y g2
 have ho:wK a b=(vY (FM a b).flatten,0,()):=by unfold wK;rw[ji (by rw[g2];exact fun e=>e rfl),ji hne]
 have hsp:∀ p ∈ l,MV p:=fun p hp=>by
  have h:=Bl.mp g6 p hp
  unfold vJ at h
  simp only[List.any_cons,List.any_nil,Bool.or_false,iw,not_or,Bool.not_eq_true] at h
  exact⟨oK h.1,oK h.2.1,oK h.2.2⟩
 have hlen:=JR a b l
 have o1:(wK a b).2.1=0:=xq (fun t:MQ × Int × Unit=>t.2.1) ho
 have o2:MW (wK a b).1:=by
  rw[xq (fun t:MQ × Int × Unit=>t.1) ho]
  obtain⟨hp9,h9⟩:=a8M ha hb hne
  exact a1p hp9 h9
 have key:8<=(kL a b l).length->(pO (kL a b l)).2.1=13\/(pO (kL a b l)).2.1=0/\(pO (kL a b l)).1=(wK a b).1:=fun h8=>by
  rcases b5N ha hb hne h12 h8 with e|e
  ·exact .inr ⟨xq (fun t:MQ × Int × Unit=>t.2.1) e,(xq (fun t:MQ × Int × Unit=>t.1) e).trans (xq (fun t:MQ × Int × Unit=>t.1) ho).symm⟩
  ·exact .inl (xq (fun t:MQ × Int × Unit=>t.2.1) e)
 generalize wK a b=O at *
 exact⟨⟨ha,hb,by omega,hsp⟩,⟨fun h=>⟨h,by omega⟩,fun h=>lg h⟩,fun h=>⟨h.2,⟨fun h3=>⟨h3,h3,b7P h.2,o2⟩,fun h3=>⟨h3,fun h4=>⟨h3,h4⟩⟩,fun h3=>⟨h3,fun h4=>⟨h3,h4⟩⟩⟩,o1,(key (by have:=ru h.1;omega)).imp id fun e=>⟨e.1,um e.2⟩⟩⟩
end Go.Proofs.YtbkocjmmbkifjaaGreat
