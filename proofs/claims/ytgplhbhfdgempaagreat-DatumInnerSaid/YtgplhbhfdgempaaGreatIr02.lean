/-
  DatumInner: datum.Inner returns the datum of the inner constraints, in which the marked unknowns have the least sum of squares, or the specified error, for all gauges of at most 7 rows and columns; no conditions.
-/
import Derived.Test.YtgplhbhfdgempaaGreatIr01
namespace Go.Proofs.YtgplhbhfdgempaaGreat
open Go Go.RowKit
set_option maxRecDepth 100000
set_option maxHeartbeats 1000000
set_option linter.unusedVariables false
set_option linter.unusedSimpArgs false
theorem a6X {a:MQ} {R C:Nat} (h:isM a R C) {i j:Nat} (ho:¬ (i<R/\j<C)):ent a i j=0:=by
 show (a.getD i []).getD j 0=0
 by_cases hi:i<R
 ·have hl:=h.row hi
  have hj:¬ j<C:=fun hj=>ho ⟨hi,hj⟩
  rw[ay (l:=a.getD i []),qQ (by omega)];rfl
 ·have e:a.getD i []=[]:=by rw[ay,qQ (by rw[h.len];omega)];rfl
  rw[e];rfl
theorem a6W {a:MQ} {m:List Bool} {N C:Nat} (h:isM a N C):ent (qmWz a m)=fun i s=>if m.getD i false=true then ent a i s else 0:=by
 funext i j
 by_cases hb:i<N/\j<C
 ·exact b1I h hb.1 hb.2
 ·rw[a6X (EN h) hb,a6X h hb];split<;>rfl
def EM (a:MQ) (m:List Bool) (k:Nat):MQ:=tab a.length (wdM a) fun i j=>if i<k/\m.getD i false=true then ent a i j else 0
theorem b1H {a:MQ} {m:List Bool} {N C k:Nat} (h:isM a N C) (hk:k<N) (hm:m.getD k false=true):(EM a m k).set k (a.getD k [])=EM a m (k+1):=by
 unfold EM tab
 rw[h.len,h.wd]
 apply yw
 ·simp
 ·intro i h1 h2
  rw[List.getElem_set]
  simp only[List.getElem_map,List.getElem_range]
  split
  ·next e =>
   subst e
   rw[<-FK (h.row hk)]
   refine jf fun j _=>?_
   rw[eY ⟨by omega,hm⟩]
  ·next e =>
   refine jf fun j _=>?_
   have:i<k↔i<k+1:=by omega
   simp only[this]
theorem a9b {a:MQ} {m:List Bool} {k:Nat} (hm:m.getD k false=false):EM a m k=EM a m (k+1):=by
 refine fE fun i _ j _=>?_
 by_cases e:i=k
 ·subst e
  rw[dw (fun h=>by rw[hm] at h;exact absurd h.2 (by decide)),dw (fun h=>by rw[hm] at h;exact absurd h.2 (by decide))]
 ·have:i<k↔i<k+1:=by omega
  simp only[this]
theorem b1G {a:MQ} {m:List Bool} {k:Nat} (hk:a.length<=k):EM a m k=qmWz a m:=by
 refine fE fun i hi j _=>?_
 have:i<k:=by omega
 simp only[this,mg]
theorem a9c {a:MQ} {m:List Bool}:CW a.length (wdM a)=EM a m 0:=by
 refine fE fun i _ j _=>?_
 rw[dw (fun h=>absurd h.1 (by omega))]
theorem c2K {a:MR}:gW [a]=0↔bW a=0:=by rw[a4X];simp
def cI (g:MR) (m:List Bool):Int:=if bW g=0 then if m.length=g.length then 0 else 4 else 1
theorem c4Q (g:MR) (m:List Bool):(bif bW g==0&&((m.length:Int) != (g.length:Int)) then 4 else gW [g])=cI g m:=by
 unfold cI
 by_cases h0:bW g=0
 ·rw[eY h0,h0,c2K.mpr h0]
  by_cases h1:m.length=g.length
  ·rw[eY h1,h1];simp
  ·rw[dw h1]
   have:((m.length:Int) != (g.length:Int))=true:=uy.mpr (by omega)
   rw[this];rfl
 ·rw[dw h0,a4Y (fun h=>h0 (c2K.mp h))]
  have:(bW g==0)=false:=nS.mpr h0
  rw[this];rfl
theorem a5o (g:MR) (m:List Bool):qzZz g m=if cI g m=0 then if kR (bgM (mq g) (qmWz (mq g) m))=true then (qmWz (mq g) m,0,()) else ([],14,()) else ([],cI g m,()):=by
 unfold qzZz cI
 by_cases h0:bW g=0
 ·rw[eY h0,eY h0]
  by_cases h1:m.length=g.length
  ·rw[eY h1,eY h1,eY rfl]
  ·rw[dw h1,dw h1,dw (by decide)]
 ·rw[dw h0,dw h0,dw (by decide)]
theorem c4P {g:MR} {m:List Bool} (h:cI g m=0):bW g=0/\m.length=g.length:=by
 unfold cI at h
 by_cases h0:bW g=0
 ·rw[eY h0] at h
  by_cases h1:m.length=g.length
  ·exact⟨h0,h1⟩
  ·rw[dw h1] at h;exact absurd h (by decide)
 ·rw[dw h0] at h;exact absurd h (by decide)
theorem b7R (l:LR) (i:Nat):lv (lq l) i=(l.getD i bV).x:=by
 show (List.map _ l).getD i 0=_
 simp only[ay,uz]
 cases l[i]?<;>rfl
theorem b6Z {a b:Rat} (h:a<=b):CP a b<=0:=by
 unfold CP
 split
 ·decide
 ·split
  ·next h2=>exact absurd h (Rat.not_le.mpr h2)
  ·decide
theorem a7c {m:List Bool} {f:Nat->Rat} {N K:Nat} (h7:N<=7) (hK:1<=K) (h:∀ k,k<N->rsz (f k)<=K) {k:Nat} (hk:k<=N):rsz (sm k fun i=>if m.getD i false=true then f i else 0)<=7*(K+1)+1:=by
 have h1:=BK (K:=K) (f:=fun i=>if m.getD i false=true then f i else 0) k (fun i hi=>by
  show rsz (if m.getD i false=true then f i else 0)<=K
  split
  ·exact h i (by omega)
  ·exact jc (show rsz 0<=1 by decide +kernel) hK)
 have h2:k*(K+1)<=7*(K+1):=oh (by omega) (aj _)
 omega
def c4A:Ctr:=⟨[.pair tMR .unit,.list tB,.arr 2 (.list tR)],[tB],fun x=>gdM x.1.1/\(∀ l ∈ (show MR from x.2.2.1),gdL l)/\(show MR from x.2.2.1).length=2,fun _=>(true,())⟩
def qyIz (g:MR) (m:List Bool) (x:LR):LQ':=(CV g (liftM (qzZz g m).1) x).1
def mI (g:MR) (t:LR):LQ':=mvL (mq g) (lq t)
theorem b4K:aY Tryz.prog 8 c4A:=by
 refine bH ((((((((((((((((nil0.ad a2y).ad b3M).ad a6x).ad b3N).ad c1F).ad IJ).ad FN).an a2h).ad a5O).ad b0O).ad a1o).ad WJ).ad WQ).ad a1Z).ad a1G).ad b0K) ⟨[17,18,21],[1000067,1000101],[]⟩ Tryz.func8 rfl (by decide) (fun x=>[.inv {k:Nat // k<=(show List Bool from x.2.1).length} (fun k=>[(82,.val tI (k.1:Int))]) (fun k=>[(79,.row 32 (.list tQ) (EM (mq (show MR from x.1.1)) (show List Bool from x.2.1) k.1) 0)]) (fun k=>(show List Bool from x.2.1).length-k.1) ⟨0,by omega⟩ (fun _=>[]),
 .inv {k:Nat // k<=(show List Bool from x.2.1).length} (fun k=>[(162,.val tI (k.1:Int))]) (fun k=>[(17,.box [⟨tQ,sm k.1 fun i=>if (show List Bool from x.2.1).getD i false=true then lv (qyIz (show MR from x.1.1) (show List Bool from x.2.1) (List.getD (show MR from x.2.2.1) 0 [])) i*lv (qyIz (show MR from x.1.1) (show List Bool from x.2.1) (List.getD (show MR from x.2.2.1) 0 [])) i else 0⟩]),(18,.box [⟨tQ,sm k.1 fun i=>if (show List Bool from x.2.1).getD i false=true then (lv (lq (List.getD (show MR from x.2.2.1) 0 [])) i-lv (mI (show MR from x.1.1) (List.getD (show MR from x.2.2.1) 1 [])) i)*(lv (lq (List.getD (show MR from x.2.2.1) 0 [])) i-lv (mI (show MR from x.1.1) (List.getD (show MR from x.2.2.1) 1 [])) i) else 0⟩])]) (fun k=>(show List Bool from x.2.1).length-k.1) ⟨0,by omega⟩ (fun _=>[])]) (fun x hp=>?_)
 obtain⟨g,m,v,u⟩:=x
 change List (List aF) × Unit at g
 change List Bool at m
 change List (List aF) at v
 refine bP (let A₀:=(asT (List (List aF)) g.1);let A₁:=(List.getD v 0 (aC aF));let aP:=(List.getD v 1 (aC aF));let dU:=(bif !okL A₁ then true else !okL aP);let dX:=(qzZz A₀ m).2;let iG:=(!List.all (asT (List (List aF)) g.1::aC (List (List aF))) yJ);let tH:=(List.getD A₀ 0 (aC aF)).length;let wU:=(qzZz A₀ m).1;let iO:=(List.map (fun(x:Ty.den (Ty.lf Lf.aU))=>aF.x x) aP);let yC:=(Ty.list (Ty.lf Lf.aU));let dB:=(List.map (fun(xs:Ty.den yC)=>List.map (fun(x:Ty.den (Ty.lf Lf.aU))=>aF.x x) xs) A₀);let A₂:=(mvL dB iO);let CY:=(aA m.length > 10);let dO:=(bif bif !List.all (asT (List (List aF)) g.1::aC (List (List aF))) yJ then true else decide CY then true else !brL A₁ 10);let eH:=(bif !List.all (asT (List (List aF)) g.1::aC (List (List aF))) yJ then true else decide CY);let CZ:=(Ty.list (Ty.lf Lf.rat));let aV:=(List.map (fun(xs:Ty.den CZ)=>List.map (fun(x:Ty.den (Ty.lf Lf.rat))=>dS x) xs) wU);let jQ:=(CV A₀ aV A₁).1;(True/\True)/\(asT Int 0<=0/\asT Int 0<2/\asT Int 0<=1/\asT Int 1<2/\True)/\(List.length (asT (List (List aF)) g.1::aC (List (List aF)))<=100/\((iG==false)=true->(iG==false)=true/\True)/\((iG==false)=true->(iG==false)=true/\True)/\(iG=false->(iG==false)=true)/\((eH==false)=true->(eH==false)=true/\True/\True)/\((eH==false)=true->(eH==false)=true/\True)/\(eH=false->(eH==false)=true)/\((dO==false)=true->(dO==false)=true/\True/\True)/\((dO==false)=true->(dO==false)=true/\True)/\(dO=false->(dO==false)=true)/\True)/\ifB (bif bif bif !List.all (asT (List (List aF)) g.1::aC (List (List aF))) yJ then true else decide CY then true else !brL A₁ 10 then true else !brL aP 10) (True/\asT Bool true=true/\True) ((smK 100 A₀/\True)/\((List.length (asT (List (List aF)) g.1::aC (List (List aF)))<=1000000/\∀ (a:List (List aF)),a ∈ asT (List (List aF)) g.1::aC (List (List aF))->dV a)/\True)/\((((gW (asT (List (List aF)) g.1::aC (List (List aF)))==0)==true)=true->((gW (asT (List (List aF)) g.1::aC (List (List aF)))==0)==true)=true/\True)/\(((gW (asT (List (List aF)) g.1::aC (List (List aF)))==0)==true)=true->((gW (asT (List (List aF)) g.1::aC (List (List aF)))==0)==true)=true/\True)/\(((gW (asT (List (List aF)) g.1::aC (List (List aF)))==0)==true)=true->((gW (asT (List (List aF)) g.1::aC (List (List aF)))==0)==true)=true/\True)/\(((gW (asT (List (List aF)) g.1::aC (List (List aF)))==0)==true)=true->((gW (asT (List (List aF)) g.1::aC (List (List aF)))==0)==true)=true/\((gW (asT (List (List aF)) g.1::aC (List (List aF)))==0)==true)=true/\True)/\((gW (asT (List (List aF)) g.1::aC (List (List aF)))==0)=true->((gW (asT (List (List aF)) g.1::aC (List (List aF)))==0)==true)=true)/\True)/\∀ (z:Int),(z=bif bif gW (asT (List (List aF)) g.1::aC (List (List aF)))==0 then aA m.length != aA A₀.length else false then 4 else gW (asT (List (List aF)) g.1::aC (List (List aF))))->ifB (z==0) ((asT Int 0<=0/\0<aA A₀.length/\(0<=aA A₀.length/\aA A₀.length<=1000/\0<=aA tH/\aA tH<=1000)/\True)/\(asT Int 0=0/\CW (aA A₀.length).toNat (aA tH).toNat=EM (mq A₀) m 0/\True)/\∀ (i:{ k:Nat // k<=List.length m }),let lM:=(EM (mq A₀) m (aB i));let jF:=(List.getD A₀ (aA (aB i)).toNat (aC aF));asT Bool true=true/\ifB (decide (aA (aB i)<aA m.length)) ((0<=aA (aB i)/\aA (aB i)<aA m.length/\True)/\ifB (List.getD m (aA (aB i)).toNat false) ((0<=aA (aB i)/\aA (aB i)<aA A₀.length/\0<=aA (aB i)/\aA (aB i)<aA lM.length/\Int.toNat (aA (aB i))<List.length lM/\bY (fun(x:Ty.den (Ty.lf Lf.aU))=>aW ((aF.ok x=true)::aC Prop)) jF/\True)/\∃ (i':{ k:Nat // k<=List.length m }),List.length m-aB i'<List.length m-aB i/\IntKind.wrap IntKind.i64 (aA (aB i)+1)=aA (aB i')/\List.set lM (aA (aB i)).toNat (List.map (fun(x:Ty.den (Ty.lf Lf.aU))=>aF.x x) jF)=EM (mq A₀) m (aB i')/\True) (∃ (i':{ k:Nat // k<=List.length m }),List.length m-aB i'<List.length m-aB i/\IntKind.wrap IntKind.i64 (aA (aB i)+1)=aA (aB i')/\EM (mq A₀) m (aB i)=EM (mq A₀) m (aB i')/\True)) ((bY (fun(x:Ty.den yC)=>aW (bY (fun(x:Ty.den (Ty.lf Lf.aU))=>aW ((aF.ok x=true)::aC Prop)) x::aC Prop)) A₀/\yZ dB lM/\True)/\∀ (z_1:Int),(z_1=bif !kR (bgM dB lM) then 14 else z)->ifB (z_1 != 0) (((((Prod.fst dX==z_1)==true)=true->((Prod.fst dX==z_1)==true)=true/\True)/\(((Prod.fst dX==z_1)==true)=true->((Prod.fst dX==z_1)==true)=true/\True)/\((Prod.fst dX==z_1)=true->((Prod.fst dX==z_1)==true)=true)/\True)/\True/\(bif Prod.fst dX==z_1 then aA wU.length==0 else false)=true/\True) (((((Prod.fst dX != 0)==false)=true->((Prod.fst dX != 0)==false)=true/\((Prod.fst dX != 0)==false)=true/\(oP wU/\oP lM)/\True)/\(((Prod.fst dX != 0)==false)=true->((Prod.fst dX != 0)==false)=true/\True)/\((Prod.fst dX != 0)=false->((Prod.fst dX != 0)==false)=true)/\True)/\ifB (bif Prod.fst dX != 0 then true else !decide (Prod.fst (qzZz A₀ m)=EM (mq A₀) m (aB i))) (True/\asT Bool false=true/\True) ((jO A₁/\(((!okL A₁)==false)=true->((!okL A₁)==false)=true/\jO aP/\True)/\(((!okL A₁)==false)=true->((!okL A₁)==false)=true/\True)/\((!okL A₁)=false->((!okL A₁)==false)=true)/\((dU==false)=true->(dU==false)=true/\True)/\((dU==false)=true->(dU==false)=true/\True)/\((dU==false)=true->(dU==false)=true/\(dU==false)=true/\True)/\(dU=false->(dU==false)=true)/\(((bif bif !okL A₁ then true else !okL aP then true else aA A₁.length != aA m.length)==false)=true->((bif bif !okL A₁ then true else !okL aP then true else aA A₁.length != aA m.length)==false)=true/\True)/\(((bif bif !okL A₁ then true else !okL aP then true else aA A₁.length != aA m.length)==false)=true->((bif bif !okL A₁ then true else !okL aP then true else aA A₁.length != aA m.length)==false)=true/\True)/\(((bif bif !okL A₁ then true else !okL aP then true else aA A₁.length != aA m.length)==false)=true->((bif bif !okL A₁ then true else !okL aP then true else aA A₁.length != aA m.length)==false)=true/\asT Int 0<=0/\0<aA A₀.length/\True)/\(((bif bif !okL A₁ then true else !okL aP then true else aA A₁.length != aA m.length)==false)=true->((bif bif !okL A₁ then true else !okL aP then true else aA A₁.length != aA m.length)==false)=true/\True)/\(((bif bif !okL A₁ then true else !okL aP then true else aA A₁.length != aA m.length)==false)=true->((bif bif !okL A₁ then true else !okL aP then true else aA A₁.length != aA m.length)==false)=true/\True)/\(((bif bif !okL A₁ then true else !okL aP then true else aA A₁.length != aA m.length)==false)=true->((bif bif !okL A₁ then true else !okL aP then true else aA A₁.length != aA m.length)==false)=true/\((bif bif !okL A₁ then true else !okL aP then true else aA A₁.length != aA m.length)==false)=true/\True)/\((bif bif !okL A₁ then true else !okL aP then true else aA A₁.length != aA m.length)=false->((bif bif !okL A₁ then true else !okL aP then true else aA A₁.length != aA m.length)==false)=true)/\True)/\ifB (bif bif bif !okL A₁ then true else !okL aP then true else aA A₁.length != aA m.length then true else aA aP.length != aA tH) (True/\asT Bool true=true/\True) ((bY (fun(x:Ty.den CZ)=>aW (bY (fun(x:Ty.den (Ty.lf Lf.rat))=>aW (aC Prop)) x::aC Prop)) wU/\(smK 100 A₀/\smK 100 aV/\smL 500000 A₁)/\True)/\ifB (Prod.fst (CV A₀ aV A₁).2 != 0) (True/\asT Bool false=true/\True) ((bY (fun(x:Ty.den yC)=>aW (bY (fun(x:Ty.den (Ty.lf Lf.aU))=>aW ((aF.ok x=true)::aC Prop)) x::aC Prop)) A₀/\bY (fun(x:Ty.den (Ty.lf Lf.aU))=>aW ((aF.ok x=true)::aC Prop)) aP/\(okM dB/\szM dB 1000000/\List.length iO=wdM dB/\∀ (q:Rat),q ∈ List.map (fun(x:Ty.den (Ty.lf Lf.aU))=>aF.x x) aP->rsz q<=1000000)/\True)/\(gZ 0/\gZ 0/\True)/\(asT Int 0=0/\(dD 0=sm 0 fun(i:Nat)=>if List.getD m i false=true then lv (qyIz A₀ m A₁) i*lv (qyIz A₀ m A₁) i else 0)/\(dD 0=sm 0 fun(i:Nat)=>if List.getD m i false=true then (lv (lq A₁) i-lv (mI A₀ aP) i)*(lv (lq A₁) i-lv (mI A₀ aP) i) else 0)/\True)/\∀ (i:{ k:Nat // k<=List.length m }),let jR:=(aA (aB i)).toNat;let C₂:=(List.getD A₁ jR bV);let C₁:=(aF.x C₂-List.getD A₂ jR 0);asT Bool true=true/\ifB (decide (aA (aB i)<aA m.length)) ((0<=aA (aB i)/\aA (aB i)<aA m.length/\True)/\ifB (List.getD m jR false) ((0<=aA (aB i)/\aA (aB i)<aA A₁.length/\0<=aA (aB i)/\aA (aB i)<aA A₂.length/\aF.ok C₂=true/\s19 (aF.x C₂) (List.getD A₂ jR 0)/\True)/\(0<=aA (aB i)/\aA (aB i)<aA jQ.length/\0<=aA (aB i)/\aA (aB i)<aA jQ.length/\s19 (List.getD jQ jR 0) (List.getD jQ jR 0)/\s19 (sm (aB i) fun(i:Nat)=>if List.getD m i false=true then lv (qyIz A₀ m A₁) i*lv (qyIz A₀ m A₁) i else 0) (List.getD jQ jR 0*List.getD jQ jR 0)/\True)/\(s19 C₁ C₁/\s19 (sm (aB i) fun(i:Nat)=>if List.getD m i false=true then (lv (lq A₁) i-lv (mI A₀ aP) i)*(lv (lq A₁) i-lv (mI A₀ aP) i) else 0) (C₁*C₁)/\True)/\∃ (i':{ k:Nat // k<=List.length m }),List.length m-aB i'<List.length m-aB i/\IntKind.wrap IntKind.i64 (aA (aB i)+1)=aA (aB i')/\((sm (aB i) fun(i:Nat)=>if List.getD m i false=true then lv (qyIz A₀ m A₁) i*lv (qyIz A₀ m A₁) i else 0)+List.getD jQ jR 0*List.getD jQ jR 0=sm (aB i') fun(i:Nat)=>if List.getD m i false=true then lv (qyIz A₀ m A₁) i*lv (qyIz A₀ m A₁) i else 0)/\((sm (aB i) fun(i:Nat)=>if List.getD m i false=true then (lv (lq A₁) i-lv (mI A₀ aP) i)*(lv (lq A₁) i-lv (mI A₀ aP) i) else 0)+C₁*C₁=sm (aB i') fun(i:Nat)=>if List.getD m i false=true then (lv (lq A₁) i-lv (mI A₀ aP) i)*(lv (lq A₁) i-lv (mI A₀ aP) i) else 0)/\True) (∃ (i':{ k:Nat // k<=List.length m }),List.length m-aB i'<List.length m-aB i/\IntKind.wrap IntKind.i64 (aA (aB i)+1)=aA (aB i')/\((sm (aB i) fun(i:Nat)=>if List.getD m i false=true then lv (qyIz A₀ m A₁) i*lv (qyIz A₀ m A₁) i else 0)=sm (aB i') fun(i:Nat)=>if List.getD m i false=true then lv (qyIz A₀ m A₁) i*lv (qyIz A₀ m A₁) i else 0)/\((sm (aB i) fun(i:Nat)=>if List.getD m i false=true then (lv (lq A₁) i-lv (mI A₀ aP) i)*(lv (lq A₁) i-lv (mI A₀ aP) i) else 0)=sm (aB i') fun(i:Nat)=>if List.getD m i false=true then (lv (lq A₁) i-lv (mI A₀ aP) i)*(lv (lq A₁) i-lv (mI A₀ aP) i) else 0)/\True)) ((s19 (sm (aB i) fun(i:Nat)=>if List.getD m i false=true then lv (qyIz A₀ m A₁) i*lv (qyIz A₀ m A₁) i else 0) (sm (aB i) fun(i:Nat)=>if List.getD m i false=true then (lv (lq A₁) i-lv (mI A₀ aP) i)*(lv (lq A₁) i-lv (mI A₀ aP) i) else 0)/\True)/\True/\decide (CP (sm (aB i) fun(i:Nat)=>if List.getD m i false=true then lv (qyIz A₀ m A₁) i*lv (qyIz A₀ m A₁) i else 0) (sm (aB i) fun(i:Nat)=>if List.getD m i false=true then (lv (lq A₁) i-lv (mI A₀ aP) i)*(lv (lq A₁) i-lv (mI A₀ aP) i) else 0)<=0)=true/\True))))))) (ifB (z != 0) (((((Prod.fst dX==z)==true)=true->((Prod.fst dX==z)==true)=true/\True)/\(((Prod.fst dX==z)==true)=true->((Prod.fst dX==z)==true)=true/\True)/\((Prod.fst dX==z)=true->((Prod.fst dX==z)==true)=true)/\True)/\True/\(bif Prod.fst dX==z then aA wU.length==0 else false)=true/\True) (((((Prod.fst dX != 0)==false)=true->((Prod.fst dX != 0)==false)=true/\((Prod.fst dX != 0)==false)=true/\(oP wU/\oP (aC (List Rat)))/\True)/\(((Prod.fst dX != 0)==false)=true->((Prod.fst dX != 0)==false)=true/\True)/\((Prod.fst dX != 0)=false->((Prod.fst dX != 0)==false)=true)/\True)/\ifB (bif Prod.fst dX != 0 then true else !decide (Prod.fst (qzZz A₀ m)=aC (List Rat))) (True/\asT Bool false=true/\True) ((jO A₁/\(((!okL A₁)==false)=true->((!okL A₁)==false)=true/\jO aP/\True)/\(((!okL A₁)==false)=true->((!okL A₁)==false)=true/\True)/\((!okL A₁)=false->((!okL A₁)==false)=true)/\((dU==false)=true->(dU==false)=true/\True)/\((dU==false)=true->(dU==false)=true/\True)/\((dU==false)=true->(dU==false)=true/\(dU==false)=true/\True)/\(dU=false->(dU==false)=true)/\(((bif bif !okL A₁ then true else !okL aP then true else aA A₁.length != aA m.length)==false)=true->((bif bif !okL A₁ then true else !okL aP then true else aA A₁.length != aA m.length)==false)=true/\True)/\(((bif bif !okL A₁ then true else !okL aP then true else aA A₁.length != aA m.length)==false)=true->((bif bif !okL A₁ then true else !okL aP then true else aA A₁.length != aA m.length)==false)=true/\True)/\(((bif bif !okL A₁ then true else !okL aP then true else aA A₁.length != aA m.length)==false)=true->((bif bif !okL A₁ then true else !okL aP then true else aA A₁.length != aA m.length)==false)=true/\asT Int 0<=0/\0<aA A₀.length/\True)/\(((bif bif !okL A₁ then true else !okL aP then true else aA A₁.length != aA m.length)==false)=true->((bif bif !okL A₁ then true else !okL aP then true else aA A₁.length != aA m.length)==false)=true/\True)/\(((bif bif !okL A₁ then true else !okL aP then true else aA A₁.length != aA m.length)==false)=true->((bif bif !okL A₁ then true else !okL aP then true else aA A₁.length != aA m.length)==false)=true/\True)/\(((bif bif !okL A₁ then true else !okL aP then true else aA A₁.length != aA m.length)==false)=true->((bif bif !okL A₁ then true else !okL aP then true else aA A₁.length != aA m.length)==false)=true/\((bif bif !okL A₁ then true else !okL aP then true else aA A₁.length != aA m.length)==false)=true/\True)/\((bif bif !okL A₁ then true else !okL aP then true else aA A₁.length != aA m.length)=false->((bif bif !okL A₁ then true else !okL aP then true else aA A₁.length != aA m.length)==false)=true)/\True)/\ifB (bif bif bif !okL A₁ then true else !okL aP then true else aA A₁.length != aA m.length then true else aA aP.length != aA tH) (True/\asT Bool true=true/\True) ((bY (fun(x:Ty.den CZ)=>aW (bY (fun(x:Ty.den (Ty.lf Lf.rat))=>aW (aC Prop)) x::aC Prop)) wU/\(smK 100 A₀/\smK 100 aV/\smL 500000 A₁)/\True)/\ifB (Prod.fst (CV A₀ aV A₁).2 != 0) (True/\asT Bool false=true/\True) ((bY (fun(x:Ty.den yC)=>aW (bY (fun(x:Ty.den (Ty.lf Lf.aU))=>aW ((aF.ok x=true)::aC Prop)) x::aC Prop)) A₀/\bY (fun(x:Ty.den (Ty.lf Lf.aU))=>aW ((aF.ok x=true)::aC Prop)) aP/\(okM dB/\szM dB 1000000/\List.length iO=wdM dB/\∀ (q:Rat),q ∈ List.map (fun(x:Ty.den (Ty.lf Lf.aU))=>aF.x x) aP->rsz q<=1000000)/\True)/\(gZ 0/\gZ 0/\True)/\(asT Int 0=0/\(dD 0=sm 0 fun(i:Nat)=>if List.getD m i false=true then lv (qyIz A₀ m A₁) i*lv (qyIz A₀ m A₁) i else 0)/\(dD 0=sm 0 fun(i:Nat)=>if List.getD m i false=true then (lv (lq A₁) i-lv (mI A₀ aP) i)*(lv (lq A₁) i-lv (mI A₀ aP) i) else 0)/\True)/\∀ (i:{ k:Nat // k<=List.length m }),let C₃:=(aA (aB i)).toNat;let jD:=(List.getD A₁ C₃ bV);let yD:=(aF.x jD-List.getD A₂ C₃ 0);asT Bool true=true/\ifB (decide (aA (aB i)<aA m.length)) ((0<=aA (aB i)/\aA (aB i)<aA m.length/\True)/\ifB (List.getD m C₃ false) ((0<=aA (aB i)/\aA (aB i)<aA A₁.length/\0<=aA (aB i)/\aA (aB i)<aA A₂.length/\aF.ok jD=true/\s19 (aF.x jD) (List.getD A₂ C₃ 0)/\True)/\(0<=aA (aB i)/\aA (aB i)<aA jQ.length/\0<=aA (aB i)/\aA (aB i)<aA jQ.length/\s19 (List.getD jQ C₃ 0) (List.getD jQ C₃ 0)/\s19 (sm (aB i) fun(i:Nat)=>if List.getD m i false=true then lv (qyIz A₀ m A₁) i*lv (qyIz A₀ m A₁) i else 0) (List.getD jQ C₃ 0*List.getD jQ C₃ 0)/\True)/\(s19 yD yD/\s19 (sm (aB i) fun(i:Nat)=>if List.getD m i false=true then (lv (lq A₁) i-lv (mI A₀ aP) i)*(lv (lq A₁) i-lv (mI A₀ aP) i) else 0) (yD*yD)/\True)/\∃ (i':{ k:Nat // k<=List.length m }),List.length m-aB i'<List.length m-aB i/\IntKind.wrap IntKind.i64 (aA (aB i)+1)=aA (aB i')/\((sm (aB i) fun(i:Nat)=>if List.getD m i false=true then lv (qyIz A₀ m A₁) i*lv (qyIz A₀ m A₁) i else 0)+List.getD jQ C₃ 0*List.getD jQ C₃ 0=sm (aB i') fun(i:Nat)=>if List.getD m i false=true then lv (qyIz A₀ m A₁) i*lv (qyIz A₀ m A₁) i else 0)/\((sm (aB i) fun(i:Nat)=>if List.getD m i false=true then (lv (lq A₁) i-lv (mI A₀ aP) i)*(lv (lq A₁) i-lv (mI A₀ aP) i) else 0)+yD*yD=sm (aB i') fun(i:Nat)=>if List.getD m i false=true then (lv (lq A₁) i-lv (mI A₀ aP) i)*(lv (lq A₁) i-lv (mI A₀ aP) i) else 0)/\True) (∃ (i':{ k:Nat // k<=List.length m }),List.length m-aB i'<List.length m-aB i/\IntKind.wrap IntKind.i64 (aA (aB i)+1)=aA (aB i')/\((sm (aB i) fun(i:Nat)=>if List.getD m i false=true then lv (qyIz A₀ m A₁) i*lv (qyIz A₀ m A₁) i else 0)=sm (aB i') fun(i:Nat)=>if List.getD m i false=true then lv (qyIz A₀ m A₁) i*lv (qyIz A₀ m A₁) i else 0)/\((sm (aB i) fun(i:Nat)=>if List.getD m i false=true then (lv (lq A₁) i-lv (mI A₀ aP) i)*(lv (lq A₁) i-lv (mI A₀ aP) i) else 0)=sm (aB i') fun(i:Nat)=>if List.getD m i false=true then (lv (lq A₁) i-lv (mI A₀ aP) i)*(lv (lq A₁) i-lv (mI A₀ aP) i) else 0)/\True)) ((s19 (sm (aB i) fun(i:Nat)=>if List.getD m i false=true then lv (qyIz A₀ m A₁) i*lv (qyIz A₀ m A₁) i else 0) (sm (aB i) fun(i:Nat)=>if List.getD m i false=true then (lv (lq A₁) i-lv (mI A₀ aP) i)*(lv (lq A₁) i-lv (mI A₀ aP) i) else 0)/\True)/\True/\decide (CP (sm (aB i) fun(i:Nat)=>if List.getD m i false=true then lv (qyIz A₀ m A₁) i*lv (qyIz A₀ m A₁) i else 0) (sm (aB i) fun(i:Nat)=>if List.getD m i false=true then (lv (lq A₁) i-lv (mI A₀ aP) i)*(lv (lq A₁) i-lv (mI A₀ aP) i) else 0)<=0)=true/\True)))))))) (by kernel_rfl) ?_
 simp only[UA,ak,dh,aJ,bn]
 try simp only[aJ,dh,bn]
 try dsimp only[Ty.den,Lf.den,asT] at *
 try simp only[uF,uD,trF,uG]
 have hZ:(⟨false,0,[],[]⟩:aF)=bV:=rfl
 try dsimp only[aA,asT,aB,aC,Ty.den,Lf.den] at *
 try simp only[hZ,Int.toNat_natCast,aJ,dh,bn,mg,mW,aH,nameAt,aX,aN,aZ,rowAt,iw,gJ]
 try simp only[jK,List.all_cons,List.all_nil,yx,nI,qw,jd,uy,ne_eq,ak,qg,nS,tC,xk,imp_self,AO,and_self,mg,mW,iD,qZ,qO,List.length_cons,List.length_nil]
 try simp only[wdF,iT,jA]
 have hp:gdM g.1/\(∀ l ∈ v,gdL l)/\v.length=2:=hp
 obtain⟨G,u2⟩:=g
 obtain⟨gg,gv,v2⟩:=hp
 dsimp only at gg ⊢
 simp only[c4Q]
 refine⟨⟨by omega,by omega,by omega,by omega⟩,by omega,fun hf=>?_⟩
 obtain⟨⟨⟨f1,fm⟩,f2⟩,f3⟩:=hf
 have m10:m.length<=10:=by
  have h10:¬ (m.length:Int) > 10:=by simpa using fm
  omega
 obtain⟨sg,sg'⟩:=JU f1 gg
 obtain⟨sx,sx',x10⟩:=TA f2 (gv _ (jY (by omega)))
 obtain⟨st,st',t10⟩:=TA f3 (gv _ (jY (by omega)))
 generalize hX:v.getD 0 []=X at *
 generalize hT:v.getD 1 []=T at *
 have hwv:wdM v=X.length:=by rw[<-hX]
 rw[hwv]
 refine⟨sg,⟨by omega,fun a ha=>by rw[lN.mp ha];exact sg'⟩,fun z hz=>⟨fun h0=>?_,fun h0=>⟨fun _=>?_,fun h=>absurd h h0⟩⟩⟩
 ·have hc:cI G m=0:=by rw[<-hz];exact h0
  obtain⟨cg,em⟩:=c4P hc
  obtain⟨hM,h7,w7,hC⟩:=sg.at cg
  have og:=lG (gX cg).2
  have g0:=hM.2.2.1
  have lk:∀ k,(EM (mq G) m k).length=G.length:=fun k=>by unfold EM;rw[aZ,kT]
  refine⟨⟨by omega,by omega,by omega,by omega,by omega,by omega⟩,by rw[<-kT,<-RF];exact a9c,fun i=>⟨fun h1=>⟨⟨by omega,h1⟩,fun hm=>⟨⟨by omega,by omega,by omega,by rw[lk];omega,by rw[lk];omega,?_⟩,⟨i.1+1,by omega⟩,by simp only;omega,by rw[bF (by omega) (by omega)];rfl,?_⟩,fun hm=>⟨⟨i.1+1,by omega⟩,by simp only;omega,by rw[bF (by omega) (by omega)];rfl,a9b hm⟩⟩,fun h1=>?_⟩⟩
  ·exact jJ.mpr fun q hq=>⟨(gX cg).2 _ (jY (show i.1<G.length by omega)) q hq,trivial⟩
  ·rw[<-KH];exact b1H hM (by omega) hm
  ·have hi:i.1=G.length:=by have:=i.2;omega
   have eK:EM (mq G) m i.1=qmWz (mq G) m:=b1G (by rw[kT];omega)
   simp only[eK]
   have hP:=a3r (m:=m) hM h7 w7 hC
   have hIM:=EN (m:=m) hM
   have hIC:=a7d (m:=m) hM hC
   have okI:okM (qmWz (mq G) m):=hIC.ok hIM (by omega)
   refine⟨⟨og,hP⟩,fun z1 hz1=>⟨fun h2=>?_,fun h2=>?_⟩⟩
   ·have hR:kR (bgM (mq G) (qmWz (mq G) m))=false:=by
     cases e:kR (bgM (mq G) (qmWz (mq G) m))
     ·rfl
     ·rw[e] at hz1;exact absurd (hz1.trans h0) h2
    have e1:z1=14:=by rw[hz1,hR];rfl
    rw[a5o,eY hc,dw (by rw[hR];decide),e1];simp
   ·have hR:kR (bgM (mq G) (qmWz (mq G) m))=true:=by
     cases e:kR (bgM (mq G) (qmWz (mq G) m))
     ·rw[e] at hz1
      have h14:z1=14:=hz1
      omega
     ·rfl
    have eI:qzZz G m=(qmWz (mq G) m,0,()):=by rw[a5o,eY hc,eY hR]
    refine⟨fun _=>⟨by rw[eI],by rw[eI],by rw[eI];exact okI.oP,okI.oP⟩,fun h=>?_,fun _=>⟨⟨sx',fun h=>⟨h,st'⟩,fun h=>⟨h,by omega,by omega⟩⟩,fun hL=>?_⟩⟩
    ·exfalso
     rcases h with h|h
     ·rw[eI] at h;exact h rfl
     ·exact absurd (rD Prod.fst eI) (zy h)
    ·obtain⟨⟨⟨ox,ot⟩,lx⟩,lt⟩:=hL
     have lm:List.map (fun xs=>List.map (fun x=>dS x) xs) (qzZz G m).1=liftM (qmWz (mq G) m):=by rw[eI]
     have sI:smK 100 (liftM (qmWz (mq G) m)):=a4s okI (by rw[hIM.len];exact h7) (by rw[hIM.wd];exact w7) hIC
     have hd:b0I G (liftM (qmWz (mq G) m)) [X]=0:=by
      rw[b6k,eY ⟨⟨cg,okI.chk⟩,ox⟩,eY ⟨⟨by rw[PO,hIM.len],by rw[WI,hIM.wd]⟩,by omega⟩]
     have eT:CV G (liftM (qmWz (mq G) m)) X=(mvL (sM (mq G) (qmWz (mq G) m)) (lq X),0,()):=by
      rw[b5W,eY hd,a7A,eY hR]
     have F:=a3S hP
     have s1:=F.s1
     rw[kT] at s1
     have eY:qyIz G m X=mvL (sM (mq G) (qmWz (mq G) m)) (lq X):=by unfold qyIz;rw[eI];show (CV G (liftM (qmWz (mq G) m)) X).1=_;rw[eT]
     have ey:(mvL (sM (mq G) (qmWz (mq G) m)) (lq X)).length=G.length:=by rw[qAOz,s1.len]
     have emv:(mvL (mq G) (lq T)).length=G.length:=by rw[qAOz,hM.len]
     have fy:∀ k,k<G.length->rsz (lv (mvL (sM (mq G) (qmWz (mq G) m)) (lq X)) k)<=200000:=fun k hk=>by
      have:=a1M s1 (F.s2.sz (aj _)) (sx.q ox) (by rw[wG,lx,em]) _ (jY (d:=0) (show k<(mvL (sM (mq G) (qmWz (mq G) m)) (lq X)).length by omega))
      have h3:G.length*(27000+1+1)<=7*27002:=oh h7 (aj _)
      exact jc this (by omega)
     have fx:∀ k,k<G.length->rsz (lv (lq X) k)<=1:=fun k hk=>sx.q ox _ (jY (by rw[wG];omega))
     have fv:∀ k,k<G.length->rsz (lv (mvL (mq G) (lq T)) k)<=1000:=fun k hk=>by
      have:=a1M hM (hC.sz (aj _)) (st.q ot) (by rw[wG,lt]) _ (jY (d:=0) (show k<(mvL (mq G) (lq T)).length by omega))
      have h3:wdM G*(100+1+1)<=7*102:=oh w7 (aj _)
      exact jc this (by omega)
     have f1:∀ k,k<G.length->rsz (lv (mvL (sM (mq G) (qmWz (mq G) m)) (lq X)) k*lv (mvL (sM (mq G) (qmWz (mq G) m)) (lq X)) k)<=400000:=fun k hk=>by
      have:=oI (lv (mvL (sM (mq G) (qmWz (mq G) m)) (lq X)) k) (lv (mvL (sM (mq G) (qmWz (mq G) m)) (lq X)) k)
      have:=fy k hk
      omega
     have f2:∀ k,k<G.length->rsz (lv (lq X) k-lv (mvL (mq G) (lq T)) k)<=1002:=fun k hk=>by
      have:=a8a (lv (lq X) k) (lv (mvL (mq G) (lq T)) k)
      have:=fx k hk
      have:=fv k hk
      omega
     have f3:∀ k,k<G.length->rsz ((lv (lq X) k-lv (mvL (mq G) (lq T)) k)*(lv (lq X) k-lv (mvL (mq G) (lq T)) k))<=400000:=fun k hk=>by
      have:=oI (lv (lq X) k-lv (mvL (mq G) (lq T)) k) (lv (lq X) k-lv (mvL (mq G) (lq T)) k)
      have:=f2 k hk
      omega
     rw[lm,eT,eY,show mI G T=mvL (mq G) (lq T) from rfl]
     generalize hy:mvL (sM (mq G) (qmWz (mq G) m)) (lq X)=y at *
     generalize hv:mvL (mq G) (lq T)=w at *
     dsimp only
     refine⟨⟨jJ.mpr fun _ _=>⟨jJ.mpr fun _ _=>trivial,trivial⟩,sg,sI,⟨sx.1,fun h q hq=>jc (sx.2 h q hq) (by omega)⟩⟩,fun h=>absurd rfl h,fun _=>⟨⟨og,a0R ot,hC.ok hM (by omega),hC.sz (by omega),by rw[wG,lt,hM.wd],fun q hq=>jc (st.q ot q hq) (by omega)⟩,by unfold gZ;omega,⟨rfl,rfl⟩,fun k=>⟨fun h3=>⟨⟨by omega,h3⟩,fun hm=>?_,fun hm=>?_⟩,fun h3=>?_⟩⟩⟩
     ·have hk:k.1<G.length:=by omega
      have a1:=fx k.1 hk
      have a2:=fv k.1 hk
      have a3:=fy k.1 hk
      have a4:=a7c (m:=m) h7 (by omega) f1 (show k.1<=G.length by omega)
      have a5:=a7c (m:=m) h7 (by omega) f3 (show k.1<=G.length by omega)
      have a6:=f1 k.1 hk
      have a7:=f3 k.1 hk
      have a8:=f2 k.1 hk
      rw[<-b7R]
      exact⟨⟨by omega,by omega,by omega,by omega,a7M.mp ox _ (jY (by omega)),⟨by omega,jc a2 (by omega)⟩⟩,⟨by omega,by omega,by omega,by omega,jc a3 (by omega),⟨by omega,jc a6 (by omega)⟩⟩,⟨jc a8 (by omega),⟨by omega,jc a7 (by omega)⟩⟩,⟨k.1+1,by omega⟩,by simp only;omega,by rw[bF (by omega) (by omega)];rfl,by
       show _=_+(if m.getD k.1 false=true then _ else _)
       rw[if_pos hm],by
       show _=_+(if m.getD k.1 false=true then _ else _)
       rw[if_pos hm]⟩
     ·exact⟨⟨k.1+1,by omega⟩,by simp only;omega,by rw[bF (by omega) (by omega)];rfl,by
       show _=_+(if m.getD k.1 false=true then _ else _)
       rw[dw (by rw[hm];decide),Rat.add_zero],by
       show _=_+(if m.getD k.1 false=true then _ else _)
       rw[dw (by rw[hm];decide),Rat.add_zero]⟩
     ·have hk:k.1=G.length:=by have:=k.2;omega
      have a4:=a7c (m:=m) h7 (by omega) f1 (show k.1<=G.length by omega)
      have a5:=a7c (m:=m) h7 (by omega) f3 (show k.1<=G.length by omega)
      refine⟨⟨by omega,by omega⟩,b6Z ?_⟩
      have hw:=a4U hM hIM hR
      rw[a6W hM] at hw
      have key:=a3t (fun i=>m.getD i false) hw (lv (lq X)) (lv (lq T))
      rw[hk]
      have e1:∀ i,i<G.length->mv G.length (uT (wdM G) (ent (mq G)) (fun i s=>if m.getD i false=true then ent (mq G) i s else 0) (ent (oN (bgM (mq G) (qmWz (mq G) m))))) (lv (lq X)) i=lv y i:=fun i hi=>by
       rw[<-hy,a8b hM hIM hi,a6W hM]
      have e2:∀ i,i<G.length->mv (wdM G) (ent (mq G)) (lv (lq T)) i=lv w i:=fun i hi=>by rw[<-hv,a0c hM hi]
      rw[show (sm G.length fun i=>if m.getD i false=true then lv y i*lv y i else 0)=_ from fG G.length fun i hi=>by rw[<-e1 i hi],show (sm G.length fun i=>if m.getD i false=true then (lv (lq X) i-lv w i)*(lv (lq X) i-lv w i) else 0)=_ from fG G.length fun i hi=>by rw[<-e2 i hi]]
      exact key
 ·rw[a5o,<-hz,dw h0];simp
theorem vinner_holds:Rows.DatumInnerSaid:=OI b4K (fun _ _ _ a _ c=>⟨a5g a.1,fun l hl=>b7h (c.2 l hl),c.1⟩)
end Go.Proofs.YtgplhbhfdgempaaGreat
