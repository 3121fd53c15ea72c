/-
  Lemmas for the theorem vrelative28_holds, part 30 of 35.
-/
import Derived.Test.YtbkocjmmbkifjaaGreatQr29
namespace Go.Proofs.YtbkocjmmbkifjaaGreat
open Go Go.RowKit
set_option maxRecDepth 100000
set_option maxHeartbeats 4000000
set_option linter.unusedVariables false
set_option linter.unusedSimpArgs false
theorem JE (x y:Rat):zO x y=0↔x=y:=by
 unfold zO;by_cases h1:x<y
 ·rw[dn h1];exact⟨fun h=>by simp at h,fun h=>by rw[h] at h1;exact absurd h1 Rat.lt_irrefl⟩
 ·rw[bn h1];by_cases h2:y<x
  ·rw[dn h2];exact⟨fun h=>by simp at h,fun h=>by rw[h] at h2;exact absurd h2 Rat.lt_irrefl⟩
  ·rw[bn h2];exact⟨fun _=>Rat.le_antisymm (Rat.not_lt.1 h2) (Rat.not_lt.1 h1),fun _=>rfl⟩
noncomputable def c7F:Ctr:=⟨[tQ,tQ],[tB],fun x=>s44 x.1 x.2.1,fun x=>(decide ((show Rat from x.1)=(show Rat from x.2.1)),())⟩
theorem b5s:aJ Tryz.prog 171 c7F:=by
 refine aN (nil0.ad a0R) ⟨[],[],[]⟩ Tryz.func171 rfl (by decide) (fun x=>[]) (fun x hp=>?_);obtain⟨x,y,u⟩:=x;change Rat at x;change Rat at y;refine aP ((s44 x y/\True)/\True/\(zO x y==0)=decide (x=y)/\True) (by kernel_rfl) ?_;try simp only[zP0]
 try dsimp only[aB,asT,aA,aC,Ty.den,Lf.den] at *
 try simp only[zP1]
 try simp only[zP2]
 refine⟨hp,?_⟩;by_cases h:x=y
 ·rw[jg h,(JE _ _).2 h];rfl
 ·rw[iy h,Af];exact fun e=>h ((JE _ _).1 e)
def b9y (x y:LQ'):Prop:=x.length<=1000/\y.length<=1000/\(∀ q ∈ x,rsz q<=400000000)/\∀ q ∈ y,rsz q<=400000000
noncomputable def c7E:Ctr:=⟨[.list tQ,.list tQ,.clo 171 .unit],[tB],fun x=>b9y x.1 x.2.1,fun x=>(decide ((show LQ' from x.1)=(show LQ' from x.2.1)),())⟩
theorem b5q:aJ Tryz.prog 170 c7E:=by
 refine aN (nil0.ad b5s) ⟨[8,9],[],[]⟩ Tryz.func170 rfl (by decide) (fun x=>[.inv {k:Nat // k<=(show LQ' from x.1).length/\(show LQ' from x.1).take k=(show LQ' from x.2.1).take k} (fun k=>[(17,.val tI (k.1:Int))]) (fun k=>[]) (fun k=>(show LQ' from x.1).length-k.1) ⟨0,by omega,rfl⟩ (fun _=>[])]) (fun x hp=>?_);obtain⟨x,y,c,u⟩:=x;change List Rat at x;change List Rat at y;change Unit at c;refine aP (ifB (aB x.length != aB y.length) (True/\false=decide (x=y)/\True) ((asT Int 0=0/\True)/\∀ (i:{ k:Nat // k<=List.length x/\List.take k x=List.take k y }),asT Bool true=true/\ifB (decide (aB (aA i)<aB x.length)) ((0<=aB (aA i)/\aB (aA i)<aB x.length/\True)/\(0<=aB (aA i)/\aB (aA i)<aB y.length/\True)/\(s44 (List.getD x (aB (aA i)).toNat 0) (List.getD y (aB (aA i)).toNat 0)/\True)/\ifB (!decide (List.getD x (aB (aA i)).toNat 0=List.getD y (aB (aA i)).toNat 0)) (True/\false=decide (x=y)/\True) (∃ (i':{ k:Nat // k<=List.length x/\List.take k x=List.take k y }),List.length x-aA i'<List.length x-aA i/\IntKind.wrap IntKind.i64 (aB (aA i)+1)=aB (aA i')/\True)) (True/\true=decide (x=y)/\True))) (by kernel_rfl) ?_;try simp only[zP0]
 try dsimp only[aB,asT,aA,aC,Ty.den,Lf.den] at *
 try simp only[zP1]
 try simp only[zP2]
 obtain⟨q1,q2,q3,q4⟩:b9y x y:=hp;refine⟨fun h=>(iy fun e=>h (by rw[e])).symm,fun h i=>⟨fun h1=>⟨⟨by omega,h1⟩,⟨by omega,by omega⟩,⟨cO q3 (by omega),cO q4 (by omega)⟩,fun h2=>(iy fun e=>uj h2 (qw (fun l:List Rat=>l.getD i.1 0) e)).symm,fun h2=>⟨⟨i.1+1,by omega,?_⟩,by simp only;omega,by rw[aG (by omega) (by omega)];rfl⟩⟩,fun h1=>?_⟩⟩
 ·exact a5s (d:=0) (by omega) (by omega) i.2.2 (qj h2)
 ·have h3:=i.2.2;rw[jf (by omega),jf (by omega)] at h3;exact(jg h3).symm
noncomputable def c5t:Ctr:=⟨[tM,tQ],[tM,tI],fun x=>okM x.1/\rsz x.2.1<=400000000,fun x=>(stk (show MQ from x.1).length (nV x.1 x.2.1),(0:Int),())⟩
theorem b3C:aJ Tryz.prog 92 c5t:=jF a3G fun x _=>qw (fun y:MQ=>(y,(0:Int),())) (OB _ _).symm
theorem BR {K L:Nat} {x y:MQ} (hx:m33 K x) (hy:m33 L y):m33 (3*(K+L+1)+1) (mulM x y):=by have hm:=hx.1.mul hy.1;refine⟨hm,fun i hi j hj=>?_⟩;rw[hm.len] at hi;rw[hm.wd] at hj;unfold mulM;rw[hx.1.len,hy.1.wd,hy.1.len,eF hi hj];exact OA (K:=K+L) 3 fun k hk=>by have a:=hx.2 i (by rw[hx.1.len];exact hi) k (by rw[hx.1.wd];exact hk);have b:=hy.2 k (by rw[hy.1.len];exact hk) j (by rw[hy.1.wd];exact hj);have:=fC (ent x i k) (ent y k j);omega
theorem ZX {K J:Nat} {x:MQ} {k:Rat} (hx:m33 K x) (hk:rsz k<=J):m33 (J+K) (nV x k):=by
 have hm:isM (nV x k) 3 3:=by unfold nV;rw[hx.1.len,hx.1.wd];exact i33
 refine⟨hm,fun i hi j hj=>?_⟩;rw[hm.len] at hi;rw[hm.wd] at hj;unfold nV;rw[hx.1.len,hx.1.wd,eF hi hj];have a:=hx.2 i (by rw[hx.1.len];exact hi) j (by rw[hx.1.wd];exact hj);have:=fC k (ent x i j);omega
theorem a7l {K:Nat} {x y:MQ} (hK:K<=1000) (hx:m33 K x) (hy:m33 K y):tJ x [y]:=⟨by show 1<=1000;omega,fun n hn=>by
 rw[mg] at hn;subst hn;exact hy.mono (by omega),fun k hk=>by
 have hk:k<=1:=hk;have e:k=0\/k=1:=by omega
 rcases e with rfl|rfl<;>simp only[List.take_zero,List.take_succ_cons,xX,vO]
 ·exact hx.mono (by omega)
 ·exact(BR hx hy).mono (by omega)⟩
theorem UH {K:Nat} {F:MQ} (h:m33 K F):(List.map (fun xs=>List.map (fun q=>dK q) xs) F).length<=1000/\∀ r ∈ List.map (fun xs=>List.map (fun q=>dK q) xs) F,r.length<=1000:=⟨by rw[ny,h.1.len];omega,fun r hr=>by
 obtain⟨x,hx,rfl⟩:=jq.1 hr;rw[ny,h.1.2.1 x hx];omega⟩
theorem a1k (F:MQ):fV (fun(x:Ty.den (Ty.lf Lf.fO))=>dH [aI.ok x=true]) (List.map (fun xs=>List.map (fun q=>dK q) xs) F).flatten:=iW.mpr fun q hq=>by obtain⟨r,hr,hq⟩:=Df.1 hq;obtain⟨x,_,rfl⟩:=jq.1 hr;obtain⟨y,_,rfl⟩:=jq.1 hq;exact⟨rfl,trivial⟩
theorem VU {K:Nat} {x:MQ} (hx:m33 K x):rsz (trQ x)<=3*K+2:=by have a:∀ i,i<3->rsz (ent x i i)<=K:=fun i hi=>hx.2 i (by rw[hx.1.len];exact hi) i (by rw[hx.1.wd];exact hi);have a0:=a 0 (by omega);have a1:=a 1 (by omega);have a2:=a 2 (by omega);have b:=oD (ent x 1 1) (ent x 2 2);have c:=oD (ent x 0 0) (ent x 1 1+ent x 2 2);unfold trQ;omega
theorem CZ (x y:Rat):rsz (x-y)<=rsz x+rsz y+1:=by have:=oD x (-y);rw[rU] at this;rw[Rat.sub_eq_add_neg];exact this
theorem a5Y {K:Nat} {x:MQ} (hx:m33 K x):rsz (jV (ent x))<=15*K+5:=by
 have a:∀ i j,i<3->j<3->rsz (ent x i j)<=K:=fun i j hi hj=>hx.2 i (by rw[hx.1.len];exact hi) j (by rw[hx.1.wd];exact hj);have two:∀ p q r s:Rat,rsz p<=K->rsz q<=K->rsz r<=K->rsz s<=K->rsz (p*q-r*s)<=4*K+1:=fun p q r s h1 h2 h3 h4=>by have:=fC p q;have:=fC r s;have:=CZ (p*q) (r*s);omega
 have t0:=two _ _ _ _ (a 1 1 (by omega) (by omega)) (a 2 2 (by omega) (by omega)) (a 1 2 (by omega) (by omega)) (a 2 1 (by omega) (by omega));have t1:=two _ _ _ _ (a 1 0 (by omega) (by omega)) (a 2 2 (by omega) (by omega)) (a 1 2 (by omega) (by omega)) (a 2 0 (by omega) (by omega));have t2:=two _ _ _ _ (a 1 0 (by omega) (by omega)) (a 2 1 (by omega) (by omega)) (a 1 1 (by omega) (by omega)) (a 2 0 (by omega) (by omega));have a0:=a 0 0 (by omega) (by omega);have a1:=a 0 1 (by omega) (by omega);have a2:=a 0 2 (by omega) (by omega);unfold jV;generalize ent x 1 1*ent x 2 2-ent x 1 2*ent x 2 1=u0 at *
 generalize ent x 1 0*ent x 2 2-ent x 1 2*ent x 2 0=u1 at *
 generalize ent x 1 0*ent x 2 1-ent x 1 1*ent x 2 0=u2 at *
 have m0:=fC (ent x 0 0) u0;have m1:=fC (ent x 0 1) u1;have m2:=fC (ent x 0 2) u2;have s1:=CZ (ent x 0 0*u0) (ent x 0 1*u1);have s2:=oD (ent x 0 0*u0-ent x 0 1*u1) (ent x 0 2*u2);omega
def gM (e:MQ):MQ:=mulM e (trM e)
def TG (e:MQ):Bool:=decide (jV (ent e)=0)&&decide ((nV (mulM (gM e) e) (aH 2)).flatten=(nV e (trQ (gM e))).flatten)
noncomputable def c7H:Ctr:=⟨[tM],[tB],fun x=>m33 100 x.1,fun x=>(TG x.1,())⟩
theorem b5t:aJ Tryz.prog 85 c7H:=by
 refine aN (((((((((nil0.ad oG).ad tY).ad KU).ad LM).ad SN).ad b3C).ad VX).ad a2k).ad b5q) ⟨[8],[],[]⟩ Tryz.func85 rfl (by decide) (fun x=>[]) (fun x hp=>?_);obtain⟨e,u⟩:=x;change MQ at e;refine aP (let A₁:=(fun(xs:Ty.den (Ty.list (Ty.lf Lf.rat)))=>List.map (fun(x:Ty.den (Ty.lf Lf.rat))=>dK x) xs);let bI:=(fun(x:Ty.den (Ty.lf Lf.fO))=>aI.x x);let bH:=(fun(x:Ty.den (Ty.list (Ty.lf Lf.rat)))=>dH (fV (fun(x:Ty.den (Ty.lf Lf.rat))=>dH (aC Cd)) x::aC Cd));let fD:=(fun(x:Ty.den (Ty.lf Lf.fO))=>dH ((aI.ok x=true)::aC Cd));let gB:=(stk e.length (trM e)::aC (List (List Rat)));let A₂:=(stk e.length (iT e gB));let fB:=(stk e.length (nV e (trQ A₂)));let aO:=(List.map A₁ fB);let dG:=(stk aO.length (List.flatten aO));let fE:=(Rat.num (jV (ent e)));let bC:=((sgn fE==0)==true);let iU:=(e::aC (List (List Rat)));let A₀:=(stk A₂.length (iT A₂ iU));let bU:=(stk A₀.length (nV A₀ (aH 2)));let aK:=(List.map A₁ bU);let cZ:=(stk aK.length (List.flatten aK));(okM e/\tJ e gB/\True)/\(tJ A₂ iU/\aV 2/\(okM A₀/\rsz (aH 2)<=400000000)/\True)/\(m33 1000000 A₂/\(okM e/\rsz (trQ A₂)<=400000000)/\True)/\(m33 150000 e/\True)/\(rsz (jV (ent e))<=1000000000/\(bC=true->bC=true/\fV bH bU/\(List.length aK<=1000/\∀ (r:List aI),r ∈ List.map A₁ bU->List.length r<=1000)/\True)/\(bC=true->bC=true/\fV bH fB/\(List.length aO<=1000/\∀ (r:List aI),r ∈ List.map A₁ fB->List.length r<=1000)/\True)/\(bC=true->bC=true/\bC=true/\fV fD cZ/\fV fD dG/\b9y (List.map bI cZ) (List.map bI dG)/\True)/\((sgn fE==0)=true->bC=true)/\True)/\True/\(bif sgn fE==0 then decide (List.map bI cZ=List.map bI dG) else false)=TG e/\True) (by kernel_rfl) ?_;try simp only[zP0]
 try dsimp only[aB,asT,aA,aC,Ty.den,Lf.den] at *
 try simp only[zP1]
 try simp only[zP2]
 simp only[OB];have he:m33 100 e:=hp;have ht:m33 100 (trM e):=he.tr;have hg:m33 700 (gM e):=(BR he ht).mono (by omega);have hge:m33 3000 (mulM (gM e) e):=(BR hg he).mono (by omega);have s1:rsz (aH 2)<=10:=by decide +kernel
 have tq:rsz (trQ (gM e))<=3000:=au (VU hg) (by omega);have A:=(ZX hge s1).mono (show 10+3000<=10000 by omega);have B:=(ZX he tq).mono (show 3000+100<=10000 by omega);have dz:rsz (jV (ent e))<=1000000000:=au (a5Y he) (by omega);have p1:tJ e [trM e]:=a7l (by omega) he ht;have p2:tJ (gM e) [e]:=a7l (by omega) hg (he.mono (by omega));have b1:iT e [trM e]=gM e:=rfl;have b2:iT (gM e) [e]=mulM (gM e) e:=rfl;rw[b1,b2,oW,oW];have o1:=(he.mono (show 100<=1000000 by omega)).ok (aj _);have o2:=(hge.mono (show 3000<=1000000 by omega)).ok (aj _);have eb:TG e=(decide (jV (ent e)=0)&&decide ((nV (mulM (gM e) e) (aH 2)).flatten=(nV e (trQ (gM e))).flatten)):=rfl;rw[eb];have w2:aV 2:=by decide
 have hg':m33 1000000 (gM e):=hg.mono (by omega);have he':m33 150000 e:=he.mono (by omega);generalize nV (mulM (gM e) e) (aH 2)=C at *
 generalize nV e (trQ (gM e))=D at *
 generalize trQ (gM e)=t at *
 generalize mulM (gM e) e=G at *
 generalize gM e=H at *
 have ze:(sgn (jV (ent e)).num==0)=decide (jV (ent e)=0):=by
  by_cases h:jV (ent e)=0
  ·rw[jg h,(PG _).2 h];rfl
  ·rw[iy h,Af];exact fun k=>h ((PG _).1 k)
 rw[ze];refine⟨⟨o1.1,p1⟩,⟨p2,w2,o2.1,by omega⟩,⟨hg',o1.1,by omega⟩,he',⟨dz,fun h=>⟨h,iW.mpr fun x _=>⟨iW.mpr fun _ _=>trivial,trivial⟩,UH A⟩,fun h=>⟨h,iW.mpr fun x _=>⟨iW.mpr fun _ _=>trivial,trivial⟩,UH B⟩,fun h=>⟨h,h,a1k _,a1k _,?_⟩⟩,rfl⟩;exact⟨by rw[A.flat.1];omega,by rw[B.flat.1];omega,fun q hq=>au (A.flat.2 q hq) (by omega),fun q hq=>au (B.flat.2 q hq) (by omega)⟩
abbrev QcV:Type:=aT × Int × Unit
def okB (n:Int):Bool:=decide (-1048576<=n/\n<=1048576)
def ok4 (X:Nat->Int):Bool:=(List.range 4).all fun j=>okB (prN X 4 j)
def dM (X:Nat->Int):QcV:=if ok4 X=true then ((prN X 4 0,prN X 4 1,prN X 4 2,prN X 4 3,()),0,()) else ((0,0,0,0,()),3,())
theorem KP {X:Nat->Int}:ok4 X=true↔∀ j,j<4->okB (prN X 4 j)=true:=by unfold ok4;rw[zh];simp
theorem bad_eq (q:Int):(bif (bif !bT q then true else decide (aQ q < -1048576)) then true else decide (aQ q > 1048576))=!okB q:=by
 unfold okB;by_cases h:-1048576<=q/\q<=1048576
 ·have e1:bT q=true:=by unfold bT;rw[jc];omega
  have e2:aQ q=q:=by unfold aQ;rw[dn (by omega)]
  have a1:decide (q < -1048576)=false:=iy (by omega);have a2:decide (q > 1048576)=false:=iy (by omega);rw[e1,e2,a1,a2,jg h];rfl
 ·by_cases hs:bT q=true
  ·have hs':=hs;unfold bT at hs';rw[jc] at hs';have e2:aQ q=q:=by unfold aQ;rw[dn hs']
   have h3:q < -1048576\/q > 1048576:=by omega
   rw[hs,e2,iy h];rcases h3 with h3|h3
   ·rw[jg h3];rfl
   ·rw[jg h3];cases decide (q < -1048576)<;>rfl
  ·have hs:=Bool.not_eq_true _ |>.mp hs
   rw[hs,iy h];rfl
theorem vK {q:Int} (h:okB q=true):aQ q=q:=by unfold okB at h;rw[jc] at h;unfold aQ;rw[dn (by omega)]
theorem a4Q {X Y:Nat->Int} (h:∀ k,k<4->X k=Y k):dM X=dM Y:=by
 have hn:∀ k,k<4->prN X 4 k=prN Y 4 k:=fun k hk=>a3u (n:=4) (j:=k) (xs:=Y) (ys:=X) (fun j hj=>h j hj) hk;have ho:ok4 X=ok4 Y:=by unfold ok4;simp[wz,hn 0,hn 1,hn 2,hn 3]
 unfold dM;rw[ho,hn 0 (by omega),hn 1 (by omega),hn 2 (by omega),hn 3 (by omega)]
noncomputable def c8e:Ctr:=⟨[.arr 4 tZ],[jD,tI],fun x=>(show List Int from x.1).length=4/\(∀ j,j<4->isz ((show List Int from x.1).getD j 0)<=400000000)/\∃ j,j<4/\(show List Int from x.1).getD j 0≠0,fun x=>dM (fun j=>(show List Int from x.1).getD j 0)⟩
theorem b6P:aJ Tryz.prog 258 c8e:=by
 refine aN (((((nil0.ad BF).ad vJ).ad qC).ad c4s).ad BA) ⟨[2,4,5,7,8,10,11,12],[],[]⟩ Tryz.func258 rfl (by decide) (fun x=>[.inv {k:Nat // k<=4} (fun k=>[(17,.val tI (k.1:Int))]) (fun k=>[(2,.box [⟨tI,(0:Int)⟩,⟨tI,(0:Int)⟩,⟨tI,(0:Int)⟩,⟨tI,(0:Int)⟩]),(4,.box [⟨tZ,gsq (fun j=>(show List Int from x.1).getD j 0) k.1⟩]),(5,.box [⟨tZ,fsq (fun j=>(show List Int from x.1).getD j 0) k.1⟩])]) (fun k=>4-k.1) ⟨0,by omega⟩ (fun _=>[]),.turns 5 [34] [2,4,5,8] []]) (fun x hp=>?_);obtain⟨l,u⟩:=x;change List Int at l;refine aP (let A₀:=(fun(j:Nat)=>List.getD l j 0);let A₂:=(dM fun(j:Nat)=>List.getD l j 0);let A₁:=(True/\(0,0,0,0,())=Prod.fst A₂/\True/\3=Prod.fst A₂.2/\True);let aK:=(asT Int 0<=0/\asT Int 0<4/\True);let aO:=(asT Int 0<=1/\asT Int 1<4/\True);let bC:=(asT Int 0<=2/\asT Int 2<4/\True);let bI:=(asT Int 0<=3/\asT Int 3<4/\True);(asT Int 0=0/\asT Int 0=0/\asT Int 0=0/\asT Int 0=0/\asT Int 0=0/\0=gsq A₀ 0/\0=fsq A₀ 0/\True)/\∀ (i:{ k:Nat // k<=4 }),let bH:=(Int.fdiv (List.getD l 0 0) (-gsq A₀ (aA i)));let bU:=(Int.fdiv (List.getD l 0 0) (gsq A₀ (aA i)));let cZ:=(Int.fdiv (List.getD l 1 0) (-gsq A₀ (aA i)));let dG:=(Int.fdiv (List.getD l 1 0) (gsq A₀ (aA i)));let fB:=(Int.fdiv (List.getD l 2 0) (-gsq A₀ (aA i)));let fD:=(Int.fdiv (List.getD l 2 0) (gsq A₀ (aA i)));let gB:=(Int.fdiv (List.getD l 3 0) (-gsq A₀ (aA i)));let fE:=(Int.fdiv (List.getD l 3 0) (gsq A₀ (aA i)));let iU:=(bif !bT bH then true else decide (aQ bH < -1048576));let jZ:=(bif !bT cZ then true else decide (aQ cZ < -1048576));let lM:=(bif !bT fB then true else decide (aQ fB < -1048576));let gQ:=(bif !bT gB then true else decide (aQ gB < -1048576));let oH:=(bif !bT bU then true else decide (aQ bU < -1048576));let oI:=(bif !bT dG then true else decide (aQ dG < -1048576));let C₁:=(bif !bT fD then true else decide (aQ fD < -1048576));let C₂:=(bif !bT fE then true else decide (aQ fE < -1048576));let C₃:=(List.getD l (aB (aA i)).toNat 0);let kC:=((!bT bH)==false);let iE:=((!bT cZ)==false);let nH:=((!bT fB)==false);let rW:=((!bT gB)==false);let uU:=((!bT bU)==false);let zN:=((!bT dG)==false);let rX:=((!bT fD)==false);let D₁:=((!bT fE)==false);let D₂:=(Int.gcd (gsq A₀ (aA i)) C₃);asT Bool true=true/\ifB (decide (aB (aA i)<4)) ((0<=aB (aA i)/\aB (aA i)<4/\True)/\((isz (gsq A₀ (aA i))<=1000000000/\isz C₃<=1000000000)/\True)/\(True/\True)/\ifB (Int.sign (fsq A₀ (aA i))==0) (∃ (i':{ k:Nat // k<=4 }),4-aA i'<4-aA i/\IntKind.wrap IntKind.i64 (aB (aA i)+1)=aB (aA i')/\asT Int 0=0/\asT Int 0=0/\asT Int 0=0/\asT Int 0=0/\aB D₂=gsq A₀ (aA i')/\List.getD l (aB (aA i)).toNat 0=fsq A₀ (aA i')/\True) (∃ (i':{ k:Nat // k<=4 }),4-aA i'<4-aA i/\IntKind.wrap IntKind.i64 (aB (aA i)+1)=aB (aA i')/\asT Int 0=0/\asT Int 0=0/\asT Int 0=0/\asT Int 0=0/\aB D₂=gsq A₀ (aA i')/\fsq A₀ (aA i)=fsq A₀ (aA i')/\True)) ((True/\True)/\ifB (decide (Int.sign (fsq A₀ (aA i))<0)) ((isz (gsq A₀ (aA i))<=1000000000/\True)/\aK/\((isz (List.getD l 0 0)<=1000000000/\isz (-gsq A₀ (aA i))<=1000000000/\-gsq A₀ (aA i)≠0)/\True)/\(True/\True)/\((kC=true->kC=true/\True)/\((!bT bH)=false->kC=true)/\((iU==false)=true->(iU==false)=true/\True)/\(iU=false->(iU==false)=true)/\True)/\ifB (bif bif !bT bH then true else decide (aQ bH < -1048576) then true else decide (aQ bH > 1048576)) A₁ ((asT Int 0=0/\asT Int 0=0/\asT Int 0=0/\asT Int 0=0/\-gsq A₀ (aA i)=-gsq A₀ (aA i)/\fsq A₀ (aA i)=fsq A₀ (aA i)/\aQ bH=aQ bH/\asT Int 0=0/\asT Int 0=0/\asT Int 0=0/\True)/\asT Bool true=true/\aO/\((isz (List.getD l 1 0)<=1000000000/\isz (-gsq A₀ (aA i))<=1000000000/\-gsq A₀ (aA i)≠0)/\True)/\(True/\True)/\((iE=true->iE=true/\True)/\((!bT cZ)=false->iE=true)/\((jZ==false)=true->(jZ==false)=true/\True)/\(jZ=false->(jZ==false)=true)/\True)/\ifB (bif bif !bT cZ then true else decide (aQ cZ < -1048576) then true else decide (aQ cZ > 1048576)) A₁ ((asT Int 0=0/\asT Int 0=0/\asT Int 0=0/\asT Int 0=0/\-gsq A₀ (aA i)=-gsq A₀ (aA i)/\fsq A₀ (aA i)=fsq A₀ (aA i)/\aQ bH=aQ bH/\aQ cZ=aQ cZ/\asT Int 0=0/\asT Int 0=0/\True)/\asT Bool true=true/\bC/\((isz (List.getD l 2 0)<=1000000000/\isz (-gsq A₀ (aA i))<=1000000000/\-gsq A₀ (aA i)≠0)/\True)/\(True/\True)/\((nH=true->nH=true/\True)/\((!bT fB)=false->nH=true)/\((lM==false)=true->(lM==false)=true/\True)/\(lM=false->(lM==false)=true)/\True)/\ifB (bif bif !bT fB then true else decide (aQ fB < -1048576) then true else decide (aQ fB > 1048576)) A₁ ((asT Int 0=0/\asT Int 0=0/\asT Int 0=0/\asT Int 0=0/\-gsq A₀ (aA i)=-gsq A₀ (aA i)/\fsq A₀ (aA i)=fsq A₀ (aA i)/\aQ bH=aQ bH/\aQ cZ=aQ cZ/\aQ fB=aQ fB/\asT Int 0=0/\True)/\asT Bool true=true/\bI/\((isz (List.getD l 3 0)<=1000000000/\isz (-gsq A₀ (aA i))<=1000000000/\-gsq A₀ (aA i)≠0)/\True)/\(True/\True)/\((rW=true->rW=true/\True)/\((!bT gB)=false->rW=true)/\((gQ==false)=true->(gQ==false)=true/\True)/\(gQ=false->(gQ==false)=true)/\True)/\ifB (bif bif !bT gB then true else decide (aQ gB < -1048576) then true else decide (aQ gB > 1048576)) A₁ ((asT Int 0=0/\asT Int 0=0/\asT Int 0=0/\asT Int 0=0/\-gsq A₀ (aA i)=-gsq A₀ (aA i)/\fsq A₀ (aA i)=fsq A₀ (aA i)/\aQ bH=aQ bH/\aQ cZ=aQ cZ/\aQ fB=aQ fB/\aQ gB=aQ gB/\True)/\asT Bool true=true/\True/\(aQ bH,aQ cZ,aQ fB,aQ gB,())=Prod.fst A₂/\True/\0=Prod.fst A₂.2/\True))))) (aK/\((isz (List.getD l 0 0)<=1000000000/\isz (gsq A₀ (aA i))<=1000000000/\gsq A₀ (aA i)≠0)/\True)/\(True/\True)/\((uU=true->uU=true/\True)/\((!bT bU)=false->uU=true)/\((oH==false)=true->(oH==false)=true/\True)/\(oH=false->(oH==false)=true)/\True)/\ifB (bif bif !bT bU then true else decide (aQ bU < -1048576) then true else decide (aQ bU > 1048576)) A₁ ((asT Int 0=0/\asT Int 0=0/\asT Int 0=0/\asT Int 0=0/\gsq A₀ (aA i)=gsq A₀ (aA i)/\fsq A₀ (aA i)=fsq A₀ (aA i)/\aQ bU=aQ bU/\asT Int 0=0/\asT Int 0=0/\asT Int 0=0/\True)/\asT Bool true=true/\aO/\((isz (List.getD l 1 0)<=1000000000/\isz (gsq A₀ (aA i))<=1000000000/\gsq A₀ (aA i)≠0)/\True)/\(True/\True)/\((zN=true->zN=true/\True)/\((!bT dG)=false->zN=true)/\((oI==false)=true->(oI==false)=true/\True)/\(oI=false->(oI==false)=true)/\True)/\ifB (bif bif !bT dG then true else decide (aQ dG < -1048576) then true else decide (aQ dG > 1048576)) A₁ ((asT Int 0=0/\asT Int 0=0/\asT Int 0=0/\asT Int 0=0/\gsq A₀ (aA i)=gsq A₀ (aA i)/\fsq A₀ (aA i)=fsq A₀ (aA i)/\aQ bU=aQ bU/\aQ dG=aQ dG/\asT Int 0=0/\asT Int 0=0/\True)/\asT Bool true=true/\bC/\((isz (List.getD l 2 0)<=1000000000/\isz (gsq A₀ (aA i))<=1000000000/\gsq A₀ (aA i)≠0)/\True)/\(True/\True)/\((rX=true->rX=true/\True)/\((!bT fD)=false->rX=true)/\((C₁==false)=true->(C₁==false)=true/\True)/\(C₁=false->(C₁==false)=true)/\True)/\ifB (bif bif !bT fD then true else decide (aQ fD < -1048576) then true else decide (aQ fD > 1048576)) A₁ ((asT Int 0=0/\asT Int 0=0/\asT Int 0=0/\asT Int 0=0/\gsq A₀ (aA i)=gsq A₀ (aA i)/\fsq A₀ (aA i)=fsq A₀ (aA i)/\aQ bU=aQ bU/\aQ dG=aQ dG/\aQ fD=aQ fD/\asT Int 0=0/\True)/\asT Bool true=true/\bI/\((isz (List.getD l 3 0)<=1000000000/\isz (gsq A₀ (aA i))<=1000000000/\gsq A₀ (aA i)≠0)/\True)/\(True/\True)/\((D₁=true->D₁=true/\True)/\((!bT fE)=false->D₁=true)/\((C₂==false)=true->(C₂==false)=true/\True)/\(C₂=false->(C₂==false)=true)/\True)/\ifB (bif bif !bT fE then true else decide (aQ fE < -1048576) then true else decide (aQ fE > 1048576)) A₁ ((asT Int 0=0/\asT Int 0=0/\asT Int 0=0/\asT Int 0=0/\gsq A₀ (aA i)=gsq A₀ (aA i)/\fsq A₀ (aA i)=fsq A₀ (aA i)/\aQ bU=aQ bU/\aQ dG=aQ dG/\aQ fD=aQ fD/\aQ fE=aQ fE/\True)/\asT Bool true=true/\True/\(aQ bU,aQ dG,aQ fD,aQ fE,())=Prod.fst A₂/\True/\0=Prod.fst A₂.2/\True))))))) (by kernel_rfl) ?_;simp only[bad_eq];try simp only[zP0]
 try dsimp only[aB,asT,aA,aC,Ty.den,Lf.den] at *
 try simp only[zP1]
 try simp only[zP2]
 obtain⟨hl,hb,hn⟩:l.length=4/\(∀ j,j<4->isz (l.getD j 0)<=400000000)/\∃ j,j<4/\l.getD j 0≠0:=hp;have hx:∀ j,l.getD j 0=(fun j=>l.getD j 0) j:=fun _=>rfl;have h0:=hx 0;have h1:=hx 1;have h2:=hx 2;have h3:=hx 3;generalize hX:(fun j=>l.getD j 0)=X at *
 have hb:∀ j,j<4->isz (X j)<=400000000:=fun j hj=>by rw[<-hx];exact hb j hj
 have hn:∃ j,j<4/\X j≠0:=by obtain⟨j,h1,h2⟩:=hn;exact⟨j,h1,by rw[<-hx];exact h2⟩
 simp only[h0,h1,h2,h3,hx];have gs:∀ k,k<=4->isz (gsq X k)<=1000000000:=fun k hk=>au (EL (K:=400000000) k (fun j hj=>hb j (by omega))) (by omega);have xs:∀ j,j<4->isz (X j)<=1000000000:=fun j hj=>au (hb j hj) (by omega);refine⟨⟨rfl,rfl⟩,fun i=>⟨fun h1=>?_,fun h1=>?_⟩⟩
 ·have hi:=i.2;refine⟨⟨by omega,by omega⟩,⟨gs _ hi,xs _ (by omega)⟩,fun h2=>⟨⟨i.1+1,by omega⟩,by simp only;omega,?_,rfl,?_⟩,fun h2=>⟨⟨i.1+1,by omega⟩,by simp only;omega,?_,rfl,?_⟩⟩
  ·rw[aG (by omega) (by omega)];rfl
  ·rw[wu] at h2;simp only[fsq,dn h2]
  ·rw[aG (by omega) (by omega)];rfl
  ·rw[wu] at h2;simp only[fsq,bn h2]
 ·have hi:=i.2;have hi:i.1=4:=by omega
  rw[hi];have g0:prG X 4≠0:=by obtain⟨j,h1,h2⟩:=hn;exact CG h1 h2
  have tl:∀ G,prG X 4=G->(∀ j,j<4->okB ((X j).fdiv G)=false->(0,0,0,0,())=(dM X).1/\3=(dM X).2.1)/\(okB ((X 0).fdiv G)=true->okB ((X 1).fdiv G)=true->okB ((X 2).fdiv G)=true->okB ((X 3).fdiv G)=true->(aQ ((X 0).fdiv G),aQ ((X 1).fdiv G),aQ ((X 2).fdiv G),aQ ((X 3).fdiv G),())=(dM X).1/\0=(dM X).2.1):=by
   rintro G rfl;refine⟨fun j hj h=>?_,fun k0 k1 k2 k3=>?_⟩
   ·have:dM X=((0,0,0,0,()),3,()):=bn (fun e=>by have:=KP.1 e j hj;exact Bool.false_ne_true (h.symm.trans this));rw[this];exact⟨rfl,rfl⟩
   ·have:dM X=((prN X 4 0,prN X 4 1,prN X 4 2,prN X 4 3,()),0,()):=dn (KP.2 fun j hj=>by
     match j,hj with
     | 0,_=>exact k0
     | 1,_=>exact k1
     | 2,_=>exact k2
     | 3,_=>exact k3)
    rw[this,vK k0,vK k1,vK k2,vK k3];exact⟨rfl,rfl⟩
  have g4:=gs 4 (by omega);refine⟨fun h2=>?_,fun h2=>?_⟩
  ·rw[Cm] at h2;have hG:prG X 4=-gsq X 4:=dn h2;have g5:isz (-gsq X 4)<=1000000000:=by rw[kR];exact g4
   obtain⟨no,yes⟩:=tl _ hG;rw[hG] at g0;exact⟨g4,⟨by omega,by omega⟩,⟨xs 0 (by omega),g5,g0⟩,no 0 (by omega),fun k0=>⟨⟨by omega,by omega⟩,⟨xs 1 (by omega),g5,g0⟩,no 1 (by omega),fun k1=>⟨⟨by omega,by omega⟩,⟨xs 2 (by omega),g5,g0⟩,no 2 (by omega),fun k2=>⟨⟨by omega,by omega⟩,⟨xs 3 (by omega),g5,g0⟩,no 3 (by omega),fun k3=>yes k0 k1 k2 k3⟩⟩⟩⟩
  ·rw[Cm] at h2;have hG:prG X 4=gsq X 4:=bn h2;obtain⟨no,yes⟩:=tl _ hG;rw[hG] at g0;exact⟨⟨by omega,by omega⟩,⟨xs 0 (by omega),g4,g0⟩,no 0 (by omega),fun k0=>⟨⟨by omega,by omega⟩,⟨xs 1 (by omega),g4,g0⟩,no 1 (by omega),fun k1=>⟨⟨by omega,by omega⟩,⟨xs 2 (by omega),g4,g0⟩,no 2 (by omega),fun k2=>⟨⟨by omega,by omega⟩,⟨xs 3 (by omega),g4,g0⟩,no 3 (by omega),fun k3=>yes k0 k1 k2 k3⟩⟩⟩⟩
def nzB (q:Nat->Rat):Bool:=(List.range 4).any fun j=>decide (q j≠0)
theorem yQ {q:Nat->Rat}:nzB q=true↔∃ j,j<4/\q j≠0:=by unfold nzB;rw[yx];simp
noncomputable def cNz:Ctr:=⟨[.arr 4 tQ],[tB],fun x=>(show LQ' from x.1).length=4/\∀ j,j<4->rsz ((show LQ' from x.1).getD j 0)<=400000000,fun x=>(nzB (fun j=>(show LQ' from x.1).getD j 0),())⟩
theorem b6l:aJ Tryz.prog 197 cNz:=by
 refine aN (nil0.ad tY) ⟨[4],[],[]⟩ Tryz.func197 rfl (by decide) (fun x=>[.turns 5 [6] [] []]) (fun x hp=>?_);obtain⟨l,u⟩:=x;change List Rat at l;refine aP (let A₀:=(True/\(true=nzB fun(j:Nat)=>List.getD l j 0)/\True);(asT Int 0<=0/\asT Int 0<4/\True)/\(rsz (List.getD l 0 0)<=1000000000/\True)/\ifB (sgn (Rat.num (List.getD l 0 0)) != 0) A₀ (True/\asT Bool true=true/\(asT Int 0<=1/\asT Int 1<4/\True)/\(rsz (List.getD l 1 0)<=1000000000/\True)/\ifB (sgn (Rat.num (List.getD l 1 0)) != 0) A₀ (True/\asT Bool true=true/\(asT Int 0<=2/\asT Int 2<4/\True)/\(rsz (List.getD l 2 0)<=1000000000/\True)/\ifB (sgn (Rat.num (List.getD l 2 0)) != 0) A₀ (True/\asT Bool true=true/\(asT Int 0<=3/\asT Int 3<4/\True)/\(rsz (List.getD l 3 0)<=1000000000/\True)/\ifB (sgn (Rat.num (List.getD l 3 0)) != 0) A₀ (True/\asT Bool true=true/\True/\(false=nzB fun(j:Nat)=>List.getD l j 0)/\True))))) (by kernel_rfl) ?_;try simp only[zP0]
 try dsimp only[aB,asT,aA,aC,Ty.den,Lf.den] at *
 try simp only[zP1]
 try simp only[zP2]
 obtain⟨hl,hb⟩:l.length=4/\∀ j,j<4->rsz (l.getD j 0)<=400000000:=hp;have r:∀ j,j<4->rsz (l.getD j 0)<=1000000000:=fun j hj=>au (hb j hj) (by omega);have y:∀ j,j<4->¬ sgn (l.getD j 0).num=0->true=nzB fun j=>l.getD j 0:=fun j hj h=>(yQ.2 ⟨j,hj,fun e=>h ((PG _).2 e)⟩).symm;exact⟨⟨by omega,by omega⟩,r 0 (by omega),fun h=>y 0 (by omega) h,fun h0=>⟨⟨by omega,by omega⟩,r 1 (by omega),fun h=>y 1 (by omega) h,fun h1=>⟨⟨by omega,by omega⟩,r 2 (by omega),fun h=>y 2 (by omega) h,fun h2=>⟨⟨by omega,by omega⟩,r 3 (by omega),fun h=>y 3 (by omega) h,fun h3=>by
  symm;rw[<-Bool.not_eq_true];intro e;obtain⟨j,hj,h⟩:=yQ.1 e
  match j,hj with
  | 0,_=>exact h ((PG _).1 h0)
  | 1,_=>exact h ((PG _).1 h1)
  | 2,_=>exact h ((PG _).1 h2)
  | 3,_=>exact h ((PG _).1 h3)⟩⟩⟩⟩
def clX (q:Nat->Rat) (j:Nat):Int:=a0M (dY q 4) q j
noncomputable def c7p:Ctr:=⟨[.arr 4 tQ],[jD,tI],fun x=>(show LQ' from x.1).length=4/\(∀ j,j<4->rsz ((show LQ' from x.1).getD j 0)<=50000000)/\∃ j,j<4/\(show LQ' from x.1).getD j 0≠0,fun x=>dM (clX (fun j=>(show LQ' from x.1).getD j 0))⟩
theorem b4M:aJ Tryz.prog 198 c7p:=by
 refine aN ((((nil0.ad PW).ad qB).ad BA).ad b6P) ⟨[2,4,6,7,9,10,11],[],[]⟩ Tryz.func198 rfl (by decide) (fun x=>[.inv {k:Nat // k<=4} (fun k=>[(15,.val tI (k.1:Int))]) (fun k=>[(2,.box [⟨tI,(0:Int)⟩,⟨tI,(0:Int)⟩,⟨tI,(0:Int)⟩,⟨tI,(0:Int)⟩]),(4,.box [⟨tZ,dY (fun j=>(show LQ' from x.1).getD j 0) k.1⟩])]) (fun k=>4-k.1) ⟨0,by omega⟩ (fun _=>[]),.turns 5 [24] [2,4,7] []]) (fun x hp=>?_);obtain⟨l,u⟩:=x;change List Rat at l;refine aP (let A₀:=(aB (Rat.den (List.getD l 0 0)));let A₁:=(aB (Rat.den (List.getD l 1 0)));let A₂:=(aB (Rat.den (List.getD l 2 0)));let aK:=(aB (Rat.den (List.getD l 3 0)));let aO:=(dM (clX fun(j:Nat)=>List.getD l j 0));(aV 1/\True)/\(asT Int 0=0/\asT Int 0=0/\asT Int 0=0/\asT Int 0=0/\asT Int 0=0/\1=dY (fun(j:Nat)=>List.getD l j 0) 0/\True)/\∀ (i:{ k:Nat // k<=4 }),let bC:=(dM fun(j:Nat)=>List.getD (Rat.num (List.getD l 0 0)*Int.fdiv (dY (fun(j:Nat)=>List.getD l j 0) (aA i)) A₀::Rat.num (List.getD l 1 0)*Int.fdiv (dY (fun(j:Nat)=>List.getD l j 0) (aA i)) A₁::Rat.num (List.getD l 2 0)*Int.fdiv (dY (fun(j:Nat)=>List.getD l j 0) (aA i)) A₂::Rat.num (List.getD l 3 0)*Int.fdiv (dY (fun(j:Nat)=>List.getD l j 0) (aA i)) aK::aC Int) j 0);let bI:=(Rat.den (List.getD l (aB (aA i)).toNat 0));let bH:=bC.1.2;asT Bool true=true/\ifB (decide (aB (aA i)<4)) ((0<=aB (aA i)/\aB (aA i)<4/\True)/\((isz (dY (fun(j:Nat)=>List.getD l j 0) (aA i))<=1000000000/\isz (aB bI)<=1000000000)/\True)/\∃ (i':{ k:Nat // k<=4 }),let bU:=(fun(j:Nat)=>List.getD l j 0);4-aA i'<4-aA i/\IntKind.wrap IntKind.i64 (aB (aA i)+1)=aB (aA i')/\asT Int 0=0/\asT Int 0=0/\asT Int 0=0/\asT Int 0=0/\dY bU (aA i)*aB bI=dY bU (aA i')/\True) ((asT Int 0<=0/\asT Int 0<4/\True)/\((isz (dY (fun(j:Nat)=>List.getD l j 0) (aA i))<=1000000000/\isz A₀<=1000000000/\aB (Rat.den (List.getD l 0 0))≠0)/\True)/\((isz (Rat.num (List.getD l 0 0))<=1000000000/\isz (Int.fdiv (dY (fun(j:Nat)=>List.getD l j 0) (aA i)) A₀)<=1000000000)/\True)/\(asT Int 0=0/\asT Int 0=0/\asT Int 0=0/\asT Int 0=0/\dY (fun(j:Nat)=>List.getD l j 0) (aA i)=dY (fun(j:Nat)=>List.getD l j 0) (aA i)/\Rat.num (List.getD l 0 0)*Int.fdiv (dY (fun(j:Nat)=>List.getD l j 0) (aA i)) A₀=Rat.num (List.getD l 0 0)*Int.fdiv (dY (fun(j:Nat)=>List.getD l j 0) (aA i)) A₀/\asT Int 0=0/\asT Int 0=0/\asT Int 0=0/\True)/\asT Bool true=true/\(asT Int 0<=1/\asT Int 1<4/\True)/\((isz (dY (fun(j:Nat)=>List.getD l j 0) (aA i))<=1000000000/\isz A₁<=1000000000/\aB (Rat.den (List.getD l 1 0))≠0)/\True)/\((isz (Rat.num (List.getD l 1 0))<=1000000000/\isz (Int.fdiv (dY (fun(j:Nat)=>List.getD l j 0) (aA i)) A₁)<=1000000000)/\True)/\(asT Int 0=0/\asT Int 0=0/\asT Int 0=0/\asT Int 0=0/\dY (fun(j:Nat)=>List.getD l j 0) (aA i)=dY (fun(j:Nat)=>List.getD l j 0) (aA i)/\Rat.num (List.getD l 0 0)*Int.fdiv (dY (fun(j:Nat)=>List.getD l j 0) (aA i)) A₀=Rat.num (List.getD l 0 0)*Int.fdiv (dY (fun(j:Nat)=>List.getD l j 0) (aA i)) A₀/\Rat.num (List.getD l 1 0)*Int.fdiv (dY (fun(j:Nat)=>List.getD l j 0) (aA i)) A₁=Rat.num (List.getD l 1 0)*Int.fdiv (dY (fun(j:Nat)=>List.getD l j 0) (aA i)) A₁/\asT Int 0=0/\asT Int 0=0/\True)/\asT Bool true=true/\(asT Int 0<=2/\asT Int 2<4/\True)/\((isz (dY (fun(j:Nat)=>List.getD l j 0) (aA i))<=1000000000/\isz A₂<=1000000000/\aB (Rat.den (List.getD l 2 0))≠0)/\True)/\((isz (Rat.num (List.getD l 2 0))<=1000000000/\isz (Int.fdiv (dY (fun(j:Nat)=>List.getD l j 0) (aA i)) A₂)<=1000000000)/\True)/\(asT Int 0=0/\asT Int 0=0/\asT Int 0=0/\asT Int 0=0/\dY (fun(j:Nat)=>List.getD l j 0) (aA i)=dY (fun(j:Nat)=>List.getD l j 0) (aA i)/\Rat.num (List.getD l 0 0)*Int.fdiv (dY (fun(j:Nat)=>List.getD l j 0) (aA i)) A₀=Rat.num (List.getD l 0 0)*Int.fdiv (dY (fun(j:Nat)=>List.getD l j 0) (aA i)) A₀/\Rat.num (List.getD l 1 0)*Int.fdiv (dY (fun(j:Nat)=>List.getD l j 0) (aA i)) A₁=Rat.num (List.getD l 1 0)*Int.fdiv (dY (fun(j:Nat)=>List.getD l j 0) (aA i)) A₁/\Rat.num (List.getD l 2 0)*Int.fdiv (dY (fun(j:Nat)=>List.getD l j 0) (aA i)) A₂=Rat.num (List.getD l 2 0)*Int.fdiv (dY (fun(j:Nat)=>List.getD l j 0) (aA i)) A₂/\asT Int 0=0/\True)/\asT Bool true=true/\(asT Int 0<=3/\asT Int 3<4/\True)/\((isz (dY (fun(j:Nat)=>List.getD l j 0) (aA i))<=1000000000/\isz aK<=1000000000/\aB (Rat.den (List.getD l 3 0))≠0)/\True)/\((isz (Rat.num (List.getD l 3 0))<=1000000000/\isz (Int.fdiv (dY (fun(j:Nat)=>List.getD l j 0) (aA i)) aK)<=1000000000)/\True)/\(asT Int 0=0/\asT Int 0=0/\asT Int 0=0/\asT Int 0=0/\dY (fun(j:Nat)=>List.getD l j 0) (aA i)=dY (fun(j:Nat)=>List.getD l j 0) (aA i)/\Rat.num (List.getD l 0 0)*Int.fdiv (dY (fun(j:Nat)=>List.getD l j 0) (aA i)) A₀=Rat.num (List.getD l 0 0)*Int.fdiv (dY (fun(j:Nat)=>List.getD l j 0) (aA i)) A₀/\Rat.num (List.getD l 1 0)*Int.fdiv (dY (fun(j:Nat)=>List.getD l j 0) (aA i)) A₁=Rat.num (List.getD l 1 0)*Int.fdiv (dY (fun(j:Nat)=>List.getD l j 0) (aA i)) A₁/\Rat.num (List.getD l 2 0)*Int.fdiv (dY (fun(j:Nat)=>List.getD l j 0) (aA i)) A₂=Rat.num (List.getD l 2 0)*Int.fdiv (dY (fun(j:Nat)=>List.getD l j 0) (aA i)) A₂/\Rat.num (List.getD l 3 0)*Int.fdiv (dY (fun(j:Nat)=>List.getD l j 0) (aA i)) aK=Rat.num (List.getD l 3 0)*Int.fdiv (dY (fun(j:Nat)=>List.getD l j 0) (aA i)) aK/\True)/\asT Bool true=true/\((List.length (Rat.num (List.getD l 0 0)*Int.fdiv (dY (fun(j:Nat)=>List.getD l j 0) (aA i)) A₀::Rat.num (List.getD l 1 0)*Int.fdiv (dY (fun(j:Nat)=>List.getD l j 0) (aA i)) A₁::Rat.num (List.getD l 2 0)*Int.fdiv (dY (fun(j:Nat)=>List.getD l j 0) (aA i)) A₂::Rat.num (List.getD l 3 0)*Int.fdiv (dY (fun(j:Nat)=>List.getD l j 0) (aA i)) aK::aC Int)=4/\(∀ (j:Nat),let cZ:=(dY (fun(j:Nat)=>List.getD l j 0) (aA i));j<4->isz (List.getD (Rat.num (List.getD l 0 0)*Int.fdiv cZ A₀::Rat.num (List.getD l 1 0)*Int.fdiv cZ A₁::Rat.num (List.getD l 2 0)*Int.fdiv cZ A₂::Rat.num (List.getD l 3 0)*Int.fdiv cZ aK::aC Int) j 0)<=400000000)/\∃ (j:Nat),let dG:=(dY (fun(j:Nat)=>List.getD l j 0) (aA i));j<4/\List.getD (Rat.num (List.getD l 0 0)*Int.fdiv dG A₀::Rat.num (List.getD l 1 0)*Int.fdiv dG A₁::Rat.num (List.getD l 2 0)*Int.fdiv dG A₂::Rat.num (List.getD l 3 0)*Int.fdiv dG aK::aC Int) j 0≠0)/\True)/\True/\(Prod.fst bC.1,Prod.fst bH,Prod.fst bH.2,Prod.fst bH.2.2,())=Prod.fst aO/\True/\Prod.fst bC.2=Prod.fst aO.2/\True)) (by kernel_rfl) ?_;try simp only[zP0]
 try dsimp only[aB,asT,aA,aC,Ty.den,Lf.den] at *
 try simp only[zP1]
 try simp only[zP2]
 obtain⟨hl,hb,hn⟩:l.length=4/\(∀ j,j<4->rsz (l.getD j 0)<=50000000)/\∃ j,j<4/\l.getD j 0≠0:=hp;have hx:∀ j,l.getD j 0=(fun j=>l.getD j 0) j:=fun _=>rfl;have h0:=hx 0;have h1:=hx 1;have h2:=hx 2;have h3:=hx 3;generalize hX:(fun j=>l.getD j 0)=q at *
 have hb:∀ j,j<4->rsz (q j)<=50000000:=fun j hj=>by rw[<-hx];exact hb j hj
 have hn:∃ j,j<4/\q j≠0:=by obtain⟨j,h1,h2⟩:=hn;exact⟨j,h1,by rw[<-hx];exact h2⟩
 simp only[h0,h1,h2,h3,hx];have d:∀ k,k<=4->isz (dY q k)<=200000001:=fun k hk=>au (a3g hb k hk) (by omega);have r:∀ j,j<4->isz ((q j).den:Int)<=1000000000:=fun j hj=>au (kK (q j)) (au (hb j hj) (by omega));have n:∀ j,j<4->isz (q j).num<=1000000000:=fun j hj=>au (mZ (q j)) (au (hb j hj) (by omega));have z:∀ j,¬ ((q j).den:Int)=0:=fun j=>ED _;have f:∀ j,j<4->isz ((dY q 4).fdiv ((q j).den:Int))<=1000000000:=fun j hj=>au (a4k (d 4 (by omega)) (KL hj)) (by omega);refine⟨by decide,rfl,fun i=>⟨fun h1=>?_,fun h1=>?_⟩⟩
 ·have hi:=i.2;refine⟨⟨by omega,by omega⟩,⟨au (d _ hi) (by omega),r _ (by omega)⟩,⟨i.1+1,by omega⟩,by simp only;omega,?_,rfl⟩;rw[aG (by omega) (by omega)];rfl
 ·have hi:=i.2;have hi:i.1=4:=by omega
  rw[hi];generalize hL:[(q 0).num*(dY q 4).fdiv ((q 0).den:Int),(q 1).num*(dY q 4).fdiv ((q 1).den:Int),(q 2).num*(dY q 4).fdiv ((q 2).den:Int),(q 3).num*(dY q 4).fdiv ((q 3).den:Int)]=L;have hX:∀ k,k<4->L.getD k 0=clX q k:=fun k hk=>by
   subst hL
   match k,hk with
   | 0,_=>rfl
   | 1,_=>rfl
   | 2,_=>rfl
   | 3,_=>rfl
  rw[a4Q (X:=fun j=>L.getD j 0) hX];have d4:=au (d 4 (by omega)) (show 200000001<=1000000000 by omega);refine⟨⟨by omega,by omega⟩,⟨d4,r 0 (by omega),z 0⟩,⟨n 0 (by omega),f 0 (by omega)⟩,⟨by omega,by omega⟩,⟨d4,r 1 (by omega),z 1⟩,⟨n 1 (by omega),f 1 (by omega)⟩,⟨by omega,by omega⟩,⟨d4,r 2 (by omega),z 2⟩,⟨n 2 (by omega),f 2 (by omega)⟩,⟨by omega,by omega⟩,⟨d4,r 3 (by omega),z 3⟩,⟨n 3 (by omega),f 3 (by omega)⟩,⟨fun j hj=>?_,?_⟩,rfl,rfl⟩
  ·rw[hX j hj];exact au (JD (d 4 (by omega)) (KL hj) (hb j hj)) (by omega)
  ·obtain⟨j,hj,h⟩:=hn;exact⟨j,hj,by rw[hX j hj];exact DZ (a6I _ _) (KL hj) h⟩
end Go.Proofs.YtbkocjmmbkifjaaGreat
