/-
  Lemmas for the theorem vdecomposes28_holds, part 30 of 34.
-/
import Derived.Test.YtbkocjmmbkifjaaGreatQd29
namespace Go.Proofs.YtbkocjmmbkifjaaGreat
open Go Go.RowKit
theorem Eh:type_of% @Classical.byContradiction:=@Classical.byContradiction
set_option maxRecDepth 100000
set_option maxHeartbeats 4000000
set_option linter.unusedVariables false
set_option linter.unusedSimpArgs false
def nz8 (q:Rat):Bool:=decide (q≠0)
def szB (q:Rat):Prop:=rsz q<=1000000
noncomputable def c4F:Ctr:=⟨[tQ],[tB],fun x=>szB x.1,fun x=>(nz8 x.1,())⟩
theorem a4y:aH Tryz.prog 174 c4F:=by
 refine aI (nil0.ad vS) ⟨[],[],[]⟩ Tryz.func174 rfl (by decide) (fun x=>[]) (fun x hp=>?_)
 obtain⟨q,u⟩:=x
 change Rat at q
 refine aO ((rsz q<=1000000000/\True)/\True/\(sgn (Rat.num q) != 0)=nz8 q/\True) (by kernel_rfl) ?_
 try simp only[zP0]
 try dsimp only[aB,asT,aA,aC,Ty.den,Lf.den] at *
 try simp only[zP1]
 try simp only[zP2]
 have hp:rsz q<=1000000:=hp
 exact⟨by omega,b1I q⟩
noncomputable def c2o:Ctr:=⟨[.list tQ,.clo 174 .unit],[tI],fun x=>(show List (Rat) from x.1).length<=1000000/\∀ q ∈ (show List (Rat) from x.1),szB q,fun x=>(oC nz8 (show List (Rat) from x.1),())⟩
theorem a9T:aH Tryz.prog 211 c2o:=by
 refine aI (nil0.ad a4y) ⟨[],[],[]⟩ Tryz.func211 rfl (by decide) (fun x=>[.inv {k:Nat // k<=(show List (Rat) from x.1).length/\((show List (Rat) from x.1).take k).any nz8=false} (fun k=>[(8,.val tI (k.1:Int))]) (fun k=>[]) (fun k=>(show List (Rat) from x.1).length-k.1) ⟨0,by omega,rfl⟩ (fun _=>[])]) (fun x hp=>?_)
 obtain⟨x,c,u⟩:=x
 change List (Rat) at x
 change Unit at c
 refine aO ((asT Int 0=0/\True)/\∀ (i:{ k:Nat // k<=List.length x/\List.any (List.take k x) nz8=false }),asT Bool true=true/\ifB (decide (aB (aA i)<aB x.length)) ((0<=aB (aA i)/\aB (aA i)<aB x.length/\szB (List.getD x (aB (aA i)).toNat 0)/\True)/\ifB (nz8 (List.getD x (aB (aA i)).toNat 0)) (True/\aB (aA i)=oC nz8 x/\True) (∃ (i':{ k:Nat // k<=List.length x/\List.any (List.take k x) nz8=false }),List.length x-aA i'<List.length x-aA i/\IntKind.wrap IntKind.i64 (aB (aA i)+1)=aB (aA i')/\True)) (True/\-1=oC nz8 x/\True)) (by kernel_rfl) ?_
 try simp only[zP0]
 try dsimp only[aB,asT,aA,aC,Ty.den,Lf.den] at *
 try simp only[zP1]
 try simp only[zP2]
 have hp:x.length<=1000000/\∀ q ∈ x,szB q:=hp
 obtain⟨hl,hb⟩:=hp
 refine fun i=>⟨fun h1=>⟨(by first|exact⟨by omega,h1,cZ hb (by omega)⟩|exact⟨by omega,h1⟩),fun h2=>?_,fun h2=>⟨⟨i.1+1,by omega,?_⟩,by simp only;omega,?_⟩⟩,fun h1=>?_⟩
 ·exact(wQ (d:=0) (by omega) i.2.2 (by first|exact h2|rw[h2];rfl)).symm
 ·rw[uD (d:=0) (by omega),i.2.2,h2];rfl
 ·rw[aJ (by omega) (by omega)];rfl
 ·have h3:=i.2.2
  rw[jc (by omega)] at h3
  exact(CV h3).symm
noncomputable def c1Y:Ctr:=⟨[.list tQ,.clo 174 .unit],[tB],fun x=>(show List (Rat) from x.1).length<=1000000/\∀ q ∈ (show List (Rat) from x.1),szB q,fun x=>((show List (Rat) from x.1).any nz8,())⟩
theorem a8F:aH Tryz.prog 123 c1Y:=by
 refine aI ((nil0.ad a4y).ad a9T) ⟨[],[],[]⟩ Tryz.func123 rfl (by decide) (fun x=>[]) (fun x hp=>?_)
 obtain⟨x,c,u⟩:=x
 change List (Rat) at x
 change Unit at c
 refine aO (((List.length x<=1000000/\∀ (q:Rat),q ∈ x->szB q)/\True)/\True/\decide (oC nz8 x ≥ 0)=List.any x nz8/\True) (by kernel_rfl) ?_
 exact⟨⟨hp,trivial⟩,trivial,wR _ _,trivial⟩
def hlT (e:MQ):Rat:=Rat.divInt 1 2*trQ (gM e)
def hE (e:MQ) (i j:Nat):Rat:=if i=j then -ent (gM e) i j+hlT e else -ent (gM e) i j
def axC (e:MQ) (j:Nat):LQ':=(List.range 3).map fun i=>hE e i j
def axN (e:MQ) (j:Nat):Bool:=(axC e j).any nz8
def axJ (e:MQ):Nat:=if axN e 0=true then 0 else if axN e 1=true then 1 else 2
def axU (e:MQ):List Int:=EK (axC e (axJ e))
def sqI (u:List Int):Nat->Int
 | 0=>0
 | k+1=>sqI u k+u.getD k 0*u.getD k 0
def axL (e:MQ):Rat:=aV (sqI (axU e) 3)
def axP (e:MQ):Prop:=m33 100 e/\∃ j,j<3/\axN e j=true
theorem a2i {l:LQ'} {K:Nat} (h:TW l) (hK:∀ q ∈ l,rsz q<=K):∀ n ∈ EK l,isz n<=(l.length+1)*K+1:=fun n hn=>by
 obtain⟨_,j0,hj0,hx0⟩:=h.at
 have hK:∀ j,j<l.length->rsz (lv l j)<=K:=fun j hj=>cZ hK hj
 have e:(l.length+1)*K=l.length*K+K:=zf _ _
 have hN:∀ j,j<l.length->isz (lcN l j)<=(l.length+1)*K+1:=fun j hj=>ak (zL (SS hK _ (aj _)) (wY hj) (hK j hj)) (by omega)
 obtain⟨j,hj,rfl⟩:=ni.1 hn
 have hj:=oq.1 hj
 exact b4E hj (TV hj0 (CS (PD _ _) (wY hj0) hx0)) (hN j hj)
theorem RU {e:MQ} (he:m33 100 e):m33 700 (gM e):=(JJ he he.tr).mono (by omega)
theorem a3i {e:MQ} (he:m33 100 e):rsz (hlT e)<=2200:=by
 have a:=FZ (RU he)
 have b:rsz (Rat.divInt 1 2)<=10:=by decide +kernel
 have c:=cO (Rat.divInt 1 2) (trQ (gM e))
 unfold hlT
 omega
theorem b5Z {e:MQ} (he:m33 100 e) {i j:Nat} (hi:i<3) (hj:j<3):rsz (ent (gM e) i j)<=700:=(RU he).2 i (by rw[(RU he).1.len];exact hi) j (by rw[(RU he).1.wd];exact hj)
theorem c3d {e:MQ} (he:m33 100 e) {i j:Nat} (hi:i<3) (hj:j<3):rsz (hE e i j)<=3000:=by
 have a:=b5Z he hi hj
 have b:=a3i he
 have c:=gW (-ent (gM e) i j) (hlT e)
 have d:=jE (ent (gM e) i j)
 unfold hE
 split<;>omega
theorem CO (e:MQ) (j:Nat):(axC e j).length=3:=by unfold axC;rw[jo,jy]
theorem a2T {e:MQ} (he:m33 100 e) {j:Nat} (hj:j<3):∀ q ∈ axC e j,rsz q<=3000:=fun q hq=>by
 obtain⟨i,hi,rfl⟩:=ni.1 hq
 exact c3d he (oq.1 hi) hj
theorem QK {e:MQ} (he:m33 100 e) {j:Nat} (hj:j<3) (h:axN e j=true):TW (axC e j):=⟨by rw[CO];omega,fun q hq=>ak (a2T he hj q hq) (by omega),by
 obtain⟨q,hq,h⟩:=Bl.1 h
 exact⟨q,hq,og h⟩⟩
theorem QL {e:MQ} {j:Nat} (hj:j<3) (h0:∀ k,k<j->axN e k=false) (h:axN e j=true):axJ e=j:=by
 unfold axJ
 match j,hj with
 | 0,_=>rw[iw h]
 | 1,_=>rw[eu (lZ (h0 0 (by omega))),iw h]
 | 2,_=>rw[eu (lZ (h0 0 (by omega))),eu (lZ (h0 1 (by omega)))]
theorem axP.at {e:MQ} (h:axP e):axJ e<3/\axN e (axJ e)=true/\∀ k,k<axJ e->axN e k=false:=by
 obtain⟨j,hj,h⟩:=h.2
 cases h0:axN e 0
 ·cases h1:axN e 1
  ·have hj2:j=2:=by
    match j,hj with
    | 0,_=>rw[h0] at h;cases h
    | 1,_=>rw[h1] at h;cases h
    | 2,_=>rfl
   subst hj2
   have b:∀ k,k<2->axN e k=false:=fun k hk=>by
    match k,hk with
    | 0,_=>exact h0
    | 1,_=>exact h1
   rw[QL (by omega) b h]
   exact⟨by omega,h,b⟩
  ·have b:∀ k,k<1->axN e k=false:=fun k hk=>by
    match k,hk with
    | 0,_=>exact h0
   rw[QL (by omega) b h1]
   exact⟨by omega,h1,b⟩
 ·rw[QL (by omega) (fun k hk=>absurd hk (yu k)) h0]
  exact⟨by omega,h0,fun k hk=>absurd hk (yu k)⟩
theorem sD (e:MQ):(axU e).length=3:=by unfold axU;rw[b0X,CO]
theorem KW {e:MQ} (h:axP e):∀ n ∈ axU e,isz n<=12001:=fun n hn=>by
 obtain⟨h1,h2,_⟩:=h.at
 have:=a2i (QK h.1 h1 h2) (a2T h.1 h1) n hn
 rw[CO] at this
 omega
theorem a0E {u:List Int} {K:Nat} (h:∀ n ∈ u,isz n<=K):∀ k,k<=u.length->isz (sqI u k)<=2*K+k
 | 0,_=>by show isz 0<=_;rw[SK];omega
 | k+1,hk=>by
  have a:=a0E h k (by omega)
  have b:isz (u.getD k 0)<=K:=cZ h (by omega)
  have c:=fJ (u.getD k 0) (u.getD k 0)
  have d:=sG (sqI u k) (u.getD k 0*u.getD k 0)
  show isz (sqI u k+u.getD k 0*u.getD k 0)<=_
  omega
noncomputable def c4H:Ctr:=⟨[tM],[.list tZ,tQ],fun x=>axP x.1,fun x=>(axU x.1,axL x.1,())⟩
theorem b2z:aH Tryz.prog 86 c4H:=by
 refine aI (((((((((((((nil0.ad vN).ad sF).ad NZ).ad oU).ad a5b).ad IL).ad SE).ad a2l).ad a2h).ad a2C).ad UY).ad a8F).ad b4I) ⟨[3,5,7,11,13,15],[],[]⟩ Tryz.func86 rfl (by decide) (fun x=>[.inv {j:Nat // j<=3/\∀ k,k<j->axN (show MQ from x.1) k=false} (fun j=>[(29,.val tI (j.1:Int))]) (fun j=>[(3,.box [⟨tR,bF⟩]),(7,.box [⟨tQ,hlT (show MQ from x.1)⟩])]) (fun j=>3-j.1) ⟨0,by omega,fun k h=>absurd h (yu k)⟩ (fun j=>[
 .inv {k:Nat // k<=3} (fun i=>[(32,.val tI (i.1:Int)),(9,.own 51 0),(51,.any)]) (fun i=>[(3,.box [⟨tR,bF⟩]),(7,.box [⟨tQ,hlT (show MQ from x.1)⟩]),(51,.row 47 tQ ((List.range i.1).map fun i=>hE (show MQ from x.1) i j.1) 0)]) (fun i=>3-i.1) ⟨0,by omega⟩ (fun _=>[]),
 .inv {k:Nat // k<=3} (fun k=>[(62,.val tI (k.1:Int))]) (fun k=>[(3,.box [⟨tR,bF⟩]),(13,.box [⟨tZ,sqI (axU (show MQ from x.1)) k.1⟩])]) (fun k=>3-k.1) ⟨0,by omega⟩ (fun _=>[])])]) (fun x hp=>?_)
 obtain⟨e,u⟩:=x
 change MQ at e
 refine aO (let A₁:=(stk e.length (trM e)::aC (List (List Rat)));let A₀:=(stk e.length (fB e A₁));(okM e/\nD e A₁/\True)/\((bP 1/\bP 2/\asT Int 2≠0)/\True)/\(m33 1000000 A₀/\s44 (Rat.divInt 1 2) (trQ A₀)/\True)/\(asT Int 0=0/\asT aG bF=bF/\Rat.divInt 1 2*trQ A₀=hlT e/\True)/\∀ (i:{ j:Nat // j<=3/\∀ (k:Nat),k<j->axN e k=false }),let A₂:=(fun(i_2:Nat)=>hE e i_2 (aA i));let aN:=(fun(i_3:Nat)=>hE e i_3 (aA i));let aU:=(aB (aA i)).toNat;asT Bool true=true/\ifB (decide (aB (aA i)<3)) ((asT Int 0=0/\(True/\asT (List Rat) (aC Rat)=aC Rat)/\asT aG bF=bF/\hlT e=hlT e/\(asT (List Rat) (aC Rat)=aC Rat/\0=0/\asT Bool true=true)/\True)/\∀ (i_1:{ k:Nat // k<=3 }),let aX:=(List.range (aA i_1));let bJ:=(List.getD A₀ (aB (aA i_1)).toNat (aC Rat));let dA:=(EK (List.map aN aX));let dF:=(-List.getD bJ aU 0+hlT e);asT Bool true=true/\ifB (decide (aB (aA i_1)<3)) ((0<=aB (aA i_1)/\aB (aA i_1)<aB A₀.length/\0<=aB (aA i)/\aB (aA i)<aB bJ.length/\s4 (List.getD bJ aU 0)/\True)/\ifB (aB (aA i_1)==aB (aA i)) ((s44 (-List.getD bJ aU 0) (hlT e)/\True)/\(List.length (List.map A₂ aX)+List.length (dF::aC Rat)<=1000000000/\True)/\∃ (i':{ k:Nat // k<=3 }),3-aA i'<3-aA i_1/\IntKind.wrap IntKind.i64 (aB (aA i_1)+1)=aB (aA i')/\asT aG bF=bF/\hlT e=hlT e/\List.map A₂ aX++dF::aC Rat=List.map A₂ (List.range (aA i'))/\True) ((List.length (List.map A₂ aX)+List.length (-List.getD bJ aU 0::aC Rat)<=1000000000/\True)/\∃ (i':{ k:Nat // k<=3 }),3-aA i'<3-aA i_1/\IntKind.wrap IntKind.i64 (aB (aA i_1)+1)=aB (aA i')/\asT aG bF=bF/\hlT e=hlT e/\List.map A₂ aX++-List.getD bJ aU 0::aC Rat=List.map A₂ (List.range (aA i'))/\True)) (((List.length (List.map A₂ aX)<=1000000/\∀ (q:Rat),q ∈ List.map A₂ aX->szB q)/\True)/\ifB (!List.any (List.map A₂ aX) nz8) (∃ (i':{ j:Nat // j<=3/\∀ (k:Nat),k<j->axN e k=false }),3-aA i'<3-aA i/\IntKind.wrap IntKind.i64 (aB (aA i)+1)=aB (aA i')/\asT aG bF=bF/\hlT e=hlT e/\True) ((TW (List.map A₂ aX)/\True)/\(bP 0/\True)/\(asT Int 0=0/\asT aG bF=bF/\0=sqI (axU e) 0/\True)/\∀ (i_2:{ k:Nat // k<=3 }),let dL:=(aB (aA i_2)).toNat;let dP:=(sqI (axU e) (aA i_2));asT Bool true=true/\ifB (decide (aB (aA i_2)<aB dA.length)) ((0<=aB (aA i_2)/\aB (aA i_2)<aB dA.length/\True)/\((isz (List.getD dA dL 0)<=1000000000/\isz (List.getD dA dL 0)<=1000000000)/\(isz dP<=1000000000/\isz (List.getD dA dL 0*List.getD dA dL 0)<=1000000000)/\True)/\∃ (i':{ k:Nat // k<=3 }),3-aA i'<3-aA i_2/\IntKind.wrap IntKind.i64 (aB (aA i_2)+1)=aB (aA i')/\asT aG bF=bF/\sqI (axU e) (aA i_2)+List.getD dA dL 0*List.getD dA dL 0=sqI (axU e) (aA i')/\True) ((isz dP<=390000000/\True)/\True/\EK (List.map aN aX)=axU e/\True/\aV dP=axL e/\True)))) (True/\aC Int=axU e/\(asT Bool false=true/\True)/\0=axL e/\True)) (by kernel_rfl) ?_
 try simp only[zP0]
 try dsimp only[aB,asT,aA,aC,Ty.den,Lf.den] at *
 try simp only[zP1]
 try simp only[zP2]
 have hP:axP e:=hp
 have he:m33 100 e:=hP.1
 have ht:m33 100 (trM e):=he.tr
 have hg:=RU he
 have o1:=(he.mono (show 100<=1000000 by omega)).ok (aj _)
 simp only[UN]
 have b1:fB e [trM e]=gM e:=rfl
 rw[b1]
 obtain⟨lg,rg⟩:=hg.rows
 have eE:∀ i j,(List.getD (gM e) i []).getD j 0=ent (gM e) i j:=fun _ _=>rfl
 have t1:=a3i he
 have t2:rsz (Rat.divInt 1 2)<=10:=by decide +kernel
 have t3:=FZ hg
 have cl:∀ i j,(List.map (fun i=>hE e i j) (List.range i)).length=i:=fun i j=>by rw[jo,jy]
 refine⟨⟨o1.1,a2j (by omega) he ht⟩,⟨by decide,by decide,by decide⟩,⟨hg.mono (by omega),by omega,by omega⟩,rfl,fun j=>⟨fun h1 i=>⟨fun h2=>?_,fun h2=>?_⟩,fun h1=>?_⟩⟩
 ·have hj:j.1<3:=by omega
  have hi:i.1<3:=by omega
  have g1:=b5Z he hi hj
  have g2:=jE (ent (gM e) i.1 j.1)
  rw[eE,lg,(rg i.1 hi).1,cl]
  have st:∀ x,x=hE e i.1 j.1->List.map (fun i=>hE e i j.1) (List.range i.1)++[x]=List.map (fun i=>hE e i j.1) (List.range (i.1+1)):=fun x hx=>by rw[hx,oh,ug];rfl
  exact⟨⟨by omega,by omega,by omega,by omega,by omega⟩,fun h3=>⟨⟨by omega,by omega⟩,by omega,⟨i.1+1,by omega⟩,by simp only;omega,by rw[aJ (by omega) (by omega)];rfl,st _ (iw h3).symm⟩,fun h3=>⟨by omega,⟨i.1+1,by omega⟩,by simp only;omega,by rw[aJ (by omega) (by omega)];rfl,st _ (eu h3).symm⟩⟩
 ·have hj:j.1<3:=by omega
  have hi:i.1=3:=by have:=i.2;omega
  rw[hi]
  have eC:List.map (fun i=>hE e i j.1) (List.range 3)=axC e j.1:=rfl
  rw[eC,CO]
  refine⟨⟨by omega,fun q hq=>ak (a2T he hj q hq) (by omega)⟩,fun h3=>⟨⟨j.1+1,by omega,fun k hk=>?_⟩,by simp only;omega,by rw[aJ (by omega) (by omega)];rfl⟩,fun h3=>?_⟩
  ·rcases um.1 hk with hk|rfl
   ·exact j.2.2 k hk
   ·exact h3
  ·have eJ:axJ e=j.1:=QL hj j.2.2 h3
   have eU:EK (axC e j.1)=axU e:=by unfold axU;rw[eJ]
   rw[eU,sD]
   have us:=KW hP
   have ss:=a0E us
   rw[sD] at ss
   refine⟨QK he hj h3,by decide,rfl,fun k=>⟨fun h4=>?_,fun h4=>⟨ak (ss _ k.2) (by omega),rfl,?_⟩⟩⟩
   ·have hk:k.1<3:=by omega
    have u1:isz ((axU e).getD k.1 0)<=12001:=cZ us (by rw[sD];exact hk)
    have u2:=fJ ((axU e).getD k.1 0) ((axU e).getD k.1 0)
    have u3:=ss k.1 k.2
    exact⟨⟨by omega,h4⟩,⟨by omega,by omega,by omega⟩,⟨k.1+1,by omega⟩,by simp only;omega,by rw[aJ (by omega) (by omega)];rfl,rfl⟩
   ·rw[show k.1=3 by have:=k.2;omega];rfl
 ·obtain⟨a,b,_⟩:=hP.at
  have:=j.2.2 (axJ e) (by omega)
  rw[b] at this
  cases this
set_option maxHeartbeats 1000000
def dcP (e:MQ):Prop:=m33 1 e/\∃ i j,i<3/\j<3/\ent e i j≠0
theorem dcP.m {e:MQ} (h:dcP e):m33 100 e:=h.1.mono (by omega)
theorem IV {K:Nat} {e:MQ} (he:m33 K e) {i j:Nat} (hi:i<3) (hj:j<3):ent (gM e) i j=0+ent e i 0*ent e j 0+ent e i 1*ent e j 1+ent e i 2*ent e j 2:=by
 unfold gM
 rw[he.1.c6M he.1.trp hi hj]
 show 0+ent e i 0*ent (trM e) 0 j+ent e i 1*ent (trM e) 1 j+ent e i 2*ent (trM e) 2 j=_
 rw[he.1.c1r (i:=0) (j:=j) (by omega) hj,he.1.c1r (i:=1) (j:=j) (by omega) hj,he.1.c1r (i:=2) (j:=j) (by omega) hj]
theorem JQ {x:Rat} (h:0<x):0<x.num:=by
 have a:=Rat.num_nonneg.2 (Rat.le_of_lt h)
 have b:x.num≠0:=fun e=>by rw[Ec.1 e] at h;exact absurd h Rat.lt_irrefl
 omega
theorem b6B (x:Rat):0<=x*x:=by
 rcases Rat.le_total (a:=0) (b:=x) with h|h
 ·exact Rat.mul_nonneg h h
 ·have:=Rat.mul_nonneg (Rat.neg_le_neg h) (Rat.neg_le_neg h);grind
theorem sq_pos {x:Rat} (h:x≠0):0<x*x:=by
 have a:=b6B x
 have b:x*x≠0:=fun e=>by rcases Rat.mul_eq_zero.1 e with e|e<;>exact h e
 grind
theorem b2j {e:MQ} (h:dcP e):0<trQ (gM e):=by
 obtain⟨he,i,j,hi,hj,hz⟩:=h
 unfold trQ
 rw[IV he (by omega) (by omega),IV he (by omega) (by omega),IV he (by omega) (by omega)]
 have p:=sq_pos hz
 have n:=fun a b=>b6B (ent e a b)
 have n00:=n 0 0
 have n01:=n 0 1
 have n02:=n 0 2
 have n10:=n 1 0
 have n11:=n 1 1
 have n12:=n 1 2
 have n20:=n 2 0
 have n21:=n 2 1
 have n22:=n 2 2
 rcases three hi with rfl|rfl|rfl<;>rcases three hj with rfl|rfl|rfl<;>grind
theorem dcP.ax {e:MQ} (h:dcP e):axP e:=by
 refine⟨h.m,?_⟩
 have ht:=b2j h
 apply Eh
 intro hn
 have z:∀ j,j<3->hE e j j=0:=fun j hj=>by
  apply Eh
  intro hz
  refine hn ⟨j,hj,Bl.2 ⟨hE e j j,ni.2 ⟨j,oq.2 hj,rfl⟩,jf hz⟩⟩
 have z0:=z 0 (by omega)
 have z1:=z 1 (by omega)
 have z2:=z 2 (by omega)
 unfold hE hlT at z0 z1 z2
 rw[iw rfl] at z0 z1 z2
 have hf:Rat.divInt 1 2*2=1:=by decide +kernel
 unfold trQ at ht z0 z1 z2
 generalize Rat.divInt 1 2=c at *
 grind
theorem xI {e:MQ} (h:axP e):0<axL e:=by
 obtain⟨h1,h2,_⟩:=h.at
 have hp:=QK h.1 h1 h2
 have hl:=CO e (axJ e)
 obtain⟨_,j,hj,hz⟩:=hp.at
 have hN:lcN (axC e (axJ e)) j≠0:=CS (PD _ _) (wY hj) hz
 have hU:(axU e).getD j 0≠0:=by
  show (a7q (lv (axC e (axJ e))) (axC e (axJ e)).length).getD j 0≠0
  unfold a7q
  rw[bf,qj,Bc hj]
  show prN (lcN (axC e (axJ e))) (axC e (axJ e)).length j≠0
  unfold prN
  intro hc
  have hd:=Int.fdiv_mul_cancel (a0r (xs:=lcN (axC e (axJ e))) hj)
  rw[hc,Int.zero_mul] at hd
  exact hN hd.symm
 rw[hl] at hj
 have n:∀ x:Int,0<=x*x:=fun x=>by
  rcases Int.le_total 0 x with h|h
  ·exact Int.mul_nonneg h h
  ·exact Int.mul_nonneg_of_nonpos_of_nonpos h h
 have p:∀ x:Int,x≠0->0<x*x:=fun x hx=>by
  have:=n x
  have:x*x≠0:=Dl hx hx
  omega
 have s:0<sqI (axU e) 3:=by
  show 0<0+(axU e).getD 0 0*(axU e).getD 0 0+(axU e).getD 1 0*(axU e).getD 1 0+(axU e).getD 2 0*(axU e).getD 2 0
  have q:=p _ hU
  have n0:=n ((axU e).getD 0 0)
  have n1:=n ((axU e).getD 1 0)
  have n2:=n ((axU e).getD 2 0)
  rcases three hj with rfl|rfl|rfl<;>omega
 show (0:Rat)<((sqI (axU e) 3:Int):Rat)
 exact Rat.intCast_pos.2 s
theorem QM {e:MQ} (h:axP e):rsz (axL e)<=24006:=by
 have a:=a0E (KW h) 3 (by rw[sD];exact aj _)
 have b:=JZ (sqI (axU e) 3)
 show rsz ((sqI (axU e) 3:Int):Rat)<=_
 omega
def sqD (e:MQ):Rat:=trQ (gM e) / (aV 2*axL e)
def kD (e:MQ):Rat:=rtQ (sqD e)
theorem q2:aV 2=2:=by decide +kernel
theorem q1':aV 1=1:=by decide +kernel
theorem a5m {e:MQ} (h:dcP e):aV 2*axL e≠0:=by
 have:=xI h.ax
 rw[q2];grind
theorem a8U {x y:Rat} (hx:0<x) (hy:0<y):0<x / y:=by
 rw[Rat.div_def]
 exact Rat.mul_pos hx (Rat.inv_pos.2 hy)
theorem sJ {e:MQ} (h:dcP e):0<sqD e:=by
 have:=xI h.ax
 exact a8U (b2j h) (by rw[q2];grind)
theorem a0D {e:MQ} (h:dcP e):rsz (sqD e)<=27000:=by
 have a:=FZ (RU h.m)
 have b:=QM h.ax
 have c:=cO (aV 2) (axL e)
 have d:rsz (aV 2)<=10:=by decide +kernel
 have f:=yI (trQ (gM e)) (aV 2*axL e) (a5m h)
 unfold sqD
 omega
theorem OU (n:Nat):isz ((isq n:Nat):Int)<=isz (n:Int):=by
 by_cases hn:n=0
 ·rw[hn];exact aj _
 ·have h1:=(JD (show 1<=n by omega)).1
  have h2:isq n<=n:=by
   by_cases h3:isq n=0
   ·omega
   ·have:=vk (isq n) (show 1<=isq n by omega);omega
  exact rF (by simpa using h2)
theorem OV {n:Nat} (h:1<=n):1<=isq n:=by
 have h1:=(JD h).2
 by_cases h3:isq n=0
 ·rw[h3] at h1;omega
 ·omega
theorem a3U (x:Rat):rsz (rtQ x)<=rsz x:=by
 have hd:=x.den_nz
 have p:=OV (show 1<=x.den by omega)
 have a3:isz ((x.num.natAbs:Nat):Int)=isz x.num:=by unfold isz;rw[Int.natAbs_natCast]
 refine qR _ _ (by omega) (ak (OU _) ?_) (ak (OU _) (fU x))
 rw[a3];exact gX x
theorem a3T {x:Rat} (h:0<x):rtQ x≠0:=by
 have hn:0<x.num:=JQ h
 have p:=OV (show 1<=x.num.natAbs by omega)
 have q:=OV (show 1<=x.den by have:=x.den_nz;omega)
 unfold rtQ
 intro e
 rw[<-Rat.zero_divInt 1,Rat.divInt_eq_divInt_iff (by omega) (by omega)] at e
 omega
def aD (e:MQ):Rat:=aV 1 / (sqD e*axL e)
def bD (e:MQ):Rat:=aV 1 / (kD e*axL e)
theorem b1D {e:MQ} (h:dcP e):sqD e*axL e≠0:=by
 have a:=xI h.ax
 have b:=sJ h
 have:=Rat.mul_pos b a
 grind
theorem b0a {e:MQ} (h:dcP e):kD e*axL e≠0:=by
 have a:=xI h.ax
 intro z
 rcases Rat.mul_eq_zero.1 z with z|z
 ·exact a3T (sJ h) z
 ·grind
theorem b6x {e:MQ} (h:dcP e):rsz (sqD e*axL e)<=51010:=by
 have a:=QM h.ax
 have b:=a0D h
 have c:=cO (sqD e) (axL e)
 omega
theorem b6o {e:MQ} (h:dcP e):rsz (kD e*axL e)<=51010:=by
 have a:=QM h.ax
 have b:rsz (kD e)<=rsz (sqD e):=a3U _
 have c:=cO (kD e) (axL e)
 have d:=a0D h
 omega
theorem b5K {e:MQ} (h:dcP e):rsz (aD e)<=51020:=by
 have a:=b6x h
 have b:=yI (aV 1) (sqD e*axL e) (b1D h)
 have c:rsz (aV 1)<=10:=by decide +kernel
 unfold aD
 omega
theorem b5L {e:MQ} (h:dcP e):rsz (bD e)<=51020:=by
 have a:=b6o h
 have b:=yI (aV 1) (kD e*axL e) (b0a h)
 have c:rsz (aV 1)<=10:=by decide +kernel
 unfold bD
 omega
theorem a1c {e:MQ} (h:m33 100 e):m33 500 (xO e):=by
 refine⟨i33,fun i hi j hj=>?_⟩
 unfold xO at *
 rw[i33.len] at hi
 rw[i33.wd] at hj
 rw[kQ hi hj]
 have s:∀ a b,a<3->b<3->rsz (ent e a b)<=100:=fun a b ha hb=>h.2 a (by rw[h.1.len];exact ha) b (by rw[h.1.wd];exact hb)
 have s1:=s ((i+1)%3) ((j+1)%3) (by omega) (by omega)
 have s2:=s ((i+2)%3) ((j+2)%3) (by omega) (by omega)
 have s3:=s ((i+1)%3) ((j+2)%3) (by omega) (by omega)
 have s4:=s ((i+2)%3) ((j+1)%3) (by omega) (by omega)
 unfold mV
 have m1:=cO (ent e ((i+1)%3) ((j+1)%3)) (ent e ((i+2)%3) ((j+2)%3))
 have m2:=cO (ent e ((i+1)%3) ((j+2)%3)) (ent e ((i+2)%3) ((j+1)%3))
 have m3:=xB (ent e ((i+1)%3) ((j+1)%3)*ent e ((i+2)%3) ((j+2)%3)) (ent e ((i+1)%3) ((j+2)%3)*ent e ((i+2)%3) ((j+1)%3))
 omega
def uC (e:MQ):MQ:=zN ((axU e).map fun n=>aV n)
theorem a8h {e:MQ} (h:axP e) (i:Nat):rsz (lv ((axU e).map fun n=>aV n) i)<=12002:=by
 unfold lv
 by_cases hi:i<(axU e).length
 ·rw[bf,qj,bn hi]
  have a:=KW h _ (Am hi)
  have b:=JZ ((axU e)[i])
  show rsz (((axU e)[i]:Int):Rat)<=_
  omega
 ·rw[bf,qw (by rw[jo];omega)]
  show rsz 0<=_
  have:rsz 0<=10:=by decide +kernel
  omega
theorem a8Q {v:LQ'} {K:Nat} (hK:10<=K) (h:∀ i,rsz (lv v i)<=K):m33 K (zN v):=by
 refine⟨a8P v,fun i hi j hj=>?_⟩
 rw[(a8P v).len] at hi
 rw[(a8P v).wd] at hj
 have z:rsz (aV 0)<=K:=ak (by decide +kernel:rsz (aV 0)<=10) hK
 have n:∀ i,rsz (- lv v i)<=K:=fun i=>by rw[jE];exact h i
 rcases three hi with rfl|rfl|rfl<;>rcases three hj with rfl|rfl|rfl<;>first|exact z|exact h _|exact n _
theorem c4m {e:MQ} (h:axP e):m33 12002 (uC e):=a8Q (by omega) (a8h h)
def ueM (e:MQ):MQ:=mulM (uC e) e
theorem a7S {e:MQ} (h:dcP e):m33 37000 (ueM e):=(JJ (c4m h.ax) h.m).mono (by omega)
def fiM (e:MQ):MQ:=nT (xO e) (aD e)
def seM (e:MQ):MQ:=nT (ueM e) (bD e)
theorem b3x {e:MQ} (h:dcP e):m33 52000 (fiM e):=(YG (a1c h.m) (b5K h)).mono (by omega)
theorem b5i {e:MQ} (h:dcP e):m33 88100 (seM e):=(YG (a7S h) (b5L h)).mono (by omega)
theorem m33.sub {K L:Nat} {x y:MQ} (hx:m33 K x) (hy:m33 L y):m33 (K+L+1) (UO x y):=by
 have hm:=hx.1.sub (b:=y)
 refine⟨hm,fun i hi j hj=>?_⟩
 rw[hm.len] at hi
 rw[hm.wd] at hj
 rw[hx.1.c4j hi hj]
 have a:=hx.2 i (by rw[hx.1.len];exact hi) j (by rw[hx.1.wd];exact hj)
 have b:=hy.2 i (by rw[hy.1.len];exact hi) j (by rw[hy.1.wd];exact hj)
 have:=xB (ent x i j) (ent y i j)
 omega
theorem m33.add {K L:Nat} {x y:MQ} (hx:m33 K x) (hy:m33 L y):m33 (K+L+1) (QG x y):=by
 have hm:=hx.1.add (b:=y)
 refine⟨hm,fun i hi j hj=>?_⟩
 rw[hm.len] at hi
 rw[hm.wd] at hj
 rw[hx.1.c1J hi hj]
 have a:=hx.2 i (by rw[hx.1.len];exact hi) j (by rw[hx.1.wd];exact hj)
 have b:=hy.2 i (by rw[hy.1.len];exact hi) j (by rw[hy.1.wd];exact hj)
 have:=gW (ent x i j) (ent y i j)
 omega
def dcM (e:MQ) (k:Nat):MQ:=if k=0 then UO (fiM e) (seM e) else QG (fiM e) (seM e)
theorem c2Q {e:MQ} (h:dcP e) (k:Nat):m33 150000 (dcM e k):=by
 unfold dcM
 split
 ·exact((b3x h).sub (b5i h)).mono (by omega)
 ·exact((b3x h).add (b5i h)).mono (by omega)
theorem c1w {f:MR} (hs:rV f) (h:rW f=true):m33 1 (mq8 f):=by
 rw[DY,ay,ay,gy] at h
 obtain⟨⟨h1,h2⟩,_⟩:=h
 have h3:∀ r ∈ f,r.length=3/\∀ q ∈ r,q.ok=true:=fun r hr=>rC.mp (qg.mp h2 r hr)
 have hm:isM (mq8 f) 3 3:=⟨by unfold mq8;rw[jo];exact h1,fun r hr=>by
  obtain⟨s,hs,rfl⟩:=ni.mp hr
  unfold lq8;rw[jo];exact(h3 s hs).1,by omega,by omega,by omega,by omega⟩
 refine⟨hm,fun i hi j hj=>?_⟩
 rw[hm.len] at hi
 rw[hm.wd] at hj
 have hr:f.getD i [] ∈ f:=gV (by omega)
 have hl:=(h3 _ hr).1
 have hq:(f.getD i []).getD j bF ∈ f.getD i []:=gV (by omega)
 have e:ent (mq8 f) i j=((f.getD i []).getD j bF).x:=by
  show ((mq8 f).getD i []).getD j 0=_
  unfold mq8 lq8
  rw[bf (l:=List.map _ f),qj,bn (by omega),bf (l:=f),bn (by omega)]
  have hl2:(f[i]'(by omega)).length=3:=by rw[bf,bn (by omega)] at hl;exact hl
  show (List.map (fun q:aG=>q.x) f[i]).getD j 0=(f[i].getD j bF).x
  rw[bf,qj,bf,bn (by omega)];rfl
 rw[e]
 exact((hs.2 _ hr).2 _ hq).2.2 ((h3 _ hr).2 _ hq)
theorem a6q {f:MR} (hs:rV f) (h:rW f=true):dcP (mq8 f):=by
 have hm:=c1w hs h
 refine⟨hm,?_⟩
 obtain⟨_,_,q,hq,hz⟩:=c1x hs h
 obtain⟨r,hr,hq⟩:=Ej.1 hq
 obtain⟨i,hi,rfl⟩:=Au hr
 obtain⟨j,hj,rfl⟩:=Au hq
 have hl:(mq8 f).length=3:=hm.1.len
 have hw:=hm.1.2.1 _ hr
 refine⟨i,j,by omega,by omega,?_⟩
 show ((mq8 f).getD i []).getD j 0≠0
 rw[bf (l:=mq8 f),bn hi]
 show ((mq8 f)[i]).getD j 0≠0
 rw[bf,bn hj]
 exact hz
set_option maxHeartbeats 4000000
abbrev mM:Type:=a8c × List Int × Unit
def negL (u:List Int):List Int:=[-(u.getD 0 0),-(u.getD 1 0),-(u.getD 2 0)]
def c3P (u:List Int):List Int:=[u.getD 0 0,u.getD 1 0,u.getD 2 0]
def poE (e:MQ) (k:Nat):List mM:=[((omT (dcM e k)).1,c3P (axU e),()),((omT (dcM e k)).1,negL (axU e),())]
def poL (e:MQ) (k:Nat):List mM:=((List.range k).map (poE e)).flatten
def dcT (e:MQ):List mM × Int × Unit:=if FK e=true/\rtB (sqD e)=true then (if (omT (dcM e 0)).2.1≠0 then ([],(omT (dcM e 0)).2.1,()) else if (omT (dcM e 1)).2.1≠0 then ([],(omT (dcM e 1)).2.1,()) else (poL e 2,0,())) else ([],15,())
def dcR (f:MR):List mM × Int × Unit:=if rW f=true then dcT (mq8 f) else ([],1,())
theorem a5J (e:MQ) (k:Nat):(poL e k).length=2*k:=by
 unfold poL
 induction k with
 | zero=>rfl
 | succ k ih=>rw[oh,ug,List.flatten_append,dn,ih];show 2*k+2=_;omega
theorem b6u (e:MQ) (k:Nat):poL e (k+1)=poL e k++poE e k:=by
 unfold poL
 rw[oh,ug,List.flatten_append]
 show _++(poE e k++[])=_
 rw[Ai]
theorem ZU {e:MQ} (h:FK e=false\/rtB (sqD e)=false):([]=(dcT e).1/\15=(dcT e).2.1):=by
 rw[show dcT e=([],15,()) from eu fun⟨a,b⟩=>by
  rcases h with h|h
  ·rw[h] at a;cases a
  ·rw[h] at b;cases b]
 exact⟨rfl,rfl⟩
theorem a4R {e:MQ} (hE:FK e=true) (hb:rtB (sqD e)=true) {k:Nat} (hk:k<2) (h:∀ j,j<k->(omT (dcM e j)).2.1=0) (h2:¬ (omT (dcM e k)).2.1=0):[]=(dcT e).1/\(omT (dcM e k)).2.1=(dcT e).2.1:=by
 rw[show dcT e=_ from iw ⟨hE,hb⟩]
 have hc:k=0\/k=1:=by omega
 rcases hc with rfl|rfl
 ·rw[iw h2];exact⟨rfl,rfl⟩
 ·rw[eu (fun c=>c (h 0 (by omega))),iw h2];exact⟨rfl,rfl⟩
theorem a4Q {e:MQ} (hE:FK e=true) (hb:rtB (sqD e)=true) {k:Nat} (hk:k=2) (h:∀ j,j<k->(omT (dcM e j)).2.1=0):poL e k=(dcT e).1/\0=(dcT e).2.1:=by
 subst hk
 rw[show dcT e=_ from iw ⟨hE,hb⟩,eu (fun c=>c (h 0 (by omega))),eu (fun c=>c (h 1 (by omega)))]
 exact⟨rfl,rfl⟩
theorem nx2 {P:Nat->Prop} {k:Nat} (h:∀ j,j<k->P j) (h2:P k):∀ j,j<k+1->P j:=fun j hj=>by
 rcases um.1 hj with hj|rfl
 ·exact h j hj
 ·exact h2
noncomputable def c5i:Ctr:=⟨[tQ,tQ],[tQ,tI],fun x=>s44 x.1 x.2.1/\(show Rat from x.2.1)≠0,fun x=>((show Rat from x.1) / (show Rat from x.2.1),(0:Int),())⟩
theorem b3m:aH Tryz.prog 87 c5i:=by
 intro F w vs x hF hvs hp
 refine(OM F w vs x hF hvs hp.1).mono ?_
 rintro e w' ⟨v,rfl,hv,hb⟩
 obtain⟨a,b,t⟩:=x
 rw[show (a8n 400000000 14).fn (a,b,t)=(dM ((show Rat from a) / (show Rat from b)),0,()) from eu hp.2] at hv
 obtain⟨vs2,rfl,v1,vs3,rfl,⟨cs,h1,h2⟩,h3⟩:=hv
 exact⟨_,rfl,⟨_,rfl,v1,vs3,rfl,⟨cs,h1,oI (.lf .gQ) (.lf .rat) _ rfl cs _ h2 ⟨rfl,trivial⟩⟩,h3⟩,hb⟩
theorem b4Q {F:Nat->Prop} {w:World} {v:Value} {f:MR} (h:iQ F w tMR v f) (ho:∀ r ∈ f,∀ q ∈ r,q.ok=true):iQ F w tM v (mq8 f):=by
 obtain⟨cs,e,hr⟩:=h
 refine⟨cs,e,oI tMR tM (TB (TB ⟨fun x=>[aG.ok x=true],fun x=>aG.x x⟩)) rfl cs f hr ⟨?_,trivial⟩⟩
 exact iT.mpr fun r hr=>⟨iT.mpr fun q hq=>⟨ho r hr q hq,trivial⟩,trivial⟩
theorem a4P {P:Program} {g:FuncId} {res:List Ty} {b4G:(nest [tMR]).den->Prop} {fnN:(nest [tMR]).den->(nest res).den} {dN:∀ x,Dc (b4G x)} {b4H:(nest [tM]).den->Prop} {fnV:(nest [tM]).den->(nest res).den} {dV:∀ x,Dc (b4H x)} {pre:(nest [tMR]).den->Prop} {fn:(nest [tMR]).den->(nest res).den} {d:∀ x,Dc (pre x)} (hV:aH P g (@Ctr.mk [tM] res b4H fnV dV)) (hN:aH P g (@Ctr.mk [tMR] res b4G fnN dN)) (h:∀ f:MR,pre (f,())->(b4G (f,())/\fnN (f,())=fn (f,()))\/((∀ r ∈ f,∀ q ∈ r,q.ok=true)/\b4H (mq8 f,())/\fnV (mq8 f,())=fn (f,()))):aH P g (@Ctr.mk [tMR] res pre fn d):=by
 intro F w vs x hF hvs hp
 obtain⟨f,u⟩:=x
 rcases h f hp with⟨h1,h2⟩|⟨h0,h1,h2⟩
 ·have:=hN F w vs (f,()) hF hvs h1
  rw[show (@Ctr.mk [tMR] res b4G fnN dN).fn (f,())=fn (f,()) from h2] at this
  exact this
 ·obtain⟨v,vs',rfl,h3,h4⟩:=hvs
  have:=hV F w (v::vs') (mq8 f,()) hF ⟨v,vs',rfl,b4Q h3 h0,h4⟩ h1
  rw[show (@Ctr.mk [tM] res b4H fnV dV).fn (mq8 f,())=fn (f,()) from h2] at this
  exact this
noncomputable def a4C:Ctr:=⟨[tM],[tB],fun x=>dcP x.1,fun _=>(true,())⟩
def lfM (e:MQ):MR:=List.map (fun r=>List.map (fun q=>dM q) r) e
theorem b8e {F:Nat->Prop} {w:World} {v:Value} {e:MQ} (h:iQ F w tM v e):iQ F w tMR v (lfM e):=by
 obtain⟨cs,g,hr⟩:=h
 refine⟨cs,g,oI tM tMR (TB (TB ⟨fun _=>[],fun x=>dM x⟩)) rfl cs e hr ⟨?_,trivial⟩⟩
 exact iT.mpr fun r hr=>⟨iT.mpr fun q hq=>trivial,trivial⟩
theorem c3J {e:MQ} (h:dcP e):rV (lfM e)/\rW (lfM e)=true:=by
 have l3:e.length=3:=h.1.1.len
 have r3:∀ r ∈ lfM e,r.length=3/\∀ q ∈ r,∃ x,q=dM x/\rsz x<=1:=fun r hr=>by
  obtain⟨s,hs,rfl⟩:=ni.1 hr
  refine⟨by rw[jo];exact h.1.1.2.1 s hs,fun q hq=>?_⟩
  obtain⟨x,hx,rfl⟩:=ni.1 hq
  exact⟨x,rfl,h.1.flat.2 x (Ej.2 ⟨s,hs,hx⟩)⟩
 have ll:(lfM e).length=3:=by unfold lfM;rw[jo,l3]
 refine⟨⟨by omega,fun r hr=>⟨by have:=(r3 r hr).1;omega,fun q hq=>?_⟩⟩,?_⟩
 ·obtain⟨x,rfl,hx⟩:=(r3 r hr).2 q hq
  have n1:=gX x
  have n2:=fU x
  exact⟨ak (show (dM x).n<=isz x.num from aj _) (by omega),ak (show (dM x).m<=isz ((x.den:Nat):Int) from aj _) (by omega),fun _=>hx⟩
 ·rw[DY,<-a2S,jf ll,Bool.true_and,ay]
  refine⟨qg.2 fun r hr=>rC.2 ⟨(r3 r hr).1,fun q hq=>?_⟩,?_⟩
  ·obtain⟨x,rfl,_⟩:=(r3 r hr).2 q hq
   rfl
  ·obtain⟨i,j,hi,hj,hz⟩:=h.2
   have m1:e.getD i [] ∈ e:=gV (by omega)
   have m2:(e.getD i []).getD j 0 ∈ e.getD i []:=gV (by rw[(h.m.rows.2 i hi).1];exact hj)
   exact Bl.2 ⟨dM ((e.getD i []).getD j 0),Ej.2 ⟨_,ni.2 ⟨_,m1,rfl⟩,ni.2 ⟨_,m2,rfl⟩⟩,jf hz⟩
theorem a8R {P:Program} {g:FuncId} (h:aH P g b6W):aH P g a4C:=by
 intro F w vs x hF hvs hp
 obtain⟨v,vs',rfl,h1,h2⟩:=hvs
 obtain⟨a,b⟩:=c3J hp
 have:=h F w (v::vs') (lfM x.1,()) hF ⟨v,vs',rfl,b8e h1,h2⟩ a
 rw[show b6W.fn (lfM x.1,())=a4C.fn x from ql (fun y:Bool=>(y,())) b] at this
 exact this
noncomputable def c2f:Ctr:=⟨[tMR],[.list rJ,tI],fun x=>rV x.1/\rW x.1=false,fun _=>([],(1:Int),())⟩
theorem b3e:aH Tryz.prog 21 c2f:=by
 refine aI (nil0.ad a6p) ⟨[5,6,8,10,11,13,23,24,28],[],[]⟩ Tryz.func21 rfl (by decide) (fun x=>[.turns 1 [] [] []]) (fun x hp=>?_)
 obtain⟨f,u⟩:=x
 change List (List aG) at f
 refine aO ((rV f/\True)/\ifB (!rW f) (True/\asT (List ((Int × Int × Int × Int × PUnit) × List Int × PUnit)) (aC ((Int × Int × Int × Int × PUnit) × List Int × PUnit))=aC ((Int × Int × Int × Int × PUnit) × List Int × PUnit)/\True/\asT Int 1=1/\True) False) (by kernel_rfl) ?_
 try simp only[zP0]
 try dsimp only[aB,asT,aA,aC,Ty.den,Lf.den] at *
 try simp only[zP1]
 try simp only[zP2]
 obtain⟨h1,h2⟩:rV f/\rW f=false:=hp
 exact⟨h1,fun h=>by rw[h2] at h;cases h⟩
noncomputable def c2g:Ctr:=⟨[tM],[.list rJ,tI],fun x=>dcP x.1,fun x=>dcT x.1⟩
noncomputable def stN:Nat:=Classical.choice ⟨0⟩
noncomputable def stc {α:Type} (x:α):α:=if stN=stN then x else x
theorem jV {α:Type} (x:α):stc x=x:=by unfold stc;split<;>rfl
noncomputable def c5h:Ctr:=⟨[tQ,tQ],[tQ,tI],fun x=>s44 x.1 x.2.1/\(show Rat from x.2.1)≠0,fun x=>(stc ((show Rat from x.1) / (show Rat from x.2.1)),(0:Int),())⟩
theorem b3l:aH Tryz.prog 87 c5h:=gG b3m fun x _=>ql (fun y:Rat=>(y,(0:Int),())) (jV _).symm
noncomputable def c4G:Ctr:=⟨[tM],[.list tZ,tQ],fun x=>axP x.1,fun x=>(stc (axU x.1),stc (axL x.1),())⟩
theorem b2x:aH Tryz.prog 86 c4G:=gG b2z fun x _=>show (axU x.1,axL x.1,())=(stc (axU x.1),stc (axL x.1),()) by rw[jV,jV]
noncomputable def c5z:Ctr:=⟨[tM,.list tM],[tM],fun x=>nD x.1 x.2.1,fun x=>(stc (fB x.1 x.2.1),())⟩
theorem b4F:aH Tryz.prog 64 c5z:=gG a5M fun x _=>ql (fun y:MQ=>(y,())) (jV _).symm
noncomputable def c6b:Ctr:=⟨[tM],[tM],fun x=>okM x.1,fun x=>(stc (trM x.1),())⟩
theorem b5w:aH Tryz.prog 65 c6b:=gG a6j fun x _=>ql (fun y:MQ=>(y,())) (jV _).symm
noncomputable def c5N:Ctr:=⟨[tM,tQ],[tM,tI],fun x=>okM x.1/\rsz x.2.1<=400000000,fun x=>(stc (nT x.1 x.2.1),(0:Int),())⟩
theorem b5h:aH Tryz.prog 92 c5N:=gG a2u fun x _=>ql (fun y:MQ=>(y,(0:Int),())) (jV _).symm
noncomputable def c4T:Ctr:=⟨[tM],[tM],fun x=>m33 1000000 x.1,fun x=>(stc (xO x.1),())⟩
theorem b2R:aH Tryz.prog 93 c4T:=gG a8K fun x _=>ql (fun y:MQ=>(y,())) (jV _).symm
noncomputable def c4M:Ctr:=⟨[.list tZ],[tM],fun x=>(show List Int from x.1).length=3/\∀ n ∈ (show List Int from x.1),isz n<=1000000,fun x=>(stc (zN ((show List Int from x.1).map fun n=>aV n)),())⟩
theorem b2I:aH Tryz.prog 94 c4M:=gG b2T fun x _=>ql (fun y:MQ=>(y,())) (jV _).symm
noncomputable def c5W:Ctr:=⟨[tM,tM],[tM,tI],fun x=>okM x.1/\okM x.2.1/\(show MQ from x.1).length=(show MQ from x.2.1).length/\wdM (show MQ from x.1)=wdM (show MQ from x.2.1),fun x=>(stc (UO x.1 x.2.1),(0:Int),())⟩
theorem b5p:aH Tryz.prog 95 c5W:=gG b1U fun x _=>ql (fun y:MQ=>(y,(0:Int),())) (jV _).symm
noncomputable def c4E:Ctr:=⟨[tM,tM],[tM,tI],fun x=>okM x.1/\okM x.2.1/\(show MQ from x.1).length=(show MQ from x.2.1).length/\wdM (show MQ from x.1)=wdM (show MQ from x.2.1),fun x=>(stc (QG x.1 x.2.1),(0:Int),())⟩
theorem b2v:aH Tryz.prog 96 c4E:=gG a8d fun x _=>ql (fun y:MQ=>(y,(0:Int),())) (jV _).symm
theorem c1A:aH Tryz.prog 84 a4C:=(a8R a6p)
theorem b3f:aH Tryz.prog 21 c2g:=by
 refine aI ((((((((((((((((((nil0.ad sN).ad sF).ad OM).ad uN).ad b3l).ad c1A).ad b3w).ad b2x).ad b4F).ad b5w).ad UY).ad b5e).ad b5h).ad b2R).ad b2I).ad b5p).ad b2v).ad b4t) ⟨[5,6,8,10,11,13,23,24,28],[],[]⟩ Tryz.func21 rfl (by decide) (fun x=>[.inv {k:Nat // k<=2/\∀ j,j<k->(omT (dcM (show MQ from x.1) j)).2.1=0} (fun k=>[(137,.val tI (k.1:Int)),(25,.own 156 0),(156,.any)]) (fun k=>[(23,.box [⟨tZ,(axU (show MQ from x.1)).getD 0 0⟩,⟨tZ,(axU (show MQ from x.1)).getD 1 0⟩,⟨tZ,(axU (show MQ from x.1)).getD 2 0⟩]),(24,.box [⟨tZ,-((axU (show MQ from x.1)).getD 0 0)⟩,⟨tZ,-((axU (show MQ from x.1)).getD 1 0)⟩,⟨tZ,-((axU (show MQ from x.1)).getD 2 0)⟩]),(156,.row 60 rJ (poL (show MQ from x.1) k.1) 0)]) (fun k=>2-k.1) ⟨0,by omega,fun j h=>absurd h (yu j)⟩ (fun _=>[])]) (fun x hp=>?_)
 obtain⟨e,u⟩:=x
 change MQ at e
 refine aO (let aU:=((Int × Int × Int × Int × PUnit) × List Int × PUnit);let aX:=(True/\aC aU=Prod.fst (dcT e)/\True/\15=Prod.fst (dcT e).2/\True);let bJ:=(stc (axU e)).length;let dA:=(stc (zN (List.map (fun(n:Int)=>aV n) (stc (axU e)))));let dL:=(stc (trM e)::aC (List (List Rat)));let A₁:=(trQ (stc (fB e dL)) / (aV 2*stc (axL e)));let dF:=(rtT (stc A₁)).1;let fO:=(e::aC (List (List Rat)));let jA:=(aG.x dF*stc (axL e));let A₂:=(stc (nT (stc (fB dA fO)) (stc (aV 1 / jA))));let gK:=(stc A₁*stc (axL e));let aN:=(stc (nT (stc (xO e)) (stc (aV 1 / gK))));let A₀:=(stc (UO aN A₂)::stc (QG aN A₂)::aC (List (List Rat)));let dP:=((okM aN/\okM A₂/\List.length aN=List.length A₂/\wdM aN=wdM A₂)/\True);(dcP e/\True)/\(m33 100 e/\True)/\ifB (!FK e) aX ((axP e/\True)/\ifB (aB bJ==0) aX ((okM e/\nD e dL/\m33 1000000 (stc (fB e dL))/\bP 2/\s44 (aV 2) (stc (axL e))/\(s44 (trQ (stc (fB e dL))) (aV 2*stc (axL e))/\aV 2*stc (axL e)≠0)/\True)/\((0<Rat.num (stc A₁)/\rsz (stc A₁)<=100000)/\True)/\ifB (!Prod.fst (rtT (stc A₁)).2) aX ((bP 1/\True)/\(s44 (stc A₁) (stc (axL e))/\(s44 (aV 1) gK/\stc A₁*stc (axL e)≠0)/\True)/\(aG.ok dF=true/\s44 (aG.x dF) (stc (axL e))/\(s44 (aV 1) jA/\aG.x dF*stc (axL e)≠0)/\True)/\(m33 1000000 e/\(okM (stc (xO e))/\rsz (stc (aV 1 / gK))<=400000000)/\True)/\((List.length (stc (axU e))=3/\∀ (n:Int),n ∈ stc (axU e)->isz n<=1000000)/\nD dA fO/\(okM (stc (fB dA fO))/\rsz (stc (aV 1 / jA))<=400000000)/\True)/\dP/\dP/\(asT Int 0<=0/\0<aB bJ/\asT Int 0<=1/\1<aB bJ/\asT Int 0<=2/\2<aB bJ/\True)/\(asT Int 0<=0/\0<aB bJ/\isz (List.getD (stc (axU e)) 0 0)<=1000000000/\asT Int 0<=1/\1<aB bJ/\isz (List.getD (stc (axU e)) 1 0)<=1000000000/\asT Int 0<=2/\2<aB bJ/\isz (List.getD (stc (axU e)) 2 0)<=1000000000/\True)/\(asT Int 0=0/\(True/\poL e 0=aC aU)/\List.getD (stc (axU e)) 0 0=List.getD (axU e) 0 0/\List.getD (stc (axU e)) 1 0=List.getD (axU e) 1 0/\List.getD (stc (axU e)) 2 0=List.getD (axU e) 2 0/\-List.getD (stc (axU e)) 0 0=-List.getD (axU e) 0 0/\-List.getD (stc (axU e)) 1 0=-List.getD (axU e) 1 0/\-List.getD (stc (axU e)) 2 0=-List.getD (axU e) 2 0/\(poL e 0=aC aU/\0=0/\asT Bool true=true)/\True)/\∀ (i:{ k:Nat // k<=2/\∀ (j:Nat),j<k->Prod.fst (omT (dcM e j)).2=0 }),let kW:=(List.getD A₀ (aB (aA i)).toNat (aC (List Rat)));let vG:=(omT kW).1.2;let gB:=(Prod.fst (omT kW).1,Prod.fst vG,Prod.fst vG.2,Prod.fst vG.2.2,());let qA:=(gB,-List.getD (axU e) 0 0::-List.getD (axU e) 1 0::-List.getD (axU e) 2 0::aC Int,());let wC:=(gB,List.getD (axU e) 0 0::List.getD (axU e) 1 0::List.getD (axU e) 2 0::aC Int,());asT Bool true=true/\ifB (decide (aB (aA i)<aB A₀.length)) ((0<=aB (aA i)/\aB (aA i)<aB A₀.length/\True)/\(m33 150000 kW/\True)/\ifB (Prod.fst (omT kW).2 != 0) (True/\aC aU=Prod.fst (dcT e)/\True/\Prod.fst (omT kW).2=Prod.fst (dcT e).2/\True) ((List.length (poL e (aA i))+List.length (wC::qA::aC aU)<=1000000000/\True)/\∃ (i':{ k:Nat // k<=2/\∀ (j:Nat),j<k->Prod.fst (omT (dcM e j)).2=0 }),2-aA i'<2-aA i/\IntKind.wrap IntKind.i64 (aB (aA i)+1)=aB (aA i')/\List.getD (axU e) 0 0=List.getD (axU e) 0 0/\List.getD (axU e) 1 0=List.getD (axU e) 1 0/\List.getD (axU e) 2 0=List.getD (axU e) 2 0/\-List.getD (axU e) 0 0=-List.getD (axU e) 0 0/\-List.getD (axU e) 1 0=-List.getD (axU e) 1 0/\-List.getD (axU e) 2 0=-List.getD (axU e) 2 0/\poL e (aA i)++wC::qA::aC aU=poL e (aA i')/\True)) (True/\poL e (aA i)=Prod.fst (dcT e)/\True/\0=Prod.fst (dcT e).2/\True))))) (by kernel_rfl) ?_
 simp only[jV]
 try simp only[zP0]
 try dsimp only[aB,asT,aA,aC,Ty.den,Lf.den] at *
 try simp only[zP1]
 try simp only[zP2]
 have hP:dcP e:=hp
 have b1:fB e [trM e]=gM e:=rfl
 have b2:fB (zN (List.map (fun n=>aV n) (axU e))) [e]=ueM e:=rfl
 have s0:trQ (gM e) / (aV 2*axL e)=sqD e:=rfl
 have s1:aV 1 / (sqD e*axL e)=aD e:=rfl
 have s2:nT (xO e) (aD e)=fiM e:=rfl
 simp only[b1,b2,s0,s1,s2]
 have o1:=(hP.m.mono (show 100<=1000000 by omega)).ok (aj _)
 have hl:=sD e
 have hus:=KW hP.ax
 have u:∀ k,k<3->isz ((axU e).getD k 0)<=12001:=fun k hk=>cZ hus (by rw[hl];exact hk)
 have z1:=QM hP.ax
 have z2:=a0D hP
 have z3:=FZ (RU hP.m)
 have z4:rsz (aV 2)<=10:=by decide +kernel
 have z5:rsz (aV 1)<=10:=by decide +kernel
 have z6:=cO (aV 2) (axL e)
 have z7:=b6x hP
 have z8:=b6o hP
 have z9:rsz (kD e)<=rsz (sqD e):=a3U _
 have za:=b5K hP
 have zb:=b5L hP
 have g0:=a5m hP
 have g1:=b1D hP
 have g2:=b0a hP
 have oc:=((a1c hP.m).mono (show 500<=1000000 by omega)).ok (aj _)
 have ou:=((a7S hP).mono (show 37000<=1000000 by omega)).ok (aj _)
 have of:=((b3x hP).mono (show 52000<=1000000 by omega)).ok (aj _)
 have os:=((b5i hP).mono (show 88100<=1000000 by omega)).ok (aj _)
 rw[hl]
 refine⟨hP,hP.m,fun h=>ZU (.inl h),fun hE=>⟨hP.ax,fun h=>by omega,fun _=>⟨⟨o1.1,a2j (by omega) hP.m hP.m.tr,(RU hP.m).mono (by omega),by decide,⟨by omega,by omega⟩,⟨by omega,by omega⟩,g0⟩,⟨JQ (sJ hP),by omega⟩,fun h=>?_,fun h=>?_⟩⟩⟩
 ·have hb:rtB (sqD e)=false:=by
   rw[<-Aq];intro c
   unfold rtT at h
   rw[iw c] at h;cases h
  exact ZU (.inr hb)
 ·have hb:rtB (sqD e)=true:=by
   apply Eh;intro c
   unfold rtT at h
   rw[eu c] at h;cases h
  have hR:rtT (sqD e)=(dM (kD e),true,()):=iw hb
  have s3:(dM (kD e)).x=kD e:=rfl
  have s4:nT (ueM e) (bD e)=seM e:=rfl
  have s5:aV 1 / (kD e*axL e)=bD e:=rfl
  simp only[hR,s3,s5,s4]
  have dk:∀ k,k<2->[UO (fiM e) (seM e),QG (fiM e) (seM e)].getD k []=dcM e k:=fun k hk=>by
   have:k=0\/k=1:=by omega
   rcases this with rfl|rfl<;>rfl
  refine⟨by decide,⟨⟨by omega,by omega⟩,⟨by omega,by omega⟩,g1⟩,⟨by first|exact trivial|rfl,⟨by omega,by omega⟩,⟨by omega,by omega⟩,g2⟩,⟨hP.m.mono (by omega),oc.1,by omega⟩,⟨⟨by first|exact trivial|rfl,fun n hn=>ak (hus n hn) (by omega)⟩,?_,ou.1,by omega⟩,⟨of.1,os.1,by rw[of.2.2.2,os.2.2.2],by rw[of.2.2.1,os.2.2.1]⟩,⟨of.1,os.1,by rw[of.2.2.2,os.2.2.2],by rw[of.2.2.1,os.2.2.1]⟩,by omega,⟨by omega,by omega,ak (u 0 (by omega)) (by omega),by omega,by omega,ak (u 1 (by omega)) (by omega),by omega,by omega,ak (u 2 (by omega)) (by omega)⟩,rfl,fun i=>⟨fun h1=>?_,fun h1=>?_⟩⟩
  ·exact⟨by show 1<=1000;omega,fun n hn=>by
    rw[ng] at hn
    subst hn
    exact hP.m.mono (by omega),fun k hk=>by
    have hk:k<=1:=hk
    have e1:k=0\/k=1:=by omega
    rcases e1 with rfl|rfl<;>simp only[List.take_zero,List.take_succ_cons,DJ,yE]
    ·exact(c4m hP.ax).mono (by omega)
    ·exact(a7S hP).mono (by omega)⟩
  ·have hi:i.1<2:=by omega
   rw[dk i.1 hi]
   exact⟨by omega,c2Q hP i.1,fun h2=>a4R hE hb hi i.2.2 h2,fun h2=>⟨by rw[a5J];omega,⟨i.1+1,by omega,nx2 i.2.2 h2⟩,by simp only;omega,by rw[aJ (by omega) (by omega)];rfl,(b6u e i.1).symm⟩⟩
  ·exact a4Q hE hb (by have:=i.2.1;omega) i.2.2
noncomputable def c4Z:Ctr:=⟨[tMR],[.list rJ,tI],fun x=>rV x.1,fun x=>dcR x.1⟩
theorem a1f {f:MR} (hs:rV f):((rV f/\rW f=false)/\(([],1,()):List mM × Int × Unit)=dcR f)\/((∀ r ∈ f,∀ q ∈ r,q.ok=true)/\dcP (mq8 f)/\dcT (mq8 f)=dcR f):=by
 cases h:rW f
 ·exact .inl ⟨⟨hs,rfl⟩,(eu (by rw[h];decide)).symm⟩
 ·exact .inr ⟨(a6r hs h).2,a6q hs h,(iw h).symm⟩
theorem b3c:aH Tryz.prog 21 c4Z:=a4P b3f b3e fun f hp=>a1f hp
set_option maxHeartbeats 1000000
def qz (x:Rat) (a b:Nat):Prop:=isz x.num<=a/\isz ((x.den:Nat):Int)<=b
theorem b1c {n d:Int} (hd:d≠0) {a b:Nat} (h1:isz n<=a) (h2:isz d<=b):qz (Rat.divInt n d) a b:=by
 have ⟨p,q⟩:=ES n d
 rcases q with q|q
 ·exact⟨ak (rF p) h1,ak (rF q) h2⟩
 ·exact absurd q hd
theorem b7b {x y:Rat}:((x.den:Nat):Int)*((y.den:Nat):Int)≠0:=by
 have:=x.den_nz
 have:=y.den_nz
 exact Dl (by omega) (by omega)
theorem a3D {x y:Rat} {a b c d:Nat} (hx:qz x a b) (hy:qz y c d):qz (x*y) (a+c) (b+d):=by
 rw[<-JX]
 refine b1c b7b ?_ ?_
 ·have:=fJ x.num y.num;have:=hx.1;have:=hy.1;omega
 ·have:=fJ x.den y.den;have:=hx.2;have:=hy.2;omega
theorem UD {x y:Rat} {a b c d:Nat} (hx:qz x a b) (hy:qz y c d):qz (x+y) (max (a+d) (c+b)+1) (b+d):=by
 rw[<-PU]
 refine b1c b7b ?_ ?_
 ·have:=sG (x.num*y.den) (y.num*x.den)
  have:=fJ x.num y.den;have:=fJ y.num x.den
  have:=hx.1;have:=hx.2;have:=hy.1;have:=hy.2
  omega
 ·have:=fJ x.den y.den;have:=hx.2;have:=hy.2;omega
theorem b1d {x:Rat} {a b:Nat} (h:qz x a b):qz (-x) a b:=⟨by rw[Rat.neg_num,jJ];exact h.1,by rw[Rat.neg_den];exact h.2⟩
theorem b8b {x y:Rat} {a b c d:Nat} (hn:y≠0) (hx:qz x a b) (hy:qz y c d):qz (x / y) (a+d) (b+c):=by
 rw[<-PV]
 have h2:y.num≠0:=fun h=>hn ((pO y).1 h)
 refine b1c (Dl (by have:=x.den_nz;omega) h2) ?_ ?_
 ·have:=fJ x.num y.den;have:=hx.1;have:=hy.2;omega
 ·have:=fJ x.den y.num;have:=hx.2;have:=hy.1;omega
theorem qz.rsz {x:Rat} {a b k:Nat} (h:qz x a b) (ha:a<=k) (hb:b<=k):rsz x<=k:=by
 have h2:=h.2
 have:isz ((x.den:Nat):Int)=nsz x.den:=by simp[isz]
 exact Nat.max_le.2 ⟨ak h.1 ha,by omega⟩
theorem b1e {x:Rat} {k:Nat} (h:Proofs.YtbkocjmmbkifjaaGreat.rsz x<=k):qz x k k:=⟨ak (gX x) h,ak (fU x) h⟩
theorem qz.le {x:Rat} {a b c d:Nat} (h:qz x a b) (h1:a<=c) (h2:b<=d):qz x c d:=⟨ak h.1 h1,ak h.2 h2⟩
theorem a1A {e:MQ} (he:m33 1 e) {i j:Nat} (hi:i<3) (hj:j<3):qz (ent (gM e) i j) 8 6:=by
 rw[IV he hi hj,Rat.zero_add]
 have s:∀ a b,a<3->b<3->qz (ent e a b) 1 1:=fun a b ha hb=>b1e (he.2 a (by rw[he.1.len];exact ha) b (by rw[he.1.wd];exact hb))
 have p:∀ b,b<3->qz (ent e i b*ent e j b) 2 2:=fun b hb=>a3D (s i b hi hb) (s j b hj hb)
 exact(UD (UD (p 0 (by omega)) (p 1 (by omega))) (p 2 (by omega))).le (by omega) (by omega)
theorem b6D {e:MQ} (he:m33 1 e):qz (trQ (gM e)) 22 18 :=
 (UD (a1A he (by omega) (by omega)) (UD (a1A he (by omega) (by omega)) (a1A he (by omega) (by omega)))).le (by omega) (by omega)
theorem c3r {e:MQ} (he:m33 1 e):qz (hlT e) 23 19:=by
 have h:qz (Rat.divInt 1 2) 1 1:=b1e (by decide +kernel)
 exact(a3D h (b6D he)).le (by omega) (by omega)
theorem c3c {e:MQ} (he:m33 1 e) {i j:Nat} (hi:i<3) (hj:j<3):qz (hE e i j) 30 25:=by
 unfold hE
 split
 ·exact(UD (b1d (a1A he hi hj)) (c3r he)).le (by omega) (by omega)
 ·exact(b1d (a1A he hi hj)).le (by omega) (by omega)
theorem b2y {e:MQ} (h:dcP e):∀ n ∈ axU e,isz n<=121:=fun n hn=>by
 obtain⟨h1,h2,_⟩:=h.ax.at
 have:=a2i (K:=30) (QK h.m h1 h2) (fun q hq=>by
  obtain⟨i,hi,rfl⟩:=ni.1 hq
  exact(c3c h.1 (oq.1 hi) h1).rsz (by omega) (by omega)) n hn
 rw[CO] at this
 omega
theorem b6Q {e:MQ} (h:dcP e):qz (axL e) 245 1:=by
 have a:=a0E (b2y h) 3 (by rw[sD];exact aj _)
 refine⟨?_,?_⟩
 ·show isz ((sqI (axU e) 3:Int):Rat).num<=_
  rw[Rat.num_intCast];omega
 ·show isz ((((sqI (axU e) 3:Int):Rat).den:Nat):Int)<=_
  rw[Rat.den_intCast];decide +kernel
theorem b5n {e:MQ} (h:dcP e):rsz (sqD e)<=268:=by
 have t:qz (aV 2) 1 1:=b1e (by decide +kernel)
 exact(b8b (a5m h) (b6D h.1) (a3D t (b6Q h))).rsz (by omega) (by omega)
def uQ (e:MQ) (k:Nat):LQ':=(List.range k).map fun i=>aV ((axU e).getD i 0)
def zrB (e:MQ) (k n:Nat):Bool:=(List.range n).all fun i=>decide (hE e i k=0)
def sgS (s:Nat):Int:=([-1,1]:List Int).getD s 0
def lwE (e:MQ) (s i j:Nat):Rat:=(mV (ent e) i j / sqD e+aV (sgS s)*ent (ueM e) i j / kD e) / axL e
theorem b6J (e:MQ) (k:Nat):zrB e k 3=!axN e k:=by
 unfold zrB axN axC nz8
 rw[List.any_map,Bool.eq_iff_iff]
 simp
theorem b6d (e:MQ):trQ (gM e) / aV 2=hlT e:=by
 have h:Rat.divInt 1 2=2⁻¹:=by decide +kernel
 unfold hlT
 rw[h,q2,Rat.div_def,Rat.mul_comm]
theorem c4g {e:MQ} (h:dcP e):hlT e / axL e=sqD e:=by
 have a:=xI h.ax
 have b:=a5m h
 rw[<-b6d]
 unfold sqD
 rw[q2] at *
 have c:=Ak _ b
 have d:=Ak (axL e) (by grind)
 have f:=Ak (2:Rat) (by decide +kernel)
 simp only[Rat.div_def]
 generalize (2*axL e)⁻¹=x at *
 generalize (axL e)⁻¹=y at *
 generalize (2:Rat)⁻¹=z at *
 have:x=z*y:=by grind
 grind
theorem c2T (e:MQ):oM (uQ e 3) (uQ e 3) 3=axL e:=by
 have m:∀ a b:Int,aV (a+b)=aV a+aV b:=fun a b=>Rat.intCast_add a b
 have n:∀ a b:Int,aV (a*b)=aV a*aV b:=fun a b=>Rat.intCast_mul a b
 have z:aV 0=0:=by decide +kernel
 show 0+aV ((axU e).getD 0 0)*aV ((axU e).getD 0 0)+aV ((axU e).getD 1 0)*aV ((axU e).getD 1 0)+aV ((axU e).getD 2 0)*aV ((axU e).getD 2 0)=aV (0+(axU e).getD 0 0*(axU e).getD 0 0+(axU e).getD 1 0*(axU e).getD 1 0+(axU e).getD 2 0*(axU e).getD 2 0)
 simp only[m,n,z]
theorem b2n (e:MQ):uQ e 3=(axU e).map fun n=>aV n:=by
 obtain⟨a,b,c,h⟩:=MN (sD e)
 unfold uQ
 rw[h];rfl
theorem c3K {e:MQ} (h:dcP e) {s i j:Nat} (hs:s<2) (hi:i<3) (hj:j<3):lwE e s i j=ent (dcM e s) i j:=by
 have f:=b3x h
 have g:=b5i h
 have hc:=i33 (f:=mV (ent e))
 have a:=Ak _ (b1D h)
 have b:=Ak _ (b0a h)
 have c:=Ak (axL e) (by have:=xI h.ax;grind)
 have d:=Ak (sqD e) (by have:=sJ h;grind)
 have k:=Ak (kD e) (a3T (sJ h))
 have e1:ent (fiM e) i j=aD e*mV (ent e) i j:=by
  unfold fiM nT
  rw[(a1c h.m).1.len,(a1c h.m).1.wd,kQ hi hj]
  unfold xO
  rw[kQ hi hj]
 have e2:ent (seM e) i j=bD e*ent (ueM e) i j:=by
  unfold seM nT
  rw[(a7S h).1.len,(a7S h).1.wd,kQ hi hj]
 have e3:ent (dcM e s) i j=if s=0 then ent (fiM e) i j-ent (seM e) i j else ent (fiM e) i j+ent (seM e) i j:=by
  unfold dcM
  split
  ·exact f.1.c4j hi hj
  ·exact f.1.c1J hi hj
 rw[e3,e1,e2]
 unfold lwE aD bD
 rw[q1']
 simp only[Rat.div_def]
 generalize (sqD e*axL e)⁻¹=x at *
 generalize (kD e*axL e)⁻¹=y at *
 generalize (axL e)⁻¹=z at *
 generalize (sqD e)⁻¹=t at *
 generalize (kD e)⁻¹=w at *
 have hx:x=t*z:=by grind
 have hy:y=w*z:=by grind
 have m1:aV (-1)=-1:=by decide +kernel
 have hs:s=0\/s=1:=by omega
 rcases hs with rfl|rfl
 ·rw[iw rfl,show sgS 0=-1 from rfl,m1];grind
 ·rw[eu (by omega),show sgS 1=1 from rfl,q1'];grind
def vlP (n d:Int):Rat:=if 0<d/\Int.gcd n d=1 then Rat.divInt n d else 0
theorem b1C {x:Rat} (hx:0<x) (h:rtB x=true):(0:Int)<((isq x.den:Nat):Int)/\Int.gcd ((isq x.num.natAbs:Nat):Int) ((isq x.den:Nat):Int)=1:=by
 unfold rtB at h
 rw[ay,gy,gy] at h
 have p:=OV (show 1<=x.den by have:=x.den_nz;omega)
 refine⟨by omega,?_⟩
 have r:=x.reduced
 have h1:x.num.natAbs=isq x.num.natAbs*isq x.num.natAbs:=by
  have:=ql Int.natAbs h.1
  rw[Int.natAbs_mul,Int.natAbs_natCast] at this
  exact this.symm
 have h2:x.den=isq x.den*isq x.den:=by
  have:=h.2
  exact_mod_cast this.symm
 rw[h1,h2] at r
 show Nat.gcd (isq x.num.natAbs) (isq x.den)=1
 exact Nat.Coprime.coprime_mul_left (Nat.Coprime.coprime_mul_left_right r)
theorem b8g {x:Rat} (hx:0<x):decide (vlP ((isq x.num.natAbs:Nat):Int) ((isq x.den:Nat):Int)*vlP ((isq x.num.natAbs:Nat):Int) ((isq x.den:Nat):Int)=x)=rtB x:=by
 have hn:0<x.num:=JQ hx
 by_cases h:rtB x=true
 ·rw[h,gy]
  have g:=b1C hx h
  unfold rtB at h
  rw[ay,gy,gy] at h
  unfold vlP
  rw[iw g,Rat.divInt_mul_divInt,h.1,h.2]
  exact Rat.num_divInt_den x
 ·rw[Aq] at h
  rw[h,oz]
  intro e
  have g:(0:Int)<((isq x.den:Nat):Int)/\Int.gcd ((isq x.num.natAbs:Nat):Int) ((isq x.den:Nat):Int)=1:=by
   apply Eh
   intro c
   unfold vlP at e
   rw[eu c,Rat.mul_zero] at e
   rw[<-e] at hx
   exact absurd hx Rat.lt_irrefl
  unfold vlP at e
  rw[iw g,Rat.divInt_mul_divInt] at e
  have c:Int.gcd (((isq x.num.natAbs:Nat):Int)*((isq x.num.natAbs:Nat):Int)) (((isq x.den:Nat):Int)*((isq x.den:Nat):Int))=1:=by
   have g2:Nat.Coprime (isq x.num.natAbs) (isq x.den):=g.2
   show Nat.gcd (Int.natAbs _) (Int.natAbs _)=1
   rw[Int.natAbs_mul,Int.natAbs_mul,Int.natAbs_natCast,Int.natAbs_natCast]
   exact Nat.Coprime.mul_left (Nat.Coprime.mul_right g2 g2) (Nat.Coprime.mul_right g2 g2)
  obtain⟨p1,p2⟩:=IE (Int.mul_pos g.1 g.1) c
  rw[e] at p1 p2
  unfold rtB at h
  rw[jf p1.symm,jf p2.symm] at h
  cases h
end Go.Proofs.YtbkocjmmbkifjaaGreat
