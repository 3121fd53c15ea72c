/-
  Lemmas for the theorem vdecomposes28_holds, part 31 of 34.
-/
import Derived.Test.YtbkocjmmbkifjaaGreatQd30
namespace Go.Proofs.YtbkocjmmbkifjaaGreat
open Go Go.RowKit
set_option maxRecDepth 100000
set_option maxHeartbeats 1000000
set_option linter.unusedVariables false
set_option linter.unusedSimpArgs false
def OI (R C:Nat) (f g:Nat->Nat->Rat) (r c:Nat):MQ:=tab R C fun i j=>if i<r\/i=r/\j<c then f i j else g i j
theorem a7Q {R C:Nat} {f g:Nat->Nat->Rat}:OI R C f g 0 0=tab R C g:=mD fun i _ j _=>eu (by omega)
theorem b2c {R C:Nat} {f g:Nat->Nat->Rat} {r c:Nat} (hr:r<R):(OI R C f g r c).set r (((OI R C f g r c).getD r []).set c (f r c))=OI R C f g r (c+1):=by
 unfold OI;rw[a2z _ hr]
 refine mD fun i _ j _=>?_
 by_cases e:i=r/\j=c
 ·obtain⟨rfl,rfl⟩:=e;rw[iw ⟨rfl,rfl⟩,iw (by omega)]
 ·rw[eu e]
  by_cases h:i<r\/i=r/\j<c
  ·rw[iw h,iw (by omega)]
  ·rw[eu h,eu (by omega)]
theorem b2b {R C:Nat} {f g:Nat->Nat->Rat} {r c:Nat} (hc:C<=c):OI R C f g r c=OI R C f g (r+1) 0:=by
 refine mD fun i _ j _=>?_
 by_cases h:i<r\/i=r/\j<c
 ·rw[iw h,iw (by omega)]
 ·rw[eu h,eu (by omega)]
theorem b1Z {R C:Nat} {f g:Nat->Nat->Rat} {r:Nat} (hr:R<=r):OI R C f g r 0=tab R C f:=mD fun i _ j _=>iw (by omega)
theorem b2a {R C:Nat} {f g:Nat->Nat->Rat} {r c:Nat}:(OI R C f g r c).length=R:=jW
theorem b5t {R C:Nat} {f g:Nat->Nat->Rat} {r c i:Nat} (hi:i<R):((OI R C f g r c).getD i []).length=C:=by unfold OI;rw[DU hi];simp
def AY (a b:MQ) (r c:Nat):MQ:=OI a.length (wdM b) (mm b.length (ent a) (ent b)) (fun _ _=>0) r c
noncomputable def c2u:Ctr:=⟨[tM,tM],[tM],fun x=>okM x.1/\okM x.2.1/\wdM (show MQ from x.1)=(show MQ from x.2.1).length/\szM x.1 1000000/\szM x.2.1 1000000,fun x=>(mulM x.1 x.2.1,())⟩
theorem a7B:aH Tryz.prog 80 c2u:=by
 refine aI ((((nil0.ad nK).ad sH).ad vY).an a5U) ⟨[8],[],[]⟩ Tryz.func80 rfl (by decide) (fun x=>[.inv {k:Nat // k<=(show MQ from x.1).length} (fun r=>[(6,.val tI (r.1:Int))]) (fun r=>[(16,.mat 39 47 tQ none (AY (show MQ from x.1) (show MQ from x.2.1) r.1 0) 0)]) (fun r=>(show MQ from x.1).length-r.1) ⟨0,by omega⟩ (fun r=>[.inv {k:Nat // k<=wdM (show MQ from x.2.1)} (fun c=>[(7,.val tI (c.1:Int))]) (fun c=>[(16,.mat 39 47 tQ none (AY (show MQ from x.1) (show MQ from x.2.1) r.1 c.1) 0)]) (fun c=>wdM (show MQ from x.2.1)-c.1) ⟨0,by omega⟩ (fun c=>[.inv {k:Nat // k<=(show MQ from x.2.1).length} (fun k=>[(9,.val tI (k.1:Int))]) (fun k=>[(16,.mat 39 47 tQ none (AY (show MQ from x.1) (show MQ from x.2.1) r.1 c.1) 0),(8,.box [⟨tQ,mm k.1 (ent (show MQ from x.1)) (ent (show MQ from x.2.1)) r.1 c.1⟩])]) (fun k=>(show MQ from x.2.1).length-k.1) ⟨0,by omega⟩ (fun _=>[])])])]) (fun x hp=>?_)
 obtain⟨a,b,u⟩:=x
 change List (List Rat) at a
 change List (List Rat) at b
 refine aO (let A₀:=(List.getD b 0 (aC Rat)).length;(asT Int 0<=0/\0<aB b.length/\(0<=aB a.length/\aB a.length<=1000/\0<=aB A₀/\aB A₀<=1000)/\True)/\(asT Int 0=0/\EL (aB a.length).toNat (aB A₀).toNat=AY a b 0 0/\True)/\∀ (i:{ k:Nat // k<=List.length a }),let A₁:=(aB (aA i)).toNat;let A₂:=(List.getD a A₁ (aC Rat));asT Bool true=true/\ifB (decide (aB (aA i)<aB a.length)) ((asT Int 0=0/\AY a b (aA i) 0=AY a b (aA i) 0/\True)/\∀ (i_1:{ k:Nat // k<=wdM b }),let aN:=(AY a b (aA i) (aA i_1));let aU:=(aB (aA i_1)).toNat;let aX:=(rowAt aN (nameAt none A₁));asT Bool true=true/\(asT Int 0<=0/\0<aB b.length/\True)/\ifB (decide (aB (aA i_1)<aB A₀)) ((bP 0/\True)/\(asT Int 0=0/\AY a b (aA i) (aA i_1)=AY a b (aA i) (aA i_1)/\aV 0=mm 0 (ent a) (ent b) (aA i) (aA i_1)/\True)/\∀ (i_2:{ k:Nat // k<=List.length b }),let bJ:=(aB (aA i_2)).toNat;let dA:=(List.getD b bJ (aC Rat));let dF:=(mm (aA i_2) (ent a) (ent b) (aA i) (aA i_1));asT Bool true=true/\ifB (decide (aB (aA i_2)<aB b.length)) ((0<=aB (aA i)/\aB (aA i)<aB a.length/\0<=aB (aA i_2)/\aB (aA i_2)<aB A₂.length/\0<=aB (aA i_2)/\aB (aA i_2)<aB b.length/\0<=aB (aA i_1)/\aB (aA i_1)<aB dA.length/\s19 (List.getD A₂ bJ 0) (List.getD dA aU 0)/\s19 dF (List.getD A₂ bJ 0*List.getD dA aU 0)/\True)/\∃ (i':{ k:Nat // k<=List.length b }),List.length b-aA i'<List.length b-aA i_2/\IntKind.wrap IntKind.i64 (aB (aA i_2)+1)=aB (aA i')/\AY a b (aA i) (aA i_1)=AY a b (aA i) (aA i_1)/\mm (aA i_2) (ent a) (ent b) (aA i) (aA i_1)+List.getD A₂ bJ 0*List.getD dA aU 0=mm (aA i') (ent a) (ent b) (aA i) (aA i_1)/\True) ((0<=aB (aA i)/\aB (aA i)<aB (dB none aN)/\Int.toNat (aB (aA i))<dB none aN/\0<=aB (aA i_1)/\aB (aA i_1)<aB aX.length/\Int.toNat (aB (aA i_1))<List.length aX/\True)/\∃ (i':{ k:Nat // k<=wdM b }),wdM b-aA i'<wdM b-aA i_1/\IntKind.wrap IntKind.i64 (aB (aA i_1)+1)=aB (aA i')/\List.set aN (nameAt none A₁) (List.set aX aU dF)=AY a b (aA i) (aA i')/\True)) (∃ (i':{ k:Nat // k<=List.length a }),List.length a-aA i'<List.length a-aA i/\IntKind.wrap IntKind.i64 (aB (aA i)+1)=aB (aA i')/\AY a b (aA i) (aA i_1)=AY a b (aA i') 0/\True)) (True/\AY a b (aA i) 0=mulM a b/\True)) (by kernel_rfl) ?_
 have hZ:(⟨false,0,[],[]⟩:aG)=bF:=rfl
 dsimp only[aB,asT,aA,aC,Ty.den,Lf.den] at *
 simp only[hZ,Int.toNat_natCast,jS,gy,oz,Ee,Dk,dB,nameAt,bZ,lK,jW,rowAt,uy,jy]
 have hp:okM a/\okM b/\wdM a=b.length/\szM a 1000000/\szM b 1000000:=hp
 obtain⟨ha,hb,hw,sa,sb⟩:=hp
 have q1:=ha.r64
 have q2:=ha.c64
 have q3:=hb.r64
 have q4:=hb.c64
 have q5:=hb.pos
 rw[show (b.getD 0 []).length=wdM b from rfl]
 refine⟨⟨Dh 0,by omega,by omega,by omega,by omega,by omega⟩,a7Q.symm,fun i=>⟨fun h1 c=>⟨⟨Dh 0,by omega⟩,fun h2=>⟨by unfold bP;omega,rfl,fun k=>⟨fun h3=>?_,fun h3=>?_⟩⟩,fun h2=>⟨⟨i.1+1,by omega⟩,by simp only;omega,by rw[aJ (by omega) (by omega)];rfl,b2b (by omega)⟩⟩,fun h1=>b1Z (by omega)⟩⟩
 ·have hi:i.1<a.length:=by omega
  have hc:c.1<wdM b:=by omega
  have hk:k.1<b.length:=by omega
  rw[ha.row hi,hb.row hk]
  have z1:rsz ((a.getD i.1 []).getD k.1 0)<=1000000:=sa i.1 hi k.1 (by omega)
  have z2:rsz ((b.getD k.1 []).getD c.1 0)<=1000000:=sb k.1 hk c.1 hc
  have z3:=cO ((a.getD i.1 []).getD k.1 0) ((b.getD k.1 []).getD c.1 0)
  have z4:rsz (mm k.1 (ent a) (ent b) i.1 c.1)<=140000000:=by
   have:=FY (K:=2000000) (f:=fun d=>ent a i.1 d*ent b d c.1) k.1 (fun d hd=>by
    have y1:=sa i.1 hi d (by omega)
    have y2:=sb d (by omega) c.1 hc
    have y3:=cO (ent a i.1 d) (ent b d c.1)
    show rsz (ent a i.1 d*ent b d c.1)<=_
    omega)
   have y4:k.1*(2000000+1)<=64*2000001:=vw (by omega) (by omega)
   show rsz (sm k.1 _)<=_
   omega
  exact⟨⟨by omega,by omega,by omega,by omega,by omega,by omega,by omega,by omega,⟨by omega,by omega⟩,by omega,by omega⟩,⟨k.1+1,by omega⟩,by simp only;omega,by rw[aJ (by omega) (by omega)];rfl,rfl⟩
 ·have hi:i.1<a.length:=by omega
  have hc:c.1<wdM b:=by omega
  have hk:k.1=b.length:=by have:=k.2;omega
  have e1:(AY a b i.1 c.1).length=a.length:=b2a
  have e2:((AY a b i.1 c.1).getD i.1 []).length=wdM b:=b5t hi
  rw[e1,e2,hk]
  exact⟨⟨by omega,by omega,hi,by omega,by omega,hc⟩,⟨c.1+1,by omega⟩,by simp only;omega,by rw[aJ (by omega) (by omega)];rfl,b2c hi⟩
set_option maxHeartbeats 4000000
noncomputable def c6a:Ctr:=⟨[.list tM],[tM],fun x=>0<(show List MQ from x.1).length/\nD ((show List MQ from x.1).getD 0 []) ((show List MQ from x.1).drop 1),fun x=>(fB ((show List MQ from x.1).getD 0 []) ((show List MQ from x.1).drop 1),())⟩
theorem a6i:aH Tryz.prog 70 c6a:=by
 refine aI (nil0.ad a7B) ⟨[],[],[]⟩ Tryz.func70 rfl (by decide) (fun x=>[.inv {k:Nat // k<=(show List MQ from x.1).length-1} (fun k=>[(12,.val tI (k.1:Int)),(3,.val tM (fB ((show List MQ from x.1).getD 0 []) (((show List MQ from x.1).drop 1).take k.1)))]) (fun k=>[]) (fun k=>(show List MQ from x.1).length-k.1) ⟨0,by omega⟩ (fun _=>[])]) (fun x hp=>?_)
 obtain⟨l,u⟩:=x
 change List MQ at l
 refine aO (let A₀:=(List.drop 1 (List.take (aB l.length).toNat l));let A₁:=(List.getD l 0 (aC (List Rat)));(asT Int 0<=0/\0<aB l.length/\True)/\(asT Int 0<=1/\1<=aB l.length/\aB l.length<=aB l.length/\True)/\(asT Int 0=0/\List.getD l 0 (aC (List Rat))=fB A₁ (List.take 0 (List.drop 1 l))/\True)/\∀ (i:{ k:Nat // k<=List.length l-1 }),let A₂:=(List.getD A₀ (aB (aA i)).toNat (aC (List Rat)));let aN:=(List.take (aA i) (List.drop 1 l));asT Bool true=true/\ifB (decide (aB (aA i)<aB A₀.length)) ((0<=aB (aA i)/\aB (aA i)<aB A₀.length/\True)/\((okM (fB A₁ aN)/\okM A₂/\wdM (fB A₁ aN)=List.length A₂/\szM (fB A₁ aN) 1000000/\szM A₂ 1000000)/\True)/\∃ (i':{ k:Nat // k<=List.length l-1 }),List.length l-aA i'<List.length l-aA i/\IntKind.wrap IntKind.i64 (aB (aA i)+1)=aB (aA i')/\mulM (fB A₁ aN) A₂=fB A₁ (List.take (aA i') (List.drop 1 l))/\True) (True/\fB A₁ aN=fB A₁ (List.drop 1 l)/\True)) (by kernel_rfl) ?_
 try simp only[zP0]
 try dsimp only[aB,asT,aA,aC,Ty.den,Lf.den] at *
 try simp only[zP1]
 try simp only[zP2]
 obtain⟨h0,p1,p2,p3⟩:0<l.length/\nD (l.getD 0 []) (l.drop 1):=hp
 have hD:(l.drop 1).length=l.length-1:=Aa
 rw[List.take_length]
 generalize l.getD 0 []=m at *
 generalize l.drop 1=D at *
 refine⟨⟨by omega,by omega⟩,⟨by omega,by omega,by omega⟩,rfl,fun i=>⟨fun h=>?_,fun h=>by rw[jc (by omega)]⟩⟩
 have hi:i.1<D.length:=by omega
 obtain⟨a1,a2,a3,a4⟩:=(p3 i.1 (by omega)).ok (aj _)
 obtain⟨b1,b2,b3,b4⟩:=(p2 _ (gV (d:=[]) hi)).ok (aj _)
 refine⟨⟨by omega,h⟩,⟨a1,b1,a3.trans b4.symm,a2,b2⟩,⟨i.1+1,by omega⟩,by simp only;omega,by rw[aJ (by omega) (by omega)];rfl,?_⟩
 show mulM _ _=fB m (List.take (i.1+1) D)
 rw[Ci,bn hi,bf,bn hi]
 unfold fB
 rw[List.foldl_append];rfl
noncomputable def c2F:Ctr:=⟨[.list tM],[tM],fun x=>0<(show List MQ from x.1).length/\nD ((show List MQ from x.1).getD 0 []) ((show List MQ from x.1).drop 1),fun x=>(stk ((show List MQ from x.1).getD 0 []).length (fB ((show List MQ from x.1).getD 0 []) ((show List MQ from x.1).drop 1)),())⟩
theorem b2f:aH Tryz.prog 70 c2F:=gG a6i fun x _=>TY _ _
noncomputable def c2G:Ctr:=⟨[tM],[tM],fun x=>okM x.1,fun x=>(stk (show MQ from x.1).length (trM x.1),())⟩
theorem b2i:aH Tryz.prog 71 c2G:=gG a5T fun x _=>TY _ _
theorem b7d {K:Nat} {e:MQ} (h:m33 K e):oM e.flatten e.flatten 9=trQ (gM e):=by
 unfold trQ
 rw[IV h (by omega) (by omega),IV h (by omega) (by omega),IV h (by omega) (by omega)]
 obtain⟨a,b,c,d,e,f,g,i,j,rfl⟩:=h.form
 show 0+a*a+b*b+c*c+d*d+e*e+f*f+g*g+i*i+j*j=0+a*a+b*b+c*c+(0+d*d+e*e+f*f+(0+g*g+i*i+j*j))
 grind
noncomputable def c6c:Ctr:=⟨[tM],[tQ],fun x=>m33 10000 x.1,fun x=>(trQ (gM x.1),())⟩
theorem a6k:aH Tryz.prog 100 c6c:=by
 refine aI ((nil0.ad a1j).ad a9c) ⟨[2],[],[]⟩ Tryz.func100 rfl (by decide) (fun x=>[]) (fun x hp=>?_)
 obtain⟨e,u⟩:=x
 change MQ at e
 refine aO (((List.length e<=1000/\∀ (r:List Rat),r ∈ e->List.length r<=1000)/\(List.length e<=1000/\∀ (r:List Rat),r ∈ e->List.length r<=1000)/\IG (List.flatten e) (List.flatten e)/\True)/\True/\oM (List.flatten e) (List.flatten e) (List.flatten e).length=trQ (gM e)/\True) (by kernel_rfl) ?_
 try simp only[zP0]
 try dsimp only[aB,asT,aA,aC,Ty.den,Lf.den] at *
 try simp only[zP1]
 try simp only[zP2]
 have he:m33 10000 e:=hp
 have hr:∀ r ∈ e,r.length<=1000:=fun r hr=>by rw[he.1.2.1 r hr];omega
 have h3:=he.1.len
 have hf:=he.flat
 rw[hf.1,b7d he]
 refine⟨⟨⟨by omega,hr⟩,⟨by omega,hr⟩,rfl,by rw[hf.1];omega,fun i hi=>?_⟩,rfl⟩
 have:rsz (lv e.flatten i)<=10000:=cZ hf.2 hi
 exact⟨by omega,by omega⟩
def mnL (r:LQ') (c n:Nat):LQ':=((List.range n).filter (fun j=>decide (j≠c))).map fun j=>r.getD j 0
def mnK (a:MQ) (c k:Nat):MQ:=((List.range k).filter (fun i=>decide (i≠0))).map fun i=>mnL (a.getD i []) c a.length
def mnM (a:MQ) (c:Nat):MQ:=mnK a c a.length
def sqM (n K:Nat) (a:MQ):Prop:=a.length=n/\∀ r ∈ a,r.length=n/\∀ q ∈ r,rsz q<=K
noncomputable def c2t:Ctr:=⟨[tM,tI,tI],[tM],fun x=>(show MQ from x.1).length<=3/\(∀ r ∈ (show MQ from x.1),r.length=(show MQ from x.1).length)/\x.2.1=(0:Int)/\(0:Int)<=(show Int from x.2.2.1),fun x=>(mnM x.1 (show Int from x.2.2.1).toNat,())⟩
theorem a5v:aH Tryz.prog 259 c2t:=by
 refine aI Lib.nil ⟨[],[],[]⟩ Tryz.func259 rfl (by decide) (fun x=>[.inv {k:Nat // k<=(show MQ from x.1).length} (fun i=>[(8,.val tI (i.1:Int)),(7,.own 11 0),(11,.any)]) (fun i=>[(11,.row 39 (.list tQ) (mnK (show MQ from x.1) (show Int from x.2.2.1).toNat i.1) 0)]) (fun i=>(show MQ from x.1).length-i.1) ⟨0,by omega⟩ (fun i=>[
 .inv {k:Nat // k<=(show MQ from x.1).length} (fun j=>[(10,.val tI (j.1:Int)),(9,.own 21 0),(21,.any)]) (fun j=>[(11,.row 39 (.list tQ) (mnK (show MQ from x.1) (show Int from x.2.2.1).toNat i.1) 0),(21,.row 47 tQ (mnL ((show MQ from x.1).getD i.1 []) (show Int from x.2.2.1).toNat j.1) 0)]) (fun j=>(show MQ from x.1).length-j.1) ⟨0,by omega⟩ (fun _=>[])])]) (fun x hp=>?_)
 obtain⟨a,r,c,u⟩:=x
 change MQ at a
 change Int at r
 change Int at c
 refine aO ((asT Int 0=0/\aC (List Rat)=mnK a c.toNat 0/\True)/\∀ (i:{ k:Nat // k<=List.length a }),let A₀:=(List.getD a (aA i) (aC Rat));let A₁:=(List.getD a (aB (aA i)).toNat (aC Rat));asT Bool true=true/\ifB (decide (aB (aA i)<aB a.length)) (ifB (aB (aA i)==r) (∃ (i':{ k:Nat // k<=List.length a }),List.length a-aA i'<List.length a-aA i/\IntKind.wrap IntKind.i64 (aB (aA i)+1)=aB (aA i')/\mnK a c.toNat (aA i)=mnK a c.toNat (aA i')/\True) ((asT Int 0=0/\mnK a c.toNat (aA i)=mnK a c.toNat (aA i)/\aC Rat=mnL A₀ c.toNat 0/\True)/\∀ (i_1:{ k:Nat // k<=List.length a }),let A₂:=(aB (aA i_1)).toNat;asT Bool true=true/\ifB (decide (aB (aA i_1)<aB a.length)) (ifB (aB (aA i_1) != c) ((0<=aB (aA i)/\aB (aA i)<aB a.length/\0<=aB (aA i_1)/\aB (aA i_1)<aB A₁.length/\List.length (mnL A₀ c.toNat (aA i_1))+List.length (List.getD A₁ A₂ 0::aC Rat)<=1000000000/\True)/\∃ (i':{ k:Nat // k<=List.length a }),List.length a-aA i'<List.length a-aA i_1/\IntKind.wrap IntKind.i64 (aB (aA i_1)+1)=aB (aA i')/\mnK a c.toNat (aA i)=mnK a c.toNat (aA i)/\mnL A₀ c.toNat (aA i_1)++List.getD A₁ A₂ 0::aC Rat=mnL A₀ c.toNat (aA i')/\True) (∃ (i':{ k:Nat // k<=List.length a }),List.length a-aA i'<List.length a-aA i_1/\IntKind.wrap IntKind.i64 (aB (aA i_1)+1)=aB (aA i')/\mnK a c.toNat (aA i)=mnK a c.toNat (aA i)/\mnL A₀ c.toNat (aA i_1)=mnL A₀ c.toNat (aA i')/\True)) ((List.length (mnK a c.toNat (aA i))+List.length (mnL A₀ c.toNat (aA i_1)::aC (List Rat))<=1000000000/\True)/\∃ (i':{ k:Nat // k<=List.length a }),List.length a-aA i'<List.length a-aA i/\IntKind.wrap IntKind.i64 (aB (aA i)+1)=aB (aA i')/\mnK a c.toNat (aA i)++mnL A₀ c.toNat (aA i_1)::aC (List Rat)=mnK a c.toNat (aA i')/\True))) (True/\mnK a c.toNat (aA i)=mnM a c.toNat/\True)) (by kernel_rfl) ?_
 try simp only[zP0]
 try dsimp only[aB,asT,aA,aC,Ty.den,Lf.den] at *
 try simp only[zP1]
 try simp only[zP2]
 obtain⟨h1,h2,h3,h4⟩:a.length<=3/\(∀ q ∈ a,q.length=a.length)/\r=0/\0<=c:=hp
 subst h3
 obtain⟨d,rfl⟩:=jv h4
 rw[Int.toNat_natCast]
 have rl:∀ i,i<a.length->(a.getD i []).length=a.length:=fun i hi=>h2 _ (gV hi)
 have kL:∀ k,(mnK a d k).length<=k:=fun k=>by unfold mnK;rw[jo];exact ak (List.length_filter_le _ _) (by rw[jy];exact aj _)
 have lL:∀ (r:LQ') n,(mnL r d n).length<=n:=fun r n=>by unfold mnL;rw[jo];exact ak (List.length_filter_le _ _) (by rw[jy];exact aj _)
 have kS:∀ k,k≠0->mnK a d (k+1)=mnK a d k++[mnL (a.getD k []) d a.length]:=fun k hk=>by
  unfold mnK
  rw[oh,List.filter_append,ug,List.filter_cons_of_pos (by simpa using hk)];rfl
 have lS:∀ (r:LQ') n,n≠d->mnL r d (n+1)=mnL r d n++[r.getD n 0]:=fun r n hn=>by
  unfold mnL
  rw[oh,List.filter_append,ug,List.filter_cons_of_pos (by simpa using hn)];rfl
 have lN:∀ (r:LQ') n,n=d->mnL r d (n+1)=mnL r d n:=fun r n hn=>by
  unfold mnL
  rw[oh,List.filter_append,List.filter_cons_of_neg (by simpa using hn)]
  simp
 refine⟨rfl,fun i=>⟨fun g1=>⟨fun g2=>⟨⟨i.1+1,by omega⟩,by simp only;omega,by rw[aJ (by omega) (by omega)];rfl,?_⟩,fun g2=>⟨rfl,fun j=>⟨fun g3=>⟨fun g4=>⟨⟨by omega,g1,by omega,by rw[rl i.1 (by omega)];omega,by have:=lL (a.getD i.1 []) j.1;omega⟩,⟨j.1+1,by omega⟩,by simp only;omega,by rw[aJ (by omega) (by omega)];rfl,(lS _ j.1 (by omega)).symm⟩,fun g4=>⟨⟨j.1+1,by omega⟩,by simp only;omega,by rw[aJ (by omega) (by omega)];rfl,(lN _ j.1 (by omega)).symm⟩⟩,fun g3=>⟨by have:=kL i.1;omega,⟨i.1+1,by omega⟩,by simp only;omega,by rw[aJ (by omega) (by omega)];rfl,?_⟩⟩⟩⟩,fun g1=>?_⟩⟩
 ·obtain⟨k,hk⟩:=i
  have e:k=0:=by dsimp only at g2;omega
  subst e;rfl
 ·rw[show j.1=a.length by have:=j.2;omega]
  exact(kS i.1 (by omega)).symm
 ·rw[show i.1=a.length by have:=i.2;omega];rfl
def dtT (d:MQ->Rat) (a:MQ) (j:Nat):Rat:=if j%2=1 then -((a.getD 0 []).getD j 0*d (mnM a j)) else (a.getD 0 []).getD j 0*d (mnM a j)
def jP:Nat->MQ->Rat
 | 0,a=>(a.getD 0 []).getD 0 0
 | n+1,a=>sm (n+2) (dtT (jP n) a)
noncomputable def a8o (n:Nat):Ctr:=⟨[tM],[tQ],fun x=>sqM (n+1) 100 x.1,fun x=>(jP n x.1,())⟩
noncomputable def c4x:Lib:=(LR0.add 165 (cIQ bP (fun i=>(i:Rat))) vY).add 259 c2t a5v
theorem b7N {n:Nat} (hn:n<3):((List.range (n+1)).filter (fun i=>decide (i≠0))).length=n:=by
 rcases three hn with rfl|rfl|rfl<;>rfl
theorem b4a {n:Nat} (hn:n<3) {c:Nat} (hc:c<n+1) (r:LQ'):(mnL r c (n+1)).length=n:=by
 unfold mnL
 rw[jo]
 have h:∀ n,n<3->∀ c,c<n+1->((List.range (n+1)).filter (fun j=>decide (j≠c))).length=n:=by decide
 exact h n hn c hc
theorem b0B {n K:Nat} {a:MQ} (hn:n<3) (hK:1<=K) (h:sqM (n+1) K a) {c:Nat} (hc:c<n+1):sqM n K (mnM a c):=by
 unfold mnM mnK
 rw[h.1]
 refine⟨by rw[jo,b7N hn],fun r hr=>?_⟩
 obtain⟨i,hi,rfl⟩:=ni.1 hr
 refine⟨b4a hn hc _,fun q hq=>?_⟩
 obtain⟨j,hj,rfl⟩:=ni.1 hq
 have hi:=oq.1 (List.mem_filter.1 hi).1
 have hj:=oq.1 (List.mem_filter.1 hj).1
 have hr:=h.2 _ (gV (d:=[]) (show i<a.length by rw[h.1];exact hi))
 exact cZ hr.2 (by rw[hr.1];exact hj)
theorem sqM.at {n K:Nat} {a:MQ} (h:sqM n K a) {i j:Nat} (hi:i<n) (hj:j<n):(a.getD i []).length=n/\rsz ((a.getD i []).getD j 0)<=K:=by
 have hr:=h.2 _ (gV (d:=[]) (show i<a.length by rw[h.1];exact hi))
 exact⟨hr.1,cZ hr.2 (by rw[hr.1];exact hj)⟩
theorem IC:∀ n,n<3->∀ a,sqM (n+1) 100 a->rsz (jP n a)<=2000/\(n=1->rsz (jP n a)<=500)/\(n=0->rsz (jP n a)<=100)
 | 0,_,a,h=>by
  have:rsz (jP 0 a)<=100:=(h.at (i:=0) (j:=0) (by omega) (by omega)).2
  exact⟨by omega,fun h=>by omega,fun _=>this⟩
 | n+1,hn,a,h=>by
  have ht:∀ K,(∀ j,j<n+2->rsz (jP n (mnM a j))<=K)->rsz (jP (n+1) a)<=(n+2)*(100+K+1)+1:=fun K hK=>FY (K:=100+K) (n+2) fun j hj=>by
   have a1:=(h.at (i:=0) (j:=j) (by omega) hj).2
   have a2:=hK j hj
   have a3:=cO ((a.getD 0 []).getD j 0) (jP n (mnM a j))
   unfold dtT
   split
   ·rw[jE];omega
   ·omega
  have hs:∀ j,j<n+2->sqM (n+1) 100 (mnM a j):=fun j hj=>b0B (by omega) (by omega) h hj
  have hc:n=0\/n=1:=by omega
  rcases hc with rfl|rfl
  ·have b:=ht 100 fun j hj=>(IC 0 (by omega) _ (hs j hj)).2.2 rfl
   exact⟨by omega,fun _=>by omega,fun h=>by omega⟩
  ·have b:=ht 500 fun j hj=>(IC 1 (by omega) _ (hs j hj)).2.1 rfl
   exact⟨by omega,fun h=>by omega,fun h=>by omega⟩
theorem a8Z:aH Tryz.prog 199 (a8o 0):=by
 refine aI ((((((nil0.ad nK).ad sH).ad vX).ad uX).ad vY).ad a5v) ⟨[2,3,5],[],[]⟩ Tryz.func199 rfl (by decide) (fun x=>[.inv {k:Nat // k<=(show MQ from x.1).length} (fun k=>[(4,.val tI (k.1:Int))]) (fun k=>[(2,.box [⟨tR,bF⟩]),(3,.box [⟨tQ,sm k.1 (dtT (jP 0) x.1)⟩])]) (fun k=>(show MQ from x.1).length-k.1) ⟨0,by omega⟩ (fun _=>[])]) (fun x hp=>?_)
 obtain⟨a,u⟩:=x
 change MQ at a
 refine aO (ifB (aB a.length==1) ((asT Int 0<=0/\0<aB a.length/\asT Int 0<=0/\0<aB (List.getD a 0 (aC Rat)).length/\True)/\True/\List.getD (List.getD a 0 (aC Rat)) 0 0=jP 0 a/\True) ((bP 0/\True)/\(asT Int 0=0/\asT aG bF=bF/\aV 0=sm 0 (dtT (jP 0) a)/\True)/\∀ (i:{ k:Nat // k<=List.length a }),asT Bool true=true/\ifB (decide (aB (aA i)<aB a.length)) ((asT Int 0<=0/\0<aB a.length/\0<=aB (aA i)/\aB (aA i)<aB (List.getD a 0 (aC Rat)).length/\rsz (List.getD (List.getD a 0 (aC Rat)) (aB (aA i)).toNat 0)<=190000000/\True)/\ifB (sgn (Rat.num (List.getD (List.getD a 0 (aC Rat)) (aB (aA i)).toNat 0))==0) (∃ (i':{ k:Nat // k<=List.length a }),List.length a-aA i'<List.length a-aA i/\IntKind.wrap IntKind.i64 (aB (aA i)+1)=aB (aA i')/\asT aG bF=bF/\sm (aA i) (dtT (jP 0) a)=sm (aA i') (dtT (jP 0) a)/\True) False) (True/\sm (aA i) (dtT (jP 0) a)=jP 0 a/\True))) (by kernel_rfl) ?_
 try simp only[zP0]
 try dsimp only[aB,asT,aA,aC,Ty.den,Lf.den] at *
 try simp only[zP1]
 try simp only[zP2]
 have hq:sqM (0+1) 100 a:=hp
 have l0:=hq.1
 have r00:=(hq.at (i:=0) (j:=0) (by omega) (by omega)).1
 rw[l0,r00]
 exact⟨fun _=>⟨⟨by omega,by omega,by omega,by omega⟩,rfl⟩,fun h=>absurd rfl h⟩
theorem a1k {n:Nat} (hn:n<2) (h:aH Tryz.prog 199 (a8o n)):aH Tryz.prog 199 (a8o (n+1)):=by
 refine aI (c4x.add 199 (a8o n) h) ⟨[2,3,5],[],[]⟩ Tryz.func199 rfl (by show (1:Nat)<=_;decide) (fun x=>[.inv {k:Nat // k<=(show MQ from x.1).length} (fun k=>[(4,.val tI (k.1:Int))]) (fun k=>[(2,.box [⟨tR,bF⟩]),(3,.box [⟨tQ,sm k.1 (dtT (jP n) x.1)⟩])]) (fun k=>(show MQ from x.1).length-k.1) ⟨0,by omega⟩ (fun _=>[])]) (fun x hp=>?_)
 obtain⟨a,u⟩:=x
 change MQ at a
 refine aO (let A₀:=(List.getD a 0 (aC Rat));ifB (aB a.length==1) ((asT Int 0<=0/\0<aB a.length/\asT Int 0<=0/\0<aB A₀.length/\True)/\True/\List.getD A₀ 0 0=jP (n+1) a/\True) ((bP 0/\True)/\(asT Int 0=0/\asT aG bF=bF/\aV 0=sm 0 (dtT (jP n) a)/\True)/\∀ (i:{ k:Nat // k<=List.length a }),let A₁:=(aB (aA i)).toNat;let A₂:=(List.getD A₀ A₁ 0*jP n (mnM a A₁));let aN:=(sm (aA i) (dtT (jP n) a));asT Bool true=true/\ifB (decide (aB (aA i)<aB a.length)) ((asT Int 0<=0/\0<aB a.length/\0<=aB (aA i)/\aB (aA i)<aB A₀.length/\rsz (List.getD A₀ A₁ 0)<=190000000/\True)/\ifB (sgn (Rat.num (List.getD A₀ A₁ 0))==0) (∃ (i':{ k:Nat // k<=List.length a }),List.length a-aA i'<List.length a-aA i/\IntKind.wrap IntKind.i64 (aB (aA i)+1)=aB (aA i')/\asT aG bF=bF/\sm (aA i) (dtT (jP n) a)=sm (aA i') (dtT (jP n) a)/\True) ((asT Int 0<=0/\0<aB a.length/\0<=aB (aA i)/\aB (aA i)<aB A₀.length/\(List.length a<=3/\(∀ (r:List Rat),r ∈ a->List.length r=List.length a)/\asT Int 0=0/\0<=aB (aA i))/\sqM (n+1) 100 (mnM a A₁)/\s19 (List.getD A₀ A₁ 0) (jP n (mnM a A₁))/\True)/\(asT Int 2≠0/\True)/\ifB (Int.tmod (aB (aA i)) 2==1) ((rsz A₂<=190000000/\True)/\(s19 aN (-A₂)/\True)/\∃ (i':{ k:Nat // k<=List.length a }),List.length a-aA i'<List.length a-aA i/\IntKind.wrap IntKind.i64 (aB (aA i)+1)=aB (aA i')/\asT aG bF=bF/\sm (aA i) (dtT (jP n) a)+-A₂=sm (aA i') (dtT (jP n) a)/\True) ((s19 aN A₂/\True)/\∃ (i':{ k:Nat // k<=List.length a }),List.length a-aA i'<List.length a-aA i/\IntKind.wrap IntKind.i64 (aB (aA i)+1)=aB (aA i')/\asT aG bF=bF/\sm (aA i) (dtT (jP n) a)+List.getD A₀ A₁ 0*jP n (mnM a A₁)=sm (aA i') (dtT (jP n) a)/\True))) (True/\sm (aA i) (dtT (jP n) a)=jP (n+1) a/\True))) (by kernel_rfl) ?_
 try simp only[zP0]
 try dsimp only[aB,asT,aA,aC,Ty.den,Lf.den] at *
 try simp only[zP1]
 try simp only[zP2]
 have hq:sqM (n+1+1) 100 a:=hp
 have l0:=hq.1
 have w0:bP 0:=by decide
 have r0:=fun j (hj:j<n+2)=>hq.at (i:=0) (j:=j) (by omega) hj
 have r00:=(r0 0 (by omega)).1
 have sT:∀ k,k<=n+2->rsz (sm k (dtT (jP n) a))<=10000:=fun k hk=>ak (FY (K:=2100) k fun j hj=>by
  have a1:=(r0 j (by omega)).2
  have a2:=(IC n (by omega) _ (b0B (by omega) (by omega) hq (show j<n+2 by omega))).1
  have a3:=cO ((a.getD 0 []).getD j 0) (jP n (mnM a j))
  unfold dtT
  split
  ·rw[jE];omega
  ·omega) (by have:k*(2100+1)<=3*(2100+1):=jh _ (by omega);omega)
 rw[l0,r00]
 refine⟨fun h=>by omega,fun _=>⟨w0,rfl,fun i=>⟨fun g1=>?_,fun g1=>?_⟩⟩⟩
 ·have hi:i.1<n+2:=by omega
  have a1:=(r0 i.1 hi).2
  have q1:=b0B (K:=100) (by omega) (by omega) hq hi
  have a2:=(IC n (by omega) _ q1).1
  have a3:=cO ((a.getD 0 []).getD i.1 0) (jP n (mnM a i.1))
  have a4:=sT i.1 (by omega)
  have t2:((i.1:Int)).tmod 2=((i.1%2:Nat):Int):=by rw[wu (by omega)];omega
  have nx:∀ v,v=dtT (jP n) a i.1->sm i.1 (dtT (jP n) a)+v=sm (i.1+1) (dtT (jP n) a):=fun v h=>by rw[h];rfl
  rw[t2]
  refine⟨⟨by omega,by omega,by omega,by omega,by omega⟩,fun h=>⟨⟨i.1+1,by omega⟩,by simp only;omega,by rw[aJ (by omega) (by omega)];rfl,?_⟩,fun h=>⟨⟨by omega,by omega,by omega,by omega,⟨by omega,fun r hr=>(hq.2 r hr).1,by omega⟩,q1,⟨by omega,by omega⟩⟩,by omega,fun h2=>⟨by omega,⟨by omega,by rw[jE];omega⟩,⟨i.1+1,by omega⟩,by simp only;omega,by rw[aJ (by omega) (by omega)];rfl,nx _ (iw (by omega)).symm⟩,fun h2=>⟨⟨by omega,by omega⟩,⟨i.1+1,by omega⟩,by simp only;omega,by rw[aJ (by omega) (by omega)];rfl,nx _ (eu (by omega)).symm⟩⟩⟩
  rw[<-nx (0:Rat) ?_,Rat.add_zero]
  unfold dtT
  rw[(uY _).1 h]
  split
  ·grind
  ·grind
 ·rw[show i.1=n+2 by have:=i.2;omega];rfl
theorem b7c {e:MQ} {K:Nat} (h:m33 K e):jP 2 e=lU (ent e):=by
 obtain⟨a,b,c,d,e,f,g,i,j,rfl⟩:=h.form
 show 0+a*(0+e*j+-(f*i))+-(b*(0+d*j+-(f*g)))+c*(0+d*i+-(e*g))=a*(e*j-f*i)-b*(d*j-f*g)+c*(d*i-e*g)
 grind
def esL (e:MQ) (i k:Nat):Prop:=aV 2*ent (mulM (gM e) e) i k+-trQ (gM e)*ent e i k=0
theorem a9i {K L:Nat} {x y:MQ} (hx:m33 K x) (hy:m33 L y):x.flatten=y.flatten↔∀ i,i<3->∀ k,k<3->ent x i k=ent y i k:=by
 obtain⟨a,b,c,d,e,f,g,i,j,rfl⟩:=hx.form
 obtain⟨a',b',c',d',e',f',g',i',j',rfl⟩:=hy.form
 constructor
 ·intro h
  have h:[a,b,c,d,e,f,g,i,j]=[a',b',c',d',e',f',g',i',j']:=h
  simp only[List.cons.injEq,Dk] at h
  obtain⟨rfl,rfl,rfl,rfl,rfl,rfl,rfl,rfl,rfl⟩:=h
  exact fun _ _ _ _=>rfl
 ·intro h
  have q:∀ r s,r<3->s<3->ent [[a,b,c],[d,e,f],[g,i,j]] r s=ent [[a',b',c'],[d',e',f'],[g',i',j']] r s:=fun r s hr hs=>h r hr s hs
  have h0:a=a':=q 0 0 (by omega) (by omega)
  have h1:b=b':=q 0 1 (by omega) (by omega)
  have h2:c=c':=q 0 2 (by omega) (by omega)
  have h3:d=d':=q 1 0 (by omega) (by omega)
  have h4:e=e':=q 1 1 (by omega) (by omega)
  have h5:f=f':=q 1 2 (by omega) (by omega)
  have h6:g=g':=q 2 0 (by omega) (by omega)
  have h7:i=i':=q 2 1 (by omega) (by omega)
  have h8:j=j':=q 2 2 (by omega) (by omega)
  subst h0 h1 h2 h3 h4 h5 h6 h7 h8;rfl
theorem ZX {e:MQ} (he:m33 100 e):FK e=true↔(∀ i,i<3->∀ k,k<3->esL e i k)/\lU (ent e)=0:=by
 have hg:=RU he
 have hge:m33 3000 (mulM (gM e) e):=(JJ hg he).mono (by omega)
 have A:=YG hge (show rsz (aV 2)<=10 by decide +kernel)
 have B:=YG he (aj (rsz (trQ (gM e))))
 unfold FK
 rw[ay,gy,gy,a9i A B,and_comm]
 refine and_congr ⟨fun h i hi k hk=>?_,fun h i hi k hk=>?_⟩ Iff.rfl
 all_goals
  have h:=h i hi k hk
  have e1:ent (nT (mulM (gM e) e) (aV 2)) i k=aV 2*ent (mulM (gM e) e) i k:=by
   unfold nT
   rw[hge.1.len,hge.1.wd,kQ hi hk]
  have e2:ent (nT e (trQ (gM e))) i k=trQ (gM e)*ent e i k:=by
   unfold nT
   rw[he.1.len,he.1.wd,kQ hi hk]
  generalize ent (nT (mulM (gM e) e) (aV 2)) i k=u1 at *
  generalize ent (nT e (trQ (gM e))) i k=u2 at *
  unfold esL at *
  generalize ent (mulM (gM e) e) i k=u3 at *
  generalize ent e i k=u4 at *
  generalize trQ (gM e)=u5 at *
  clear A B hge hg he
  grind
theorem c1B:aH Tryz.prog 199 (a8o 2):=(a1k (by omega) (a1k (by omega) a8Z))
theorem b3v:aH Tryz.prog 99 c2n:=by
 refine aI (((((((((nil0.ad nK).ad sH).ad vX).ad uX).ad tH).ad b2i).ad b2f).ad a6k).ad c1B) ⟨[4],[],[]⟩ Tryz.func99 rfl (by decide) (fun x=>[.inv {i:Nat // i<=3/\∀ a,a<i->∀ b,b<3->esL (show MQ from x.1) a b} (fun i=>[(16,.val tI (i.1:Int))]) (fun i=>[(4,.box [⟨tQ,-trQ (gM (show MQ from x.1))⟩])]) (fun i=>3-i.1) ⟨0,by omega,fun a h=>absurd h (yu a)⟩ (fun i=>[
 .inv {k:Nat // k<=3/\∀ b,b<k->esL (show MQ from x.1) i.1 b} (fun k=>[(19,.val tI (k.1:Int))]) (fun k=>[(4,.box [⟨tQ,-trQ (gM (show MQ from x.1))⟩])]) (fun k=>3-k.1) ⟨0,by omega,fun a h=>absurd h (yu a)⟩ (fun _=>[])])]) (fun x hp=>?_)
 obtain⟨e,u⟩:=x
 change MQ at e
 refine aO (let A₁:=(e::stk e.length (trM e)::e::aC (List (List Rat)));let A₀:=(stk e.length (fB e (List.drop 1 A₁)));let A₂:=(asT Int 0=0/\-trQ (gM e)=-trQ (gM e)/\True);(okM e/\(0<List.length A₁/\nD e (List.drop 1 A₁))/\True)/\(m33 10000 e/\rsz (trQ (gM e))<=190000000/\True)/\A₂/\∀ (i:{ i:Nat // i<=3/\∀ (a:Nat),a<i->∀ (b:Nat),b<3->esL e a b }),let aN:=(aB (aA i)).toNat;let aU:=(List.getD A₀ aN (aC Rat));let aX:=(List.getD e aN (aC Rat));asT Bool true=true/\ifB (decide (aB (aA i)<3)) (A₂/\∀ (i_1:{ k:Nat // k<=3/\∀ (b:Nat),b<k->esL e (aA i) b }),let bJ:=(aB (aA i_1)).toNat;let dA:=(aV 2*List.getD aU bJ 0+-trQ (gM e)*List.getD aX bJ 0);asT Bool true=true/\ifB (decide (aB (aA i_1)<3)) ((bP 2/\0<=aB (aA i)/\aB (aA i)<aB A₀.length/\0<=aB (aA i_1)/\aB (aA i_1)<aB aU.length/\s19 (aV 2) (List.getD aU bJ 0)/\0<=aB (aA i)/\aB (aA i)<aB e.length/\0<=aB (aA i_1)/\aB (aA i_1)<aB aX.length/\s19 (-trQ (gM e)) (List.getD aX bJ 0)/\s19 (aV 2*List.getD aU bJ 0) (-trQ (gM e)*List.getD aX bJ 0)/\rsz dA<=190000000/\True)/\ifB (sgn (Rat.num dA) != 0) (True/\false=FK e/\True) (∃ (i':{ k:Nat // k<=3/\∀ (b:Nat),b<k->esL e (aA i) b }),3-aA i'<3-aA i_1/\IntKind.wrap IntKind.i64 (aB (aA i_1)+1)=aB (aA i')/\-trQ (gM e)=-trQ (gM e)/\True)) (∃ (i':{ i:Nat // i<=3/\∀ (a:Nat),a<i->∀ (b:Nat),b<3->esL e a b }),3-aA i'<3-aA i/\IntKind.wrap IntKind.i64 (aB (aA i)+1)=aB (aA i')/\-trQ (gM e)=-trQ (gM e)/\True)) ((sqM (2+1) 100 e/\rsz (jP 2 e)<=190000000/\True)/\True/\(sgn (Rat.num (jP 2 e))==0)=FK e/\True)) (by kernel_rfl) ?_
 try simp only[zP0]
 try dsimp only[aB,asT,aA,aC,Ty.den,Lf.den] at *
 try simp only[zP1]
 try simp only[zP2]
 simp only[UN,List.drop_succ_cons,List.drop_zero]
 have b1:fB e [trM e,e]=mulM (gM e) e:=rfl
 simp only[b1]
 have he:m33 100 e:=hp
 have ht:=he.tr
 have hg:=RU he
 have hge:m33 3000 (mulM (gM e) e):=(JJ hg he).mono (by omega)
 have o1:=(he.mono (show 100<=1000000 by omega)).ok (aj _)
 have t3:=FZ hg
 have q2s:rsz (aV 2)<=10:=by decide +kernel
 have sq:sqM (2+1) 100 e:=⟨he.1.len,fun r hr=>⟨he.1.2.1 r hr,fun q hq=>he.flat.2 q (Ej.2 ⟨r,hr,hq⟩)⟩⟩
 have eD:=b7c he
 have dz:=(IC 2 (by omega) e sq).1
 have pp:nD e [trM e,e]:=⟨by show 2<=1000;omega,fun n hn=>by
  simp only[jw,Dw,or_false] at hn
  rcases hn with rfl|rfl
  ·exact ht.mono (by omega)
  ·exact he.mono (by omega),fun k hk=>by
  have hk:k<=2:=hk
  have e1:k=0\/k=1\/k=2:=by omega
  rcases e1 with rfl|rfl|rfl<;>simp only[List.take_zero,List.take_succ_cons,DJ,yE]
  ·exact he.mono (by omega)
  ·exact hg.mono (by omega)
  ·exact hge.mono (by omega)⟩
 have lx:=hge.1.len
 have le:=he.1.len
 have rx:=fun i (hi:i<3)=>(hge.rows.2 i hi).1
 have re:=fun i (hi:i<3)=>(he.rows.2 i hi).1
 have no:∀ i k,i<3->k<3->¬ esL e i k->false=FK e:=fun i k hi hk h=>by
  symm
  rw[<-Aq]
  exact fun c=>h (((ZX he).1 c).1 i hi k hk)
 refine⟨⟨o1.1,by omega,pp⟩,⟨he.mono (by omega),by omega⟩,fun i=>⟨fun g1 k=>⟨fun g2=>?_,fun g2=>⟨⟨i.1+1,by omega,fun a ha b hb=>?_⟩,by simp only;omega,by rw[aJ (by omega) (by omega)];rfl⟩⟩,fun g1=>?_⟩⟩
 ·have hi:i.1<3:=by omega
  have hk:k.1<3:=by omega
  have x1:rsz ((List.getD (mulM (gM e) e) i.1 []).getD k.1 0)<=3000:=(hge.rows.2 i.1 hi).2 k.1 hk
  have x2:rsz ((List.getD e i.1 []).getD k.1 0)<=100:=(he.rows.2 i.1 hi).2 k.1 hk
  have x3:=cO (aV 2) ((List.getD (mulM (gM e) e) i.1 []).getD k.1 0)
  have x4:=cO (-trQ (gM e)) ((List.getD e i.1 []).getD k.1 0)
  have x5:=jE (trQ (gM e))
  have x6:=gW (aV 2*(List.getD (mulM (gM e) e) i.1 []).getD k.1 0) (-trQ (gM e)*(List.getD e i.1 []).getD k.1 0)
  have eL:esL e i.1 k.1↔aV 2*(List.getD (mulM (gM e) e) i.1 []).getD k.1 0+-trQ (gM e)*(List.getD e i.1 []).getD k.1 0=0:=Iff.rfl
  rw[lx,le,rx i.1 hi,re i.1 hi,uY,<-eL]
  refine⟨⟨by decide,by omega,by omega,by omega,by omega,⟨by omega,by omega⟩,by omega,by omega,by omega,by omega,⟨by omega,by omega⟩,⟨by omega,by omega⟩,by omega⟩,fun h=>no i.1 k.1 hi hk h,fun h=>?_⟩
  refine⟨⟨k.1+1,by omega,fun b hb=>?_⟩,by simp only;omega,by rw[aJ (by omega) (by omega)];rfl⟩
  rcases um.1 hb with hb|rfl
  ·exact k.2.2 b hb
  ·exact h
 ·rcases um.1 ha with ha|rfl
  ·exact i.2.2 a ha b hb
  ·exact k.2.2 b (by omega)
 ·refine⟨⟨sq,by omega⟩,?_⟩
  have all:∀ a,a<3->∀ b,b<3->esL e a b:=fun a ha b hb=>i.2.2 a (by omega) b hb
  rw[eD]
  by_cases hd:lU (ent e)=0
  ·rw[(ZX he).2 ⟨all,hd⟩,hd];rfl
  ·have:FK e=false:=by
    rw[<-Aq];exact fun c=>hd ((ZX he).1 c).2
   rw[this,uo]
   exact fun c=>hd ((uY _).1 c)
end Go.Proofs.YtbkocjmmbkifjaaGreat
