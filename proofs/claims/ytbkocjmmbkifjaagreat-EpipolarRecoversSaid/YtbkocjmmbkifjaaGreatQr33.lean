/-
  Lemmas for the theorem vrecovers28_holds, part 33 of 35.
-/
import Derived.Test.YtbkocjmmbkifjaaGreatQr32
namespace Go.Proofs.YtbkocjmmbkifjaaGreat
open Go Go.RowKit
set_option maxRecDepth 100000
set_option maxHeartbeats 1000000
set_option linter.unusedVariables false
set_option linter.unusedSimpArgs false
def OV (R C:Nat) (f g:Nat->Nat->Rat) (r c:Nat):MQ:=tab R C fun i j=>if i<r\/i=r/\j<c then f i j else g i j
theorem a8C {R C:Nat} {f g:Nat->Nat->Rat}:OV R C f g 0 0=tab R C g:=jL fun i _ j _=>ji (by omega)
theorem b3k {R C:Nat} {f g:Nat->Nat->Rat} {r c:Nat} (hr:r<R):(OV R C f g r c).set r (((OV R C f g r c).getD r []).set c (f r c))=OV R C f g r (c+1):=by
 unfold OV;rw[a2U _ hr]
 refine jL fun i _ j _=>?_
 by_cases e:i=r/\j=c
 ·obtain⟨rfl,rfl⟩:=e;rw[jq ⟨rfl,rfl⟩,jq (by omega)]
 ·rw[ji e]
  by_cases h:i<r\/i=r/\j<c
  ·rw[jq h,jq (by omega)]
  ·rw[ji h,ji (by omega)]
theorem b3j {R C:Nat} {f g:Nat->Nat->Rat} {r c:Nat} (hc:C<=c):OV R C f g r c=OV R C f g (r+1) 0:=by
 refine jL fun i _ j _=>?_
 by_cases h:i<r\/i=r/\j<c
 ·rw[jq h,jq (by omega)]
 ·rw[ji h,ji (by omega)]
theorem b3h {R C:Nat} {f g:Nat->Nat->Rat} {r:Nat} (hr:R<=r):OV R C f g r 0=tab R C f:=jL fun i _ j _=>jq (by omega)
theorem b3i {R C:Nat} {f g:Nat->Nat->Rat} {r c:Nat}:(OV R C f g r c).length=R:=fZ
theorem b6o {R C:Nat} {f g:Nat->Nat->Rat} {r c i:Nat} (hi:i<R):((OV R C f g r c).getD i []).length=C:=by unfold OV;rw[sN hi];simp
def BH (a b:MQ) (r c:Nat):MQ:=OV a.length (wdM b) (mm b.length (ent a) (ent b)) (fun _ _=>0) r c
noncomputable def c3h:Ctr:=⟨[tM,tM],[tM],fun x=>okM x.1/\okM x.2.1/\wdM (show MQ from x.1)=(show MQ from x.2.1).length/\szM x.1 1000000/\szM x.2.1 1000000,fun x=>(mulM x.1 x.2.1,())⟩
theorem a8m:aI Tryz.prog 80 c3h:=by
 refine aJ ((((nil0.ad a0A).ad a6r).ad NZ).an a6x) ⟨[8],[],[]⟩ Tryz.func80 rfl (by decide) (fun x=>[.inv {k:Nat // k<=(show MQ from x.1).length} (fun r=>[(6,.val tI (r.1:Int))]) (fun r=>[(16,.mat 39 47 tQ none (BH (show MQ from x.1) (show MQ from x.2.1) r.1 0) 0)]) (fun r=>(show MQ from x.1).length-r.1) ⟨0,by omega⟩ (fun r=>[.inv {k:Nat // k<=wdM (show MQ from x.2.1)} (fun c=>[(7,.val tI (c.1:Int))]) (fun c=>[(16,.mat 39 47 tQ none (BH (show MQ from x.1) (show MQ from x.2.1) r.1 c.1) 0)]) (fun c=>wdM (show MQ from x.2.1)-c.1) ⟨0,by omega⟩ (fun c=>[.inv {k:Nat // k<=(show MQ from x.2.1).length} (fun k=>[(9,.val tI (k.1:Int))]) (fun k=>[(16,.mat 39 47 tQ none (BH (show MQ from x.1) (show MQ from x.2.1) r.1 c.1) 0),(8,.box [⟨tQ,mm k.1 (ent (show MQ from x.1)) (ent (show MQ from x.2.1)) r.1 c.1⟩])]) (fun k=>(show MQ from x.2.1).length-k.1) ⟨0,by omega⟩ (fun _=>[])])])]) (fun x hp=>?_)
 obtain⟨a,b,u⟩:=x
 change List (List Rat) at a
 change List (List Rat) at b
 refine aT (let A₀:=(List.getD b 0 (aF Rat)).length;(asT Int 0<=0/\0<aB b.length/\(0<=aB a.length/\aB a.length<=1000/\0<=aB A₀/\aB A₀<=1000)/\True)/\(asT Int 0=0/\ES (aB a.length).toNat (aB A₀).toNat=BH a b 0 0/\True)/\∀ (i:{ k:Nat // k<=List.length a }),let A₁:=(aB (aA i)).toNat;let A₂:=(List.getD a A₁ (aF Rat));asT Bool true=true/\ifB (decide (aB (aA i)<aB a.length)) ((asT Int 0=0/\BH a b (aA i) 0=BH a b (aA i) 0/\True)/\∀ (i_1:{ k:Nat // k<=wdM b }),let aK:=(BH a b (aA i) (aA i_1));let aQ:=(aB (aA i_1)).toNat;let dF:=(rowAt aK (nameAt none A₁));asT Bool true=true/\(asT Int 0<=0/\0<aB b.length/\True)/\ifB (decide (aB (aA i_1)<aB A₀)) ((bU 0/\True)/\(asT Int 0=0/\BH a b (aA i) (aA i_1)=BH a b (aA i) (aA i_1)/\aV 0=mm 0 (ent a) (ent b) (aA i) (aA i_1)/\True)/\∀ (i_2:{ k:Nat // k<=List.length b }),let dL:=(aB (aA i_2)).toNat;let dH:=(List.getD b dL (aF Rat));let fB:=(mm (aA i_2) (ent a) (ent b) (aA i) (aA i_1));asT Bool true=true/\ifB (decide (aB (aA i_2)<aB b.length)) ((0<=aB (aA i)/\aB (aA i)<aB a.length/\0<=aB (aA i_2)/\aB (aA i_2)<aB A₂.length/\0<=aB (aA i_2)/\aB (aA i_2)<aB b.length/\0<=aB (aA i_1)/\aB (aA i_1)<aB dH.length/\s19 (List.getD A₂ dL 0) (List.getD dH aQ 0)/\s19 fB (List.getD A₂ dL 0*List.getD dH aQ 0)/\True)/\∃ (i':{ k:Nat // k<=List.length b }),List.length b-aA i'<List.length b-aA i_2/\IntKind.wrap IntKind.i64 (aB (aA i_2)+1)=aB (aA i')/\BH a b (aA i) (aA i_1)=BH a b (aA i) (aA i_1)/\mm (aA i_2) (ent a) (ent b) (aA i) (aA i_1)+List.getD A₂ dL 0*List.getD dH aQ 0=mm (aA i') (ent a) (ent b) (aA i) (aA i_1)/\True) ((0<=aB (aA i)/\aB (aA i)<aB (bG none aK)/\Int.toNat (aB (aA i))<bG none aK/\0<=aB (aA i_1)/\aB (aA i_1)<aB dF.length/\Int.toNat (aB (aA i_1))<List.length dF/\True)/\∃ (i':{ k:Nat // k<=wdM b }),wdM b-aA i'<wdM b-aA i_1/\IntKind.wrap IntKind.i64 (aB (aA i_1)+1)=aB (aA i')/\List.set aK (nameAt none A₁) (List.set dF aQ fB)=BH a b (aA i) (aA i')/\True)) (∃ (i':{ k:Nat // k<=List.length a }),List.length a-aA i'<List.length a-aA i/\IntKind.wrap IntKind.i64 (aB (aA i)+1)=aB (aA i')/\BH a b (aA i) (aA i_1)=BH a b (aA i') 0/\True)) (True/\BH a b (aA i) 0=mulM a b/\True)) (by kernel_rfl) ?_
 have hZ:(⟨false,0,[],[]⟩:aH)=bC:=rfl
 dsimp only[aB,asT,aA,aF,Ty.den,Lf.den] at *
 simp only[hZ,Int.toNat_natCast,aC,aj,ah,jg,jf,bG,nameAt,bW,eU,fZ,rowAt,gy,bg]
 have hp:okM a/\okM b/\wdM a=b.length/\szM a 1000000/\szM b 1000000:=hp
 obtain⟨ha,hb,hw,sa,sb⟩:=hp
 have q1:=ha.r64
 have q2:=ha.c64
 have q3:=hb.r64
 have q4:=hb.c64
 have q5:=hb.pos
 rw[show (b.getD 0 []).length=wdM b from rfl]
 refine⟨⟨Bd 0,by omega,by omega,by omega,by omega,by omega⟩,a8C.symm,fun i=>⟨fun h1 c=>⟨⟨Bd 0,by omega⟩,fun h2=>⟨by unfold bU;omega,rfl,fun k=>⟨fun h3=>?_,fun h3=>?_⟩⟩,fun h2=>⟨⟨i.1+1,by omega⟩,by simp only;omega,by rw[aN (by omega) (by omega)];rfl,b3j (by omega)⟩⟩,fun h1=>b3h (by omega)⟩⟩
 ·have hi:i.1<a.length:=by omega
  have hc:c.1<wdM b:=by omega
  have hk:k.1<b.length:=by omega
  rw[ha.row hi,hb.row hk]
  have z1:rsz ((a.getD i.1 []).getD k.1 0)<=1000000:=sa i.1 hi k.1 (by omega)
  have z2:rsz ((b.getD k.1 []).getD c.1 0)<=1000000:=sb k.1 hk c.1 hc
  have z3:=pF ((a.getD i.1 []).getD k.1 0) ((b.getD k.1 []).getD c.1 0)
  have z4:rsz (mm k.1 (ent a) (ent b) i.1 c.1)<=140000000:=by
   have:=UH (K:=2000000) (f:=fun d=>ent a i.1 d*ent b d c.1) k.1 (fun d hd=>by
    have y1:=sa i.1 hi d (by omega)
    have y2:=sb d (by omega) c.1 hc
    have y3:=pF (ent a i.1 d) (ent b d c.1)
    show rsz (ent a i.1 d*ent b d c.1)<=_
    omega)
   have y4:k.1*(2000000+1)<=64*2000001:=xw (by omega) (by omega)
   show rsz (sm k.1 _)<=_
   omega
  exact⟨⟨by omega,by omega,by omega,by omega,by omega,by omega,by omega,by omega,⟨by omega,by omega⟩,by omega,by omega⟩,⟨k.1+1,by omega⟩,by simp only;omega,by rw[aN (by omega) (by omega)];rfl,rfl⟩
 ·have hi:i.1<a.length:=by omega
  have hc:c.1<wdM b:=by omega
  have hk:k.1=b.length:=by have:=k.2;omega
  have e1:(BH a b i.1 c.1).length=a.length:=b3i
  have e2:((BH a b i.1 c.1).getD i.1 []).length=wdM b:=b6o hi
  rw[e1,e2,hk]
  exact⟨⟨by omega,by omega,hi,by omega,by omega,hc⟩,⟨c.1+1,by omega⟩,by simp only;omega,by rw[aN (by omega) (by omega)];rfl,b3k hi⟩
def uD (x:LQ'):MQ:=tab x.length 1 fun i _=>lv x i
noncomputable def c2R:Ctr:=⟨[.list tQ],[tM],fun x=>(show LQ' from x.1).length<=1000,fun x=>(uD x.1,())⟩
noncomputable def b7G:Ctr:=⟨[tM],[.list tQ],fun x=>(show MQ from x.1).length<=1000/\∀ r ∈ (show MQ from x.1),1<=r.length,fun x=>((List.range (show MQ from x.1).length).map (fun i=>ent x.1 i 0),())⟩
theorem b2g:aI Tryz.prog 81 c2R:=by
 refine aJ nil0 ⟨[],[],[]⟩ Tryz.func81 rfl (by decide) (fun x=>[.inv {k:Nat // k<=(show LQ' from x.1).length} (fun k=>[(4,.val tI (k.1:Int)),(3,.own 5 0),(5,.any),(19,.any)]) (fun k=>[(5,.row 39 (.list tQ) ((uD (show LQ' from x.1)).take k.1) 0)]) (fun k=>(show LQ' from x.1).length-k.1) ⟨0,by omega⟩ (fun _=>[])]) (fun x hp=>?_)
 obtain⟨x,u⟩:=x
 change List Rat at x
 refine aT ((asT Int 0=0/\asT (List (List Rat)) (aF (List Rat))=aF (List Rat)/\True)/\∀ (i:{ k:Nat // k<=List.length x }),asT Bool true=true/\ifB (decide (aB (aA i)<aB x.length)) ((0<=aB (aA i)/\aB (aA i)<aB x.length/\List.length (List.take (aA i) (uD x))+List.length ((List.getD x (aB (aA i)).toNat 0::aF Rat)::aF (List Rat))<=1000000000/\True)/\∃ (i':{ k:Nat // k<=List.length x }),List.length x-aA i'<List.length x-aA i/\IntKind.wrap IntKind.i64 (aB (aA i)+1)=aB (aA i')/\List.take (aA i) (uD x)++(List.getD x (aB (aA i)).toNat 0::aF Rat)::aF (List Rat)=List.take (aA i') (uD x)/\True) (True/\List.take (aA i) (uD x)=uD x/\True)) (by kernel_rfl) ?_
 have hZ:(⟨false,0,[],[]⟩:aH)=bC:=rfl
 dsimp only[aB,asT,aA,aF,Ty.den,Lf.den] at *
 simp only[hZ,Int.toNat_natCast,aC,aj,ah,jg,jf,bG,nameAt,bW,eU,fZ,rowAt,gy,bg]
 have hp:x.length<=1000:=hp
 have hl:(uD x).length=x.length:=fZ
 refine fun i=>⟨fun h1=>?_,fun h1=>jv (by rw[hl];omega)⟩
 have hi:i.1<x.length:=by omega
 refine⟨⟨by omega,h1,by rw[ny];simp;omega⟩,⟨i.1+1,by omega⟩,by simp only;omega,by rw[aN (by omega) (by omega)];rfl,?_⟩
 rw[Ai]
 have:(uD x)[i.1]?=some [x.getD i.1 0]:=by
  unfold uD tab;simp[hi]
 rw[this];rfl
theorem a4h:aI Tryz.prog 79 b7G:=by
 refine aJ nil0 ⟨[],[],[]⟩ Tryz.func79 rfl (by decide) (fun x=>[.inv {k:Nat // k<=(show MQ from x.1).length} (fun k=>[(4,.val tI (k.1:Int)),(3,.own 5 0),(5,.any),(20,.any)]) (fun k=>[(5,.row 47 tQ ((List.range k.1).map (fun i=>ent (show MQ from x.1) i 0)) 0)]) (fun k=>(show MQ from x.1).length-k.1) ⟨0,by omega⟩ (fun _=>[])]) (fun x hp=>?_)
 obtain⟨a,u⟩:=x
 change List (List Rat) at a
 refine aT ((asT Int 0=0/\asT (List Rat) (aF Rat)=aF Rat/\True)/\∀ (i:{ k:Nat // k<=List.length a }),let A₀:=(fun(i:Nat)=>ent a i 0);let A₁:=(List.getD a (aB (aA i)).toNat (aF Rat));asT Bool true=true/\ifB (decide (aB (aA i)<aB a.length)) ((0<=aB (aA i)/\aB (aA i)<aB a.length/\asT Int 0<=0/\0<aB A₁.length/\List.length (List.map A₀ (List.range (aA i)))+List.length (List.getD A₁ 0 0::aF Rat)<=1000000000/\True)/\∃ (i':{ k:Nat // k<=List.length a }),List.length a-aA i'<List.length a-aA i/\IntKind.wrap IntKind.i64 (aB (aA i)+1)=aB (aA i')/\List.map A₀ (List.range (aA i))++List.getD A₁ 0 0::aF Rat=List.map A₀ (List.range (aA i'))/\True) (True/\List.map A₀ (List.range (aA i))=List.map A₀ (List.range a.length)/\True)) (by kernel_rfl) ?_
 have hZ:(⟨false,0,[],[]⟩:aH)=bC:=rfl
 dsimp only[aB,asT,aA,aF,Ty.den,Lf.den] at *
 simp only[hZ,Int.toNat_natCast,aC,aj,ah,jg,jf,bG,nameAt,bW,eU,fZ,rowAt,gy,bg]
 have hp:a.length<=1000/\∀ r ∈ a,1<=r.length:=hp
 refine fun i=>⟨fun h1=>?_,fun h1=>by rw[show i.1=a.length by have:=i.2;omega]⟩
 have hi:i.1<a.length:=by omega
 have hr:1<=(a.getD i.1 []).length:=bV (p:=fun r:List Rat=>1<=r.length) hp.2 hi
 refine⟨⟨by omega,h1,Bd 0,by omega,by simp;omega⟩,⟨i.1+1,by omega⟩,by simp only;omega,by rw[aN (by omega) (by omega)];rfl,?_⟩
 rw[Bq,List.map_append];rfl
noncomputable def c2G:Ctr:=⟨[tM,.list tQ],[.list tQ],fun x=>okM x.1/\szM x.1 1000000/\(show LQ' from x.2.1).length=wdM (show MQ from x.1)/\∀ q ∈ (show LQ' from x.2.1),rsz q<=1000000,fun x=>(mvL x.1 x.2.1,())⟩
theorem a4c:aI Tryz.prog 19 c2G:=by
 refine aJ (((nil0.ad a8m).ad b2g).ad a4h) ⟨[],[],[]⟩ Tryz.func19 rfl (by decide) (fun x=>[]) (fun x hp=>?_)
 obtain⟨a,x,u⟩:=x
 change List (List Rat) at a
 change List Rat at x
 refine aT ((List.length x<=1000/\(okM a/\okM (uD x)/\wdM a=List.length (uD x)/\szM a 1000000/\szM (uD x) 1000000)/\(List.length (mulM a (uD x))<=1000/\∀ (r:List Rat),r ∈ mulM a (uD x)->1<=List.length r)/\True)/\True/\List.map (fun(i:Nat)=>ent (mulM a (uD x)) i 0) (List.range (mulM a (uD x)).length)=mvL a x/\True) (by kernel_rfl) ?_
 have hZ:(⟨false,0,[],[]⟩:aH)=bC:=rfl
 dsimp only[aB,asT,aA,aF,Ty.den,Lf.den] at *
 simp only[hZ,Int.toNat_natCast,aC,aj,ah,jg,jf,bG,nameAt,bW,eU,fZ,rowAt,gy,bg]
 have hp:okM a/\szM a 1000000/\x.length=wdM a/\∀ q ∈ x,rsz q<=1000000:=hp
 obtain⟨ha,sa,hx,sx⟩:=hp
 have q1:=ha.r64
 have q2:=ha.c64
 have q3:=ha.c1
 have hc:isM (uD x) x.length 1:=sK (by omega) (by omega) (by omega) (by omega)
 have ec:∀ k,k<x.length->ent (uD x) k 0=lv x k:=fun k hk=>lU hk (by omega)
 have sc:szM (uD x) 1000000:=fun k hk j hj=>by
  rw[hc.len] at hk
  rw[hc.wd] at hj
  rw[show j=0 by omega,ec k hk]
  exact bV sx hk
 have hc2:isM (uD x) (wdM a) 1:=by rw[<-hx];exact hc
 have hm:isM (mulM a (uD x)) a.length 1:=ha.1.mul hc2
 refine⟨⟨by omega,⟨ha,⟨hc.self,fun k hk j hj=>jl (sc k hk j hj) (by omega)⟩,by rw[hc.len];exact hx.symm,sa,sc⟩,by rw[hm.len];omega,fun r hr=>by rw[hm.2.1 r hr];omega⟩,?_⟩
 rw[hm.len]
 refine qh fun k hk=>?_
 have hk:=wu.mp hk
 show ent (mulM a (uD x)) k 0=mv (wdM a) (ent a) (lv x) k
 unfold mulM
 rw[hc.wd,lU hk (by omega),hc.len,hx]
 exact dZ _ fun d hd=>by rw[ec d (by omega)]
set_option maxHeartbeats 4000000
noncomputable def LIm:Lib:=((LR0.add 58 (cIQ bU (fun i=>(i:Rat))) a8k).add 29 b7I b4O).add 71 c3t b6a
noncomputable def c4P:Lib:=LIm.add 19 c2G a4c
def rY (s:eF) (p:eX):LQ' × Bool × Unit:=if sgn (lv (jM s p) 2).num<=0 then ([],false,()) else (oO s p,true,())
theorem b1F {K:Nat} {x:MQ} (h:isM x 3 3) (c:CdM x K) (hK:K<=1000:=by omega):okM x:=⟨by rw[h.len,h.wd];exact h,c.sz (by omega)⟩
theorem b2k {s:eF} {p:eX} (hs:jZ s) (hp:MV p):∀ q ∈ a0F s p,rsz q<=2:=fun q hq=>by
 simp only[a0F,qj,Ag,or_false] at hq
 rcases hq with rfl|rfl|rfl
 ·exact jl (yL _) (Nat.add_le_add_right (hp.1.d hs.1.1).1 1)
 ·exact jl (yL _) (Nat.add_le_add_right (hp.2.1.d hs.1.2.1).1 1)
 ·exact jl (yL _) (Nat.add_le_add_right (hp.2.2.d hs.1.2.2).1 1)
theorem a4V (s:eF) (p:eX):(jM s p).length=3:=by unfold jM;rw[a5R];exact(q33 _).trp.len
theorem a9c {s:eF} {p:eX} (hs:jZ s) (hp:MV p):∀ q ∈ jM s p,rsz q<=100:=fun q hq=>jl (b8C (q33 _).trp (((ZR hs.2.1).trp (q33 _)).sz (ay _)) (b2k hs hp) rfl q hq) (by omega)
theorem a5D {s:eF} {p:eX} (hs:jZ s) (hp:MV p) (hne:lv (jM s p) 2≠0):∀ q ∈ oO s p,rsz q<=1000:=fun q hq=>by
 have hl:=a4V s p
 have hz:=a9c hs hp
 have c0:rsz (lv (jM s p) 0)<=100:=bV hz (by omega)
 have c1:rsz (lv (jM s p) 1)<=100:=bV hz (by omega)
 have c2:rsz (lv (jM s p) 2)<=100:=bV hz (by omega)
 have f1:rsz (aV s.2.2.1)<=2:=jl (yL _) (Nat.add_le_add_right (a7D (by have:=hs.2.2.1;omega)) 1)
 have g1:rsz (aV s.2.2.2.1.1)<=2:=hs.2.2.2.1.sz
 have g2:rsz (aV s.2.2.2.1.2.1)<=2:=hs.2.2.2.2.sz
 have m0:=pF (aV s.2.2.1) (lv (jM s p) 0)
 have m1:=pF (aV s.2.2.1) (lv (jM s p) 1)
 have d0:=JY (aV s.2.2.1*lv (jM s p) 0) (lv (jM s p) 2) hne
 have d1:=JY (aV s.2.2.1*lv (jM s p) 1) (lv (jM s p) 2) hne
 simp only[oO,qj,Ag,or_false] at hq
 rcases hq with rfl|rfl|rfl
 ·have:=QF (aV s.2.2.1*lv (jM s p) 0 / lv (jM s p) 2) (aV s.2.2.2.1.1);omega
 ·have:=QF (aV s.2.2.1*lv (jM s p) 1 / lv (jM s p) 2) (aV s.2.2.2.1.2.1);omega
 ·decide +kernel
noncomputable def c5j:Ctr:=⟨[FZ,OB],[.list tQ,tB],fun x=>jZ x.1/\MV x.2.1,fun x=>rY x.1 x.2.1⟩
theorem b4q:aI Tryz.prog 16 c5j:=by
 refine aJ c4P ⟨[9,11],[],[]⟩ Tryz.func16 rfl (by decide) (fun x=>[]) (fun x hp=>?_)
 obtain⟨s,p,u⟩:=x
 change eF at s
 change eX at p
 refine aT (let A₁:=(IntKind.wrap IntKind.i64 (asT Int p.2.2.1-asT Int s.1.2.2.1));let A₂:=(asT Int s.2.2.1);let aK:=(IntKind.wrap IntKind.i64 (asT Int p.2.1-asT Int s.1.2.1));let aQ:=(IntKind.wrap IntKind.i64 (asT Int p.1-asT Int s.1.1));let dF:=s.2.2.2.1;let dL:=(qMx s.2.1);let dH:=(asT Int dF.2.1);let fB:=(aV aQ::aV aK::aV A₁::aF Rat);let A₀:=(mvL (trM dL) fB);let fU:=(asT Int dF.1);(qOk s.2.1/\True)/\(okM dL/\bU aQ/\bU aK/\bU A₁/\(okM (trM dL)/\szM (trM dL) 1000000/\List.length fB=wdM (trM dL)/\∀ (q:Rat),q ∈ aV aQ::aV aK::aV A₁::aF Rat->rsz q<=1000000)/\True)/\(asT Int 0<=2/\2<aB A₀.length/\rsz (List.getD A₀ 2 0)<=190000000/\True)/\ifB (decide (sgn (Rat.num (List.getD A₀ 2 0))<=0)) (True/\aF Rat=Prod.fst (rY s p)/\True/\false=Prod.fst (rY s p).2/\True) ((bU A₂/\asT Int 0<=0/\0<aB A₀.length/\s19 (aV A₂) (List.getD A₀ 0 0)/\asT Int 0<=2/\2<aB A₀.length/\(s19 (aV A₂*List.getD A₀ 0 0) (List.getD A₀ 2 0)/\List.getD A₀ 2 0≠0)/\True)/\(bU A₂/\asT Int 0<=1/\1<aB A₀.length/\s19 (aV A₂) (List.getD A₀ 1 0)/\asT Int 0<=2/\2<aB A₀.length/\(s19 (aV A₂*List.getD A₀ 1 0) (List.getD A₀ 2 0)/\List.getD A₀ 2 0≠0)/\True)/\(bU fU/\s19 (aV A₂*List.getD A₀ 0 0 / List.getD A₀ 2 0) (aV fU)/\bU dH/\s19 (aV A₂*List.getD A₀ 1 0 / List.getD A₀ 2 0) (aV dH)/\bU 1/\True)/\True/\(aV A₂*List.getD A₀ 0 0 / List.getD A₀ 2 0+aV fU)::(aV A₂*List.getD A₀ 1 0 / List.getD A₀ 2 0+aV dH)::aV 1::aF Rat=Prod.fst (rY s p)/\True/\true=Prod.fst (rY s p).2/\True)) (by kernel_rfl) ?_
 have hZ:(⟨false,0,[],[]⟩:aH)=bC:=rfl
 try simp only[aC,aj,ah]
 try dsimp only[aB,asT,aA,aF,Ty.den,Lf.den] at *
 try simp only[hZ,Int.toNat_natCast,aC,aj,ah,jg,jf,gy,bg]
 try simp only[bT,bP,List.all_cons,List.all_nil,jh,dw,ig,je,jy,ne_eq,au,bn,dh,eu,jd,oh,jo,oq,jg,jf,iw,bf,List.length_cons,List.length_nil]
 obtain⟨hs,hp⟩:jZ s/\MV p:=hp
 obtain⟨⟨s1,s2⟩,⟨s3,s4⟩,s5,s6⟩:=hs.1
 obtain⟨⟨p1,p2⟩,⟨p3,p4⟩,p5,p6⟩:=hp
 simp(disch:=omega) only[aN]
 rw[show [aV (p.1-s.1.1),aV (p.2.1-s.1.2.1),aV (p.2.2.1-s.1.2.2.1)]=a0F s p from rfl,show mvL (trM (qMx s.2.1)) (a0F s p)=jM s p from rfl]
 have hl:=a4V s p
 have hz:=a9c hs ⟨⟨p1,p2⟩,⟨p3,p4⟩,p5,p6⟩
 have c0:rsz ((jM s p).getD 0 0)<=100:=bV hz (by omega)
 have c1:rsz ((jM s p).getD 1 0)<=100:=bV hz (by omega)
 have c2:rsz ((jM s p).getD 2 0)<=100:=bV hz (by omega)
 have qm:=(ZR hs.2.1).trp (q33 _)
 have f1:rsz (aV s.2.2.1)<=2:=jl (yL _) (Nat.add_le_add_right (a7D (by have:=hs.2.2.1;omega)) 1)
 have g1:rsz (aV s.2.2.2.1.1)<=2:=hs.2.2.2.1.sz
 have g2:rsz (aV s.2.2.2.1.2.1)<=2:=hs.2.2.2.2.sz
 have m0:=pF (aV s.2.2.1) ((jM s p).getD 0 0)
 have m1:=pF (aV s.2.2.1) ((jM s p).getD 1 0)
 have wf:bU s.2.2.1:=⟨by have:=hs.2.2.1;omega,by have:=hs.2.2.1;omega⟩
 refine⟨hs.2.1,⟨b1F (q33 _) (ZR hs.2.1),⟨by omega,by omega⟩,⟨by omega,by omega⟩,⟨by omega,by omega⟩,b1F (q33 _).trp qm,qm.sz (by omega),by rw[(q33 _).trp.wd],fun q hq=>jl (b2k hs ⟨⟨p1,p2⟩,⟨p3,p4⟩,p5,p6⟩ q hq) (by omega)⟩,⟨by omega,by omega,by omega⟩,fun h=>?_,fun h=>?_⟩
 ·rw[show rY s p=([],false,()) from jq h];exact⟨rfl,rfl⟩
 ·have hne:¬ (jM s p).getD 2 0=0:=fun e=>h (by rw[e];decide)
  have d0:=JY (aV s.2.2.1*(jM s p).getD 0 0) ((jM s p).getD 2 0) hne
  have d1:=JY (aV s.2.2.1*(jM s p).getD 1 0) ((jM s p).getD 2 0) hne
  rw[show rY s p=(oO s p,true,()) from ji h]
  exact⟨⟨wf,by omega,by omega,⟨by omega,by omega⟩,by omega,by omega,⟨by omega,by omega⟩,hne⟩,⟨wf,by omega,by omega,⟨by omega,by omega⟩,by omega,by omega,⟨by omega,by omega⟩,hne⟩,⟨hs.2.2.2.1.word,⟨by omega,by omega⟩,hs.2.2.2.2.word,⟨by omega,by omega⟩,⟨by omega,by omega⟩⟩,rfl,rfl⟩
def smV (x:LQ'):a6X:=(dX (lv x 0).num,dX (lv x 1).num,())
def wB (x:LQ'):Bool:=(((eH (lv x 0).num&&eH (lv x 1).num)&&decide ((lv x 0).den=1))&&decide ((lv x 1).den=1))&&!([(smV x).1,(smV x).2.1].any iH)
noncomputable def c5J:Ctr:=⟨[tZ,tZ],[tB],fun x=>isz x.1<=1000000/\isz x.2.1<=1000000,fun x=>(decide ((show Int from x.1)=(show Int from x.2.1)),())⟩
theorem b6e:aI Tryz.prog 107 c5J:=by
 refine aJ Lib.nil ⟨[],[],[]⟩ Tryz.func107 rfl (by decide) (fun x=>[.inv {k:Nat // k<=(dig (show Int from x.1).natAbs).length/\(dig (show Int from x.1).natAbs).take k=(dig (show Int from x.2.1).natAbs).take k} (fun k=>[(5,.val tI (k.1:Int))]) (fun k=>[]) (fun k=>(dig (show Int from x.1).natAbs).length-k.1) ⟨0,by omega,rfl⟩ (fun _=>[])]) (fun x hp=>?_)
 obtain⟨x,y,u⟩:=x
 change Int at x
 change Int at y
 refine aT (let A₂:=(dig (Int.natAbs x)).length;let aK:=(True/\false=decide (x=y)/\True);let aQ:=(decide (x<0) != decide (y<0));let A₀:=(aQ==false);let A₁:=(A₀=true->A₀=true/\True);let dF:=(dig (Int.natAbs y)).length;(A₁/\A₁/\A₁/\A₁/\(A₀=true->A₀=true/\A₀=true/\True)/\(aQ=false->A₀=true)/\True)/\ifB (bif decide (x<0) != decide (y<0) then true else aB A₂ != aB dF) aK ((asT Int 0=0/\True)/\∀ (i:{ k:Nat // k<=List.length (dig (Int.natAbs x))/\List.take k (dig (Int.natAbs x))=List.take k (dig (Int.natAbs y)) }),asT Bool true=true/\ifB (decide (aB (aA i)<aB A₂)) ((0<=aB (aA i)/\aB (aA i)<aB A₂/\0<=aB (aA i)/\aB (aA i)<aB dF/\True)/\ifB (aB (List.getD (dig (Int.natAbs x)) (aB (aA i)).toNat 0) != aB (List.getD (dig (Int.natAbs y)) (aB (aA i)).toNat 0)) aK (∃ (i':{ k:Nat // k<=List.length (dig (Int.natAbs x))/\List.take k (dig (Int.natAbs x))=List.take k (dig (Int.natAbs y)) }),List.length (dig (Int.natAbs x))-aA i'<List.length (dig (Int.natAbs x))-aA i/\IntKind.wrap IntKind.i64 (aB (aA i)+1)=aB (aA i')/\True)) (True/\true=decide (x=y)/\True))) (by kernel_rfl) ?_
 have hZ:(⟨false,0,[],[]⟩:aH)=bC:=rfl
 try simp only[aC,aj,ah]
 try dsimp only[aB,asT,aA,aF,Ty.den,Lf.den] at *
 try simp only[hZ,Int.toNat_natCast,aC,aj,ah,jg,jf,gy,bg]
 try simp only[bT,bP,List.all_cons,List.all_nil,jh,dw,ig,je,jy,ne_eq,au,bn,dh,eu,jd,oh,jo,oq,jg,jf,iw,bf,List.length_cons,List.length_nil]
 have hp:isz x<=1000000/\isz y<=1000000:=hp
 obtain⟨hx,hy⟩:=hp
 have hx:(dig x.natAbs).length<=1000000:=hx
 have key:decide (x<0)=decide (y<0)->dig x.natAbs=dig y.natAbs->x=y:=fun h1 h2=>by
  have h3:x.natAbs=y.natAbs:=by rw[<-aU x.natAbs,h2,aU]
  by_cases h:x<0
  ·rw[um h] at h1
   have:=tu h1.symm
   omega
  ·rw[lg h] at h1
   have:=ru h1.symm
   omega
 refine⟨fun h=>(lg fun e=>?_).symm,fun h i=>⟨fun h1=>⟨⟨by omega,h1,by omega,by omega⟩,fun h2=>(lg fun e=>by subst e;exact h2 rfl).symm,fun h2=>?_⟩,fun h1=>(um (key h.1 ?_)).symm⟩⟩
 ·rw[e] at h;exact h.elim (fun h=>h rfl) (fun h=>h rfl)
 ·refine⟨⟨i.1+1,by omega,?_⟩,by simp only;omega,by rw[aN (by omega) (by omega)];rfl⟩
  have i1:i.1<(dig x.natAbs).length:=by omega
  have i2:i.1<(dig y.natAbs).length:=by omega
  rw[jc,jc,iy i1,iy i2] at h2
  rw[Ai,Ai,i.2.2,iy i1,iy i2]
  exact xq (fun t=>List.take i.1 (dig y.natAbs)++(some t).toList) h2
 ·have h3:=i.2.2
  rw[jv (by omega),jv (by omega)] at h3
  exact h3
theorem c2x:aI Tryz.prog 223 (a4U 999999999):=(a3s fun v x w h1 l1=>a4n v x w h1 l1)
noncomputable def c5R:Ctr:=⟨[.list tQ],[b6n,tB],fun x=>(show LQ' from x.1).length=3/\∀ q ∈ (show LQ' from x.1),rsz q<=1000,fun x=>(smV x.1,wB x.1,())⟩
theorem b3w:aI Tryz.prog 142 c5R:=by
 refine aJ ((((nil0.ad c2x).ad b3z).ad b6e).ad JD) ⟨[2,8],[],[]⟩ Tryz.func142 rfl (by decide) (fun x=>[]) (fun x hp=>?_)
 obtain⟨x,u⟩:=x
 change List Rat at x
 refine aT (let aK:=(Rat.num (List.getD x 0 0));let aQ:=(Rat.num (List.getD x 1 0));let dF:=(Rat.den (List.getD x 0 0));let A₁:=(bif bif eH aK then eH aQ else false then decide (aB dF=1) else false);let dL:=(Rat.den (List.getD x 1 0));let A₀:=(bif bif bif eH aK then eH aQ else false then decide (aB dF=1) else false then decide (aB dL=1) else false);let dH:=((A₁==true)=true->(A₁==true)=true/\True);let fB:=(bif eH aK then eH aQ else false);let A₂:=(fB==true);let fU:=(dX aK::dX aQ::aF Int);let fK:=(A₂=true->A₂=true/\True);(asT Int 0<=0/\0<aB x.length/\isz aK<=999999999/\True)/\(asT Int 0<=1/\1<aB x.length/\isz aQ<=999999999/\True)/\(bU 1/\True)/\((eH aK=true->(eH aK==true)=true)/\(A₂=true->A₂=true/\asT Int 0<=0/\0<aB x.length/\True)/\fK/\fK/\(A₂=true->A₂=true/\A₂=true/\(isz (aB dF)<=1000000/\isz 1<=1000000)/\True)/\(fB=true->A₂=true)/\((A₁==true)=true->(A₁==true)=true/\asT Int 0<=1/\1<aB x.length/\True)/\dH/\dH/\((A₁==true)=true->(A₁==true)=true/\(A₁==true)=true/\(isz (aB dL)<=1000000/\isz 1<=1000000)/\True)/\(A₁=true->(A₁==true)=true)/\((A₀==true)=true->(A₀==true)=true/\(A₀==true)=true/\True)/\((A₀==true)=true->(A₀==true)=true/\List.length fU<=1000000/\True)/\((A₀==true)=true->(A₀==true)=true/\True)/\(A₀=true->(A₀==true)=true)/\True)/\True/\(dX aK,dX aQ,())=smV x/\True/\(bif bif bif bif eH aK then eH aQ else false then decide (aB dF=1) else false then decide (aB dL=1) else false then !List.any fU iH else false)=wB x/\True) (by kernel_rfl) ?_
 have hZ:(⟨false,0,[],[]⟩:aH)=bC:=rfl
 try simp only[aC,aj,ah]
 try dsimp only[aB,asT,aA,aF,Ty.den,Lf.den] at *
 try simp only[hZ,Int.toNat_natCast,aC,aj,ah,jg,jf,gy,bg]
 try simp only[bT,bP,List.all_cons,List.all_nil,jh,dw,ig,je,jy,ne_eq,au,bn,dh,eu,jd,oh,jo,oq,jg,jf,iw,bf,List.length_cons,List.length_nil]
 obtain⟨h3,hs⟩:x.length=3/\∀ q ∈ x,rsz q<=1000:=hp
 have s0:rsz (x.getD 0 0)<=1000:=bV hs (by omega)
 have s1:rsz (x.getD 1 0)<=1000:=bV hs (by omega)
 have n0:=nD (x.getD 0 0)
 have n1:=nD (x.getD 1 0)
 have d0:=kP (x.getD 0 0)
 have d1:=kP (x.getD 1 0)
 have o:isz 1<=1:=by decide +kernel
 have e:∀ q:Rat,decide (((q.den:Nat):Int)=1)=decide (q.den=1):=fun q=>Ej.mpr (by omega)
 refine⟨⟨by omega,by omega,by omega⟩,⟨by omega,by omega,by omega⟩,⟨by omega,by omega⟩,⟨fun h=>⟨h,by omega,by omega⟩,fun h=>⟨h,h,by omega,by omega⟩,fun h=>⟨h,by omega,by omega⟩,fun h=>⟨h,h,by omega,by omega⟩,fun h=>⟨h,by omega⟩⟩,rfl,?_⟩
 rw[e,e];rfl
def prT (a b:eF) (p:eX):List dA:=bif (rY a p).2.1&&(rY b p).2.1 then (bif wB (oO a p)&&wB (oO b p) then [(smV (oO a p),smV (oO b p),())] else []) else []
def kL (a b:eF) (l:List eX):List dA:=l.flatMap (prT a b)
noncomputable def c3o:Ctr:=⟨[FZ,FZ,.list OB],[.list KG],fun x=>jZ x.1/\jZ x.2.1/\(show List eX from x.2.2.1).length<=1000/\∀ p ∈ (show List eX from x.2.2.1),MV p,fun x=>(kL x.1 x.2.1 x.2.2.1,())⟩
theorem DU {s:eF} {p:eX} (h:(rY s p).2.1=true):lv (jM s p) 2≠0:=fun e=>by
 unfold rY at h
 rw[e,jq (by decide +kernel)] at h
 cases h
theorem b5w (a b:eF) (p:eX):(prT a b p).length<=1:=by
 unfold prT
 cases (rY a p).2.1&&(rY b p).2.1<;>cases wB (oO a p)&&wB (oO b p)<;>simp
theorem JR (a b:eF):∀ l:List eX,(kL a b l).length<=l.length
 | []=>ay _
 | p::l=>by
  have h1:=b5w a b p
  have h2:=JR a b l
  unfold kL at *
  rw[List.flatMap_cons,jm,List.length_cons]
  omega
theorem a2c {s:eF} {p:eX} (h:(rY s p).2.1=true):rY s p=(oO s p,true,()):=by
 unfold rY at *
 split at h
 ·cases h
 ·rename_i e;rw[ji e]
theorem b1X:aI Tryz.prog 54 c3o:=by
 refine aJ ((nil0.ad b4q).ad b3w) ⟨[9,14,15],[],[]⟩ Tryz.func54 rfl (by decide) (fun x=>[.inv {k:Nat // k<=(show List eX from x.2.2.1).length} (fun k=>[(18,.val tI (k.1:Int)),(7,.own 58 0),(58,.any)]) (fun k=>[(58,.row 76 KG (kL x.1 x.2.1 ((show List eX from x.2.2.1).take k.1)) 0)]) (fun k=>(show List eX from x.2.2.1).length-k.1) ⟨0,by omega⟩ (fun _=>[])]) (fun x hp=>?_)
 obtain⟨a,b,l,u⟩:=x
 change eF at a
 change eF at b
 change List eX at l
 refine aT (let A₀:=((Int × Int × PUnit) × (Int × Int × PUnit) × PUnit);(asT Int 0=0/\(True/\kL a b (List.take 0 l)=aF A₀)/\(kL a b (List.take 0 l)=aF A₀/\0=0/\asT Bool true=true)/\True)/\∀ (i:{ k:Nat // k<=List.length l }),let dL:=(List.getD l (aB (aA i)).toNat zSp);let A₁:=(Prod.fst dL,Prod.fst dL.2,Prod.fst dL.2.2,());let aQ:=(rY a A₁).1;let dF:=(!Prod.fst (rY a A₁).2);let dH:=(rY b A₁).1;let aK:=((dX (Rat.num (lv aQ 0)),dX (Rat.num (lv aQ 1)),()),(dX (Rat.num (lv dH 0)),dX (Rat.num (lv dH 1)),()),());let fB:=(List.take (aA i) l);let A₂:=(∃ (i':{ k:Nat // k<=List.length l }),List.length l-aA i'<List.length l-aA i/\IntKind.wrap IntKind.i64 (aB (aA i)+1)=aB (aA i')/\kL a b fB=kL a b (List.take (aA i') l)/\True);asT Bool true=true/\ifB (decide (aB (aA i)<aB l.length)) ((0<=aB (aA i)/\aB (aA i)<aB l.length/\True)/\((jZ a/\MV A₁)/\True)/\((jZ b/\MV A₁)/\True)/\(((dF==false)=true->(dF==false)=true/\True)/\(dF=false->(dF==false)=true)/\True)/\ifB (bif !Prod.fst (rY a A₁).2 then true else !Prod.fst (rY b A₁).2) A₂ (((List.length aQ=3/\∀ (q:Rat),q ∈ Prod.fst (rY a A₁)->rsz q<=1000)/\True)/\((List.length dH=3/\∀ (q:Rat),q ∈ Prod.fst (rY b A₁)->rsz q<=1000)/\True)/\((wB aQ=true->(wB aQ==true)=true)/\True)/\ifB (bif wB aQ then wB dH else false) ((List.length (kL a b fB)+List.length (aK::aF A₀)<=1000000000/\True)/\∃ (i':{ k:Nat // k<=List.length l }),List.length l-aA i'<List.length l-aA i/\IntKind.wrap IntKind.i64 (aB (aA i)+1)=aB (aA i')/\kL a b fB++aK::aF A₀=kL a b (List.take (aA i') l)/\True) A₂)) (True/\kL a b fB=kL a b l/\True)) (by kernel_rfl) ?_
 have hZ:(⟨false,0,[],[]⟩:aH)=bC:=rfl
 try simp only[aC,aj,ah]
 try dsimp only[aB,asT,aA,aF,Ty.den,Lf.den] at *
 try simp only[hZ,Int.toNat_natCast,aC,aj,ah,jg,jf,gy,bg]
 try simp only[bT,bP,List.all_cons,List.all_nil,jh,dw,ig,je,jy,ne_eq,au,bn,dh,eu,jd,oh,jo,oq,jg,jf,iw,bf,List.length_cons,List.length_nil]
 obtain⟨ha,hb,hl,hp⟩:jZ a/\jZ b/\l.length<=1000/\∀ p ∈ l,MV p:=hp
 refine⟨rfl,fun i=>⟨fun h1=>?_,fun h1=>by rw[jv (by omega)]⟩⟩
 have hi:i.1<l.length:=by omega
 have hP:MV (l.getD i.1 zSp):=bV hp hi
 have st:kL a b (l.take (i.1+1))=kL a b (l.take i.1)++prT a b (l.getD i.1 zSp):=by
  unfold kL
  rw[Ai,List.flatMap_append,jc,iy hi];simp
 have hn:(kL a b (l.take i.1)).length<=1000:=jl (JR a b _) (by rw[ny];omega)
 rw[show ((l.getD i.1 zSp).1,(l.getD i.1 zSp).2.1,(l.getD i.1 zSp).2.2.1,())=l.getD i.1 zSp from rfl]
 generalize l.getD i.1 zSp=P at *
 have no:prT a b P=[]->∃ i':{k:Nat // k<=l.length},l.length-i'.1<l.length-i.1/\IntKind.i64.wrap ((i.1:Int)+1)=(i'.1:Int)/\kL a b (l.take i.1)=kL a b (l.take i'.1):=fun e=>⟨⟨i.1+1,by omega⟩,by simp only;omega,by rw[aN (by omega) (by omega)];rfl,by rw[st,e,Bc]⟩
 refine⟨⟨by omega,h1⟩,⟨ha,hP⟩,⟨hb,hP⟩,fun h=>no ?_,fun h=>?_⟩
 ·unfold prT
  rcases h with h|h<;>rw[h]
  ·rfl
  ·rw[Bool.and_false];rfl
 ·have fa:=DU h.1
  have fb:=DU h.2
  have ea:=a2c h.1
  have eb:=a2c h.2
  rw[ea,eb]
  refine⟨⟨rfl,a5D ha hP fa⟩,⟨rfl,a5D hb hP fb⟩,fun h2=>⟨by omega,⟨i.1+1,by omega⟩,by simp only;omega,by rw[aN (by omega) (by omega)];rfl,?_⟩,fun h2=>no ?_⟩
  ·rw[st]
   unfold prT
   rw[h.1,h.2,h2.1,h2.2];rfl
  ·unfold prT
   rw[h.1,h.2]
   show (bif wB (oO a P)&&wB (oO b P) then _ else _)=[]
   cases e:wB (oO a P)
   ·rfl
   ·rw[h2 e];rfl
set_option maxHeartbeats 1000000
theorem XL:NOk Tryz.prog 184 (TN 221 TUn b1G gUn):=by
 refine wI ((((nil0.an rG).an rJ).an rH).ad KZ) ⟨[],[],[(11,tR)]⟩ Tryz.func184 rfl (by decide) (fun x=>yB x.1 x.2.1 (gUn x.2.2.1)) (fun x hp=>?_)
 obtain⟨m,n,c,u⟩:=x
 obtain⟨R,C,hR,hC,r2,c2,hP⟩:=hp
 change m=(R:Int) at hR
 change n=(C:Int) at hC
 subst hR hC
 refine aT (yC R C (gUn c) (b1G c) (fun y=>bF R C (gUn c)=y)) (by kernel_rfl) ?_
 exact qG r2 c2 hP rfl
theorem XJ:NOk Tryz.prog 184 (TN 274 TBe b5e gBe):=by
 refine wI ((((nil0.an rG).an rJ).an rH).ad WB) ⟨[],[],[(11,tR)]⟩ Tryz.func184 rfl (by decide) (fun x=>yB x.1 x.2.1 (gBe x.2.2.1)) (fun x hp=>?_)
 obtain⟨m,n,c,u⟩:=x
 obtain⟨R,C,hR,hC,r2,c2,hP⟩:=hp
 change m=(R:Int) at hR
 change n=(C:Int) at hC
 subst hR hC
 refine aT (yC R C (gBe c) (b5e c) (fun y=>bF R C (gBe c)=y)) (by kernel_rfl) ?_
 exact qG r2 c2 hP rfl
theorem XK:NOk Tryz.prog 184 (TN 237 TIn b5g gIn):=by
 refine wI ((((nil0.an rG).an rJ).an rH).ad WE) ⟨[],[],[(11,tR)]⟩ Tryz.func184 rfl (by decide) (fun x=>yB x.1 x.2.1 (gIn x.2.2.1)) (fun x hp=>?_)
 obtain⟨m,n,c,u⟩:=x
 obtain⟨R,C,hR,hC,r2,c2,hP⟩:=hp
 change m=(R:Int) at hR
 change n=(C:Int) at hC
 subst hR hC
 refine aT (yC R C (gIn c) (b5g c) (fun y=>bF R C (gIn c)=y)) (by kernel_rfl) ?_
 exact qG r2 c2 hP rfl
noncomputable def c6w:kR:=.mk LKm [tM,tM] (fun x=>okM x.1/\okM x.2.1/\(show MQ from x.1).length=(show MQ from x.2.1).length) (fun x=>bF (show MQ from x.1).length (wdM (show MQ from x.1)+wdM (show MQ from x.2.1)) (jG (wdM (show MQ from x.1)) (ent x.1) (ent x.2.1)))
theorem c2E:NOk Tryz.prog 235 c6w:=by
 refine wI (((((((nil0.an rG).an rJ).an rH).ad WB).an XL).an XJ).an XK) ⟨[],[],[]⟩ Tryz.func235 rfl (by decide) (fun x=>[]) (fun x hp=>?_)
 obtain⟨a,b,u⟩:=x
 change List (List Rat) at a
 change List (List Rat) at b
 refine aT ((asT Int 0<=0/\0<aB a.length/\asT Int 0<=0/\0<aB b.length/\NV TBe b5e (aB a.length,IntKind.wrap IntKind.i64 (aB (List.getD a 0 (aF Rat)).length+aB (List.getD b 0 (aF Rat)).length),(a,b,()),())/\True)/\bF a.length (wdM a+wdM b) (jG (wdM a) (ent a) (ent b))=bF (aB a.length).toNat (IntKind.wrap IntKind.i64 (aB (List.getD a 0 (aF Rat)).length+aB (List.getD b 0 (aF Rat)).length)).toNat (gBe (a,b,()))) (by kernel_rfl) ?_
 have hp:okM a/\okM b/\a.length=b.length:=hp
 obtain⟨ha,hb,hl⟩:=hp
 have q1:=ha.c64
 have q2:=hb.c64
 have q3:=ha.r64
 have e:IntKind.wrap .i64 ((wdM a:Int)+(wdM b:Int))=((wdM a+wdM b:Nat):Int):=by rw[aN (by omega) (by omega)];rfl
 dsimp only[aB,asT,aA,aF]
 rw[show (a.getD 0 []).length=wdM a from rfl,show (b.getD 0 []).length=wdM b from rfl,e]
 refine⟨⟨Bd 0,ha.poz,Bd 0,hb.poz,⟨a.length,wdM a+wdM b,rfl,rfl,by omega,by omega,fun i j hi hj=>?_⟩,trivial⟩,rfl⟩
 exact⟨uo i,hi,by show i<b.length;omega,uo j,by show a.length<=1000;omega,ha.row hi,by show j<wdM a+(b.getD i []).length;rw[hb.row (by omega)];exact hj,by omega⟩
def LV (a:MQ):MQ × Int × Unit:=if VN a=true then (wH a,0,()) else ([],14,())
noncomputable def c5l:Ctr:=⟨[tM],[tM,tI],fun x=>okM x.1/\wdM (show MQ from x.1)=(show MQ from x.1).length/\BK (show MQ from x.1).length ((show MQ from x.1).length+(show MQ from x.1).length) (jG (show MQ from x.1).length (ent x.1) idm) (show MQ from x.1).length,fun x=>LV x.1⟩
theorem b4v:aI Tryz.prog 154 c5l:=by
 refine aJ (((((((((((nil0.an rG).an rJ).an rH).ad a4x).ad KZ).ad WE).an XL).an XJ).an XK).an c2E).an b7p) ⟨[5,6],[6],[]⟩ Tryz.func154 rfl (by decide) (fun x=>[]) (fun x hp=>?_)
 obtain⟨a,u⟩:=x
 change List (List Rat) at a
 refine aT (let A₂:=(aB a.length).toNat;let aQ:=(fun(x:Ty.den (Ty.list (Ty.lf Lf.gJ)))=>dI (jF (fun(x:Ty.den (Ty.lf Lf.gJ))=>dI ((aH.ok x=true)::aF Cd)) x::aF Cd));let dF:=(fun(xs:Ty.den (Ty.list (Ty.lf Lf.gJ)))=>List.map (fun(x:Ty.den (Ty.lf Lf.gJ))=>aH.x x) xs);let dL:=(rowsOf none (bF A₂ A₂ (gUn ())));let A₁:=(List.map dF dL);let A₀:=(bF a.length (wdM a+wdM A₁) (jG (wdM a) (ent a) (ent A₁)));let aK:=(rowsOf none (bF A₀.length (wdM A₀) (rdm A₀ A₂)),aB a.length,());(okM a/\True)/\ifB (sqC a != 0) (True/\aF (List Rat)=Prod.fst (LV a)/\True/\sqC a=Prod.fst (LV a).2/\True) ((NV TUn b1G (aB a.length,aB a.length,(),())/\jF aQ dL/\(okM a/\okM A₁/\List.length a=List.length A₁)/\True)/\(a8g A₀ (aB a.length)/\True)/\ifB (decide (aB (fG (rdp A₀ A₂)).length<aB a.length)) (True/\aF (List Rat)=Prod.fst (LV a)/\True/\14=Prod.fst (LV a).2/\True) ((NV TIn b5g (aB a.length,aB a.length,aK,())/\True)/\(jF aQ (bF A₂ A₂ (gIn aK))/\True)/\List.map dF (bF A₂ A₂ (gIn aK))=Prod.fst (LV a)/\True/\0=Prod.fst (LV a).2/\True))) (by kernel_rfl) ?_
 have hZ:(⟨false,0,[],[]⟩:aH)=bC:=rfl
 dsimp only[aB,asT,aA,aF,Ty.den,Lf.den] at *
 simp only[hZ,Int.toNat_natCast,aC,aj,ah,jg,jf,bG,nameAt,bW,eU,fZ,rowAt,gy,bg]
 have hp:okM a/\wdM a=a.length/\BK a.length (a.length+a.length) (jG a.length (ent a) idm) a.length:=hp
 obtain⟨ha,hw,hok⟩:=hp
 have q1:=ha.r64
 have q3:=ha.pos
 have eI:List.map (fun xs=>List.map (fun x=>aH.x x) xs) (rowsOf none (bF a.length a.length (gUn ())))=idM a.length:=MX _ _ _
 have hI:isM (idM a.length) a.length a.length:=b8r q3 q1
 have hIk:okM (idM a.length):=(b7C q3).ok hI (by omega)
 have eB:bF a.length (a.length+a.length) (jG a.length (ent a) (ent (idM a.length)))=bF a.length (a.length+a.length) (jG a.length (ent a) idm):=nO fun i hi j hj=>by
  unfold jG;split
  ·rfl
  ·exact lU hi (by omega)
 have hB:wdM (bF a.length (a.length+a.length) (jG a.length (ent a) idm))=a.length+a.length:=by
  show ((bF a.length (a.length+a.length) (jG a.length (ent a) idm)).getD 0 []).length=_
  rw[jB q3];simp
 have hX:=b8V (R:=a.length) (C:=a.length+a.length) (n:=a.length) (f:=jG a.length (ent a) idm) (by omega)
 have hP:=a2I (R:=a.length) (C:=a.length+a.length) (n:=a.length) (f:=jG a.length (ent a) idm) q3 (by omega) (by omega) (by omega) (by omega) hok
 have hsq:sqC a=0:=jq hw.symm
 simp only[eI,hI.wd,hw,eB,hB,hI.len,hsq]
 have hp2:(rdp (bF a.length (a.length+a.length) (jG a.length (ent a) idm)) a.length)=(OQ a).2:=by
  show (red (bF _ _ _).length _ _).2=_
  rw[eU];exact hX.1
 have hm2:∀ i,i<a.length->∀ c,c<a.length+a.length->rdm (bF a.length (a.length+a.length) (jG a.length (ent a) idm)) a.length i c=(OQ a).1 i c:=fun i hi c hc=>by
  show (red (bF _ _ _).length _ _).1 i c=_
  rw[eU];exact hX.2 i hi c hc
 rw[hp2]
 refine⟨ha,fun h=>(by cases h),fun _=>⟨⟨⟨a.length,a.length,rfl,rfl,by omega,by omega,fun i j _ _=>⟨uo i,uo j⟩⟩,EC _ _ _,ha,hIk,trivial⟩,hP,fun h=>?_,fun h=>?_⟩⟩
 ·try simp only[aj] at h
  rw[IW] at h
  have hr:VN a=false:=lg (by omega)
  have e:LV a=([],14,()):=by unfold LV;rw[hr];rfl
  rw[e];exact⟨rfl,rfl⟩
 ·try simp only[ah] at h
  rw[IW] at h
  have hle:(OQ a).2.length<=a.length:=(kN a.length (jG a.length (ent a) idm) a.length).le
  have hr:VN a=true:=um (by omega)
  have e:LV a=(wH a,0,()):=by unfold LV;rw[hr];rfl
  rw[e]
  have hrow:∀ i,i<a.length->(rowsOf none (bF a.length (a.length+a.length) (rdm (bF a.length (a.length+a.length) (jG a.length (ent a) idm)) a.length))).getD i []=(List.range (a.length+a.length)).map (fun c=>dP (rdm (bF a.length (a.length+a.length) (jG a.length (ent a) idm)) a.length i c)):=fun i hi=>jB hi
  refine⟨⟨a.length,a.length,rfl,rfl,by omega,by omega,fun i j hi hj=>?_⟩,EC _ _ _,(MX _ _ _).trans (jL fun i hi j hj=>?_),rfl⟩
  ·have hi:i<a.length:=hi
   have hj:j<a.length:=hj
   refine⟨uo i,by show i<(bF _ _ _).length;rw[eU];exact hi,uo j,by omega,uo _,by show (a.length:Int)<=1000;omega,?_,?_⟩
   ·show a.length+j<((rowsOf none (bF a.length (a.length+a.length) (rdm (bF a.length (a.length+a.length) (jG a.length (ent a) idm)) a.length))).getD i []).length
    rw[hrow i hi];simp;omega
   ·show (((rowsOf none (bF a.length (a.length+a.length) (rdm (bF a.length (a.length+a.length) (jG a.length (ent a) idm)) a.length))).getD i []).getD (a.length+j) bC).ok=true
    rw[hrow i hi,gU (by omega)];rfl
  ·show EL (bF a.length (a.length+a.length) (rdm (bF a.length (a.length+a.length) (jG a.length (ent a) idm)) a.length)) i (a.length+j)=(OQ a).1 i (a.length+j)
   rw[RN hi (by omega)]
   exact hm2 i hi _ (by omega)
end Go.Proofs.YtbkocjmmbkifjaaGreat
