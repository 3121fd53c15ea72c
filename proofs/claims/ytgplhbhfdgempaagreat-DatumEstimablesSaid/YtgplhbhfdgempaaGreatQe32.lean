/-
  Lemmas for the theorem vestimables_holds, part 32 of 36.
-/
import Derived.Test.YtgplhbhfdgempaaGreatQe31
namespace Go.Proofs.YtgplhbhfdgempaaGreat
open Go Go.RowKit
set_option maxRecDepth 100000
set_option maxHeartbeats 1000000
set_option linter.unusedVariables false
set_option linter.unusedSimpArgs false
theorem wdF {α:Type} (a:List (List α)):(List.getD a 0 []).length=wdM a:=rfl
theorem kJ (a:MR) (r c:Nat):(LV a (r:Int) (c:Int)=true)↔a.length=r/\wdM a=c:=by
 unfold LV;rw[ak,ji,ji];omega
theorem kU (a:MR) (r c:Nat):(LV a (r:Int) (c:Int)=false)↔¬ (a.length=r/\wdM a=c):=by
 rw[<-kJ,Bool.not_eq_true]
def smL (K:Nat) (l:LR):Prop:=rY l/\(okR l=true->∀ q ∈ l,rsz q.x<=K)
theorem b1q {g b:MQ} (h:(FY g b).2.1=false):pU (bgM g b)=false:=by
 cases e:pU (bgM g b)
 ·rfl
 ·unfold FY at h;rw[e,ig rfl] at h;cases h
theorem b1r {g b:MQ} (h:(FY g b).2.1=true):pU (bgM g b)=true/\FY g b=(sM g b,true,()):=by
 cases e:pU (bgM g b)
 ·unfold FY at h;rw[e,iq (by decide)] at h;cases h
 ·exact⟨rfl,by unfold FY;rw[e];rfl⟩
theorem c0o {a:MQ} {b:LQ'} (h:¬ (GH a b).2.1=0):XF a b=false:=by
 cases e:XF a b
 ·rfl
 ·exfalso;apply h;unfold GH;rw[e];rfl
theorem c0p {a:MQ} {b:LQ'} (h:(GH a b).2.1=0):XF a b=true/\GH a b=(FZ a b,0,()):=by
 cases e:XF a b
 ·unfold GH at h;rw[e,iq (by decide)] at h;exact absurd h (by decide)
 ·exact⟨rfl,by unfold GH;rw[e];rfl⟩
theorem LG {g b:MR} (G:smK 100 g) (B:smK 100 b) (hg:eP g=0) (hb:eP b=0) (h1:b.length=g.length) (h2:wdM b=wdM g):NW (mq g) (mq b):=by
 obtain⟨g1,g7,w7,gC⟩:=G.at hg
 obtain⟨b1,b7,v7,bC⟩:=B.at hb
 unfold NW
 rw[pO,a3b]
 rw[h1,h2] at b1
 exact⟨g1,b1,g7,w7,gC,bC⟩
theorem a0H {n g:MR} {K:Nat} (A:smK 100 n) (G:smK K g) (hK:K<=13000) (hn:eP n=0) (hg:eP g=0) (h1:n.length=wdM n) (h2:g.length=n.length):a0G (mq n) (mq g):=by
 obtain⟨n1,n7,w7,nC⟩:=A.at hn
 obtain⟨g1,g7,v7,gC⟩:=G.at hg
 exact⟨NU n1 w7 nC (by omega),NU g1 v7 gC (by omega),by rw[a3b,pO,h1],by rw[pO,pO,h2],nC.sz (by omega),gC.sz (by omega)⟩
theorem three {a b c:MR} (ha:iL a) (hb:iL b) (hc:iL c):∀ x ∈ [a,b,c],iL x:=fun x h=>by
 rcases uo.mp h with rfl|h
 ·exact ha
 ·rcases uo.mp h with rfl|h
  ·exact hb
  ·rw[qh.mp h];exact hc
theorem two {a b:MR} (ha:iL a) (hb:iL b):∀ x ∈ [a,b],iL x:=fun x h=>by
 rcases uo.mp h with rfl|h
 ·exact ha
 ·rw[qh.mp h];exact hb
theorem b4o {l:LR}:okR l=true↔∀ q ∈ l,q.ok=true:=by
 unfold okR
 rw[mg,yj]
 exact⟨fun h q hq=>by have:=h q hq;simpa using this,fun h q hq=>by rw[h q hq];decide⟩
theorem a4h {l:LR} (h:okR l=true):eH (fun q:aF=>bY [q.ok=true]) l:=lX.mpr fun q hq=>⟨b4o.mp h q hq,trivial⟩
theorem smL.q {K:Nat} {l:LR} (H:smL K l) (h:okR l=true):∀ q ∈ lq l,rsz q<=K:=fun q hq=>by
 obtain⟨y,hy,rfl⟩:=ug.mp hq
 exact H.2 h y hy
theorem b5J {n:MQ} {r:LQ'} {N:Nat} (hn:isM n N N) (H:CdM n 100) (h7:N<=7) (hr:r.length=N) (hs:∀ q ∈ r,rsz q<=1):Cd (jK (wdM n) (ent n) (fun i _=>lv r i)) N (N+1) 116:=by
 have H2:Cd (ent n) N N 100:=by have:=H;unfold CdM at this;rwa [hn.len,hn.wd] at this
 have G:Cd (fun i _=>lv r i) N 1 (N*(1+1)+2):=Cd.of fun i hi j _=>hs _ (by unfold lv;rw[bf,bn (by omega)];exact jv _)
 rw[hn.wd]
 exact(Cd.bes H2 G).mono (by omega)
theorem a1y {n:MQ} {r:LQ'} {N:Nat} (hn:isM n N N) (H:CdM n 100) (h7:N<=7) (hr:r.length=N) (hs:∀ q ∈ r,rsz q<=1):∀ q ∈ FZ n r,rsz q<=20000:=fun q hq=>by
 have C:=b5J hn H h7 hr hs
 obtain⟨c,_,rfl⟩:=ug.mp hq
 have E:=a3J n r
 have h3:2 ^ N*(116+1)<=128*117:=ou (a3i h7) (aj _)
 unfold xs
 split
 ·next h =>
  have h4:=List.idxOf_lt_length_of_mem h
  have h5:=E.le
  have h6:=hn.len
  have:=(C.red N (by omega)).rsz (i:=(iC n r).2.idxOf c) (j:=N) (by omega) (by omega)
  unfold iC at this ⊢
  rw[hn.len,hn.wd] at *
  omega
 ·exact jg (show rsz 0<=1 by decide +kernel) (by omega)
def DK (n g:MQ):MQ:=QB n (mulM g (trM g))
theorem KX {n g:MQ} {N c:Nat} (hn:isM n N N):isM (DK n g) N N:=hn.add
theorem a6N {n g:MQ} {N c:Nat} (hn:isM n N N) (hg:isM g N c) (h7:c<=7) (H:CdM n 100) (G:CdM g 100):CdM (DK n g) 310:=by
 have h1:=hg.trp
 have h2:=G.trp hg
 have h3:=hg.mul h1
 have h4:=G.mul h2 hg h1
 exact(H.add h4 hn h3).mono (by omega)
theorem a3d {n g:MQ} {N c:Nat} (hn:isM n N N) (hg:isM g N c) (hG:rG n g=true):pU (DK n g)=true:=by
 have HG:=(a2v hn hg).mp hG
 rw[a3r (KX (c:=c) hn)]
 intro x h
 refine HG.regular fun i hi=>?_
 rw[<-h i hi]
 refine JD fun j hj=>?_
 unfold DK
 rw[hn.c0G hi hj,hg.KT hg.trp hi hj]
 show ent n i j+mm c (ent g) (tr (ent g)) i j=_
 congr 1
 exact jW (fun _ _=>rfl) fun k hk=>(hg.XI hk hj).symm
theorem b6G {a:MQ} (h:pU a=true):tV a=(mW a,0,()):=by unfold tV;rw[h];rfl
def b2i (n g b:MR) (r:LR):Prop:=smK 100 n/\smK 100 g/\smK 100 b/\smL 1 r
def oG (n g b:MR) (r:LR):LQ' × Int × Unit :=
 if (eP n=0/\eP g=0/\eP b=0)/\okR r=true then
  if ((n.length=wdM n/\g.length=n.length)/\b.length=n.length/\wdM b=wdM g)/\r.length=n.length then
   if rG (mq n) (mq g)=true then
    if pU (bgM (mq g) (mq b))=true then
     if XF (mq n) (lq r)=true then (mvL (sM (mq g) (mq b)) (FZ (mq n) (lq r)),0,()) else ([],6,())
    else ([],14,())
   else ([],12,())
  else ([],4,())
 else ([],1,())
def b5l:Ctr:=⟨[tMR,.pair tMR .unit,tMR,.list tR],[.list tQ,tI],fun x=>b2i x.1 x.2.1.1 x.2.2.1 x.2.2.2.1,fun x=>oG x.1 x.2.1.1 x.2.2.1 x.2.2.2.1⟩
theorem TB:aW Tryz.prog 20 b5l:=by
 refine bH (((((((nil0.ad a1O).ad b2j).ad CB).ad a2a).ad XP).ad SQ).ad a2e) ⟨[],[],[]⟩ Tryz.func20 rfl (by decide) (fun x=>[]) (fun x hp=>?_)
 obtain⟨n,g,b,r,u⟩:=x
 change List (List aF) at n
 change List (List aF) × Unit at g
 change List (List aF) at b
 change List aF at r
 refine bP (let aQ:=(asT (List (List aF)) g.1);let bZ:=(fun(x:Ty.den (Ty.list (Ty.lf Lf.dG)))=>bY (eH (fun(x:Ty.den (Ty.lf Lf.dG))=>bY ((aF.ok x=true)::aC Prop)) x::aC Prop));let dJ:=(n::asT (List (List aF)) g.1::b::aC (List (List aF)));let dS:=(fun(x:Ty.den (Ty.lf Lf.dG))=>aF.x x);let A₁:=(fun(xs:Ty.den (Ty.list (Ty.lf Lf.dG)))=>List.map dS xs);let gB:=(List.getD n 0 (aC aF)).length;let gQ:=(FY (List.map A₁ aQ) (List.map A₁ b));let eU:=(oG n aQ b r).2;let iH:=(GH (List.map A₁ n) (List.map dS r));let lJ:=(bif aB n.length != aB gB then true else aB aQ.length != aB n.length);let A₀:=(lJ==false);let iY:=(A₀=true->A₀=true/\True);let lF:=((!jG dJ==0)==false);let pY:=(aB (List.getD aQ 0 (aC aF)).length);let A₂:=(bif bif aB n.length != aB gB then true else aB aQ.length != aB n.length then true else !LV b (aB n.length) pY);let oH:=((A₂==false)=true->(A₂==false)=true/\True);let gG:=(aB n.length != aB gB);let bK:=(gG==false);let kV:=(bK=true->bK=true/\True);((List.length dJ<=1000000/\∀ (a:List (List aF)),a ∈ n::asT (List (List aF)) g.1::b::aC (List (List aF))->iL a)/\(lF=true->lF=true/\rY r/\True)/\(lF=true->lF=true/\True)/\((!jG dJ==0)=false->lF=true)/\True)/\ifB (bif !jG dJ==0 then true else !okR r) (True/\aC Rat=Prod.fst (oG n aQ b r)/\True/\1=Prod.fst eU/\True) ((asT Int 0<=0/\0<aB n.length/\kV/\kV/\kV/\(bK=true->bK=true/\bK=true/\True)/\(gG=false->bK=true)/\iY/\iY/\(A₀=true->A₀=true/\asT Int 0<=0/\0<aB aQ.length/\True)/\iY/\iY/\(A₀=true->A₀=true/\A₀=true/\A₀=true/\0<List.length b/\True)/\iY/\(lJ=false->A₀=true)/\oH/\oH/\((A₂==false)=true->(A₂==false)=true/\(A₂==false)=true/\True)/\(A₂=false->(A₂==false)=true)/\True)/\ifB (bif bif bif aB n.length != aB gB then true else aB aQ.length != aB n.length then true else !LV b (aB n.length) pY then true else aB r.length != aB n.length) (True/\aC Rat=Prod.fst (oG n aQ b r)/\True/\4=Prod.fst eU/\True) ((eH bZ n/\eH bZ aQ/\a0G (List.map A₁ n) (List.map A₁ aQ)/\True)/\ifB (!rG (List.map A₁ n) (List.map A₁ aQ)) (True/\aC Rat=Prod.fst (oG n aQ b r)/\True/\12=Prod.fst eU/\True) ((eH bZ aQ/\eH bZ b/\NW (List.map A₁ aQ) (List.map A₁ b)/\True)/\ifB (!Prod.fst gQ.2) (True/\aC Rat=Prod.fst (oG n aQ b r)/\True/\14=Prod.fst eU/\True) ((eH bZ n/\eH (fun(x:Ty.den (Ty.lf Lf.dG))=>bY ((aF.ok x=true)::aC Prop)) r/\(okM (List.map A₁ n)/\wdM (List.map A₁ n)<=63/\List.length (List.map dS r)=List.length (List.map A₁ n)/\(∀ (q:Rat),q ∈ List.map dS r->rsz q<=10000000)/\FX (List.map A₁ n).length (wdM (List.map A₁ n)+1) (jK (wdM (List.map A₁ n)) (ent (List.map A₁ n)) fun(i x:Nat)=>lv (List.map dS r) i) (wdM (List.map A₁ n)))/\True)/\ifB (Prod.fst iH.2 != 0) (True/\aC Rat=Prod.fst (oG n aQ b r)/\True/\6=Prod.fst eU/\True) (((okM gQ.1/\szM gQ.1 1000000/\List.length iH.1=wdM gQ.1/\∀ (q:Rat),q ∈ Prod.fst iH->rsz q<=1000000)/\True)/\True/\mvL gQ.1 iH.1=Prod.fst (oG n aQ b r)/\True/\0=Prod.fst eU/\True)))))) (by kernel_rfl) ?_
 try simp only[aT,ay,au]
 try dsimp only[Ty.den,Lf.den,asT] at *
 try simp only[yH,yA,trF,yI]
 have hZ:(⟨false,0,[],[]⟩:aF)=bU:=rfl
 try dsimp only[aB,asT,aA,aC,Ty.den,Lf.den] at *
 try simp only[hZ,Int.toNat_natCast,aT,ay,au,oh,ny,aH,nameAt,aV,aS,bF,rowAt,iw,gy]
 try simp only[kX,List.all_cons,List.all_nil,xu,mg,tu,ji,uy,ne_eq,ak,qm,jo,qw,uw,Ci,yw,Cj,oh,ny,jC,uf,qo,List.length_cons,List.length_nil]
 try simp only[wdF,kJ,kU]
 have hp:b2i n g.1 b r:=hp
 obtain⟨g,u2⟩:=g
 obtain⟨pn,pg,pb,pr⟩:=hp
 dsimp only at pg ⊢
 refine⟨⟨⟨by omega,three pn.1 pg.1 pb.1⟩,fun h=>⟨h,pr.1⟩⟩,fun h=>?_,fun h=>?_⟩
 ·unfold oG;rw[iq (fun hh=>h.elim (fun h1=>h1 hh.1.1 hh.1.2.1 hh.1.2.2) (fun h1=>by rw[h1] at hh;exact absurd hh.2 (by decide)))];exact⟨rfl,rfl⟩
 ·have h0:=h
  obtain⟨⟨cn,cg,cb⟩,cr⟩:=h
  obtain⟨hn,n7,wn7,nC⟩:=pn.at cn
  obtain⟨hg,g7,wg7,gC⟩:=pg.at cg
  obtain⟨hb,b7,wb7,bC⟩:=pb.at cb
  have n0:=hn.2.2.1
  have g0:=hg.2.2.1
  have b0:=hb.2.2.1
  refine⟨⟨by omega,by omega,fun h=>⟨h,by omega,by omega⟩,fun h=>⟨h,h,h,by omega⟩⟩,fun h=>?_,fun h=>?_⟩
  ·unfold oG;rw[ig h0,iq (by omega)];exact⟨rfl,rfl⟩
  ·have h1:=h
   obtain⟨⟨⟨e1,e2⟩,e3,e4⟩,e5⟩:=h
   have hN:isM (mq n) n.length n.length:=by rw[<-e1] at hn;exact hn
   have hP:NW (mq g) (mq b):=LG pg pb cg cb (by omega) e4
   have F:=a4T hP
   have on:=tZ (kY cn).2
   have og:=tZ (kY cg).2
   have ob:=tZ (kY cb).2
   refine⟨⟨on,og,a0H pn pg (by omega) cn cg e1 e2⟩,fun h3=>?_,fun h3=>⟨⟨og,ob,hP⟩,fun h4=>?_,fun h4=>?_⟩⟩
   ·unfold oG;rw[ig h0,ig h1,iq (by rw[h3];decide)];exact⟨rfl,rfl⟩
   ·unfold oG;rw[ig h0,ig h1,ig h3,iq (by rw[b1q h4];decide)];exact⟨rfl,rfl⟩
   ·obtain⟨hR,hT⟩:=b1r h4
    rw[hT];dsimp only
    have hr:(lq r).length=n.length:=by rw[DC,e5]
    have hs:=pr.q cr
    have C:=b5J hN nC n7 hr hs
    refine⟨⟨on,a4h cr,nC.ok hN (by omega),by rw[hN.wd];omega,by rw[hr,hN.len],fun q hq=>jg (hs q hq) (by omega),?_⟩,fun h5=>?_,fun h5=>?_⟩
    ·have h3:2 ^ wdM (mq n)*(116+1)<=128*117:=ou (a3i (by rw[hN.wd];omega)) (aj _)
     have h4:=hN.wd
     rw[hN.len]
     have C2:Cd (jK (wdM (mq n)) (ent (mq n)) (fun i _=>lv (lq r) i)) n.length (wdM (mq n)+1) 116:=by rw[h4];rw[h4] at C;exact C
     exact QX C2 (by omega) (by omega)
    ·unfold oG;rw[ig h0,ig h1,ig h3,ig hR,iq (by rw[c0o h5];decide)];exact⟨rfl,rfl⟩
    ·obtain⟨hS,hT2⟩:=c0p h5
     rw[hT2];dsimp only
     refine⟨⟨F.s2.ok F.s1 (by omega),F.s2.sz (by omega),?_,fun q hq=>jg (a1y hN nC n7 hr hs q hq) (by omega)⟩,?_⟩
     ·rw[VW hN,F.s1.wd,pO,e2]
     ·unfold oG;rw[ig h0,ig h1,ig h3,ig hR,ig hS];exact⟨rfl,rfl⟩
def yV (n g b:MR):MQ × Int × Unit :=
 if eP n=0/\eP g=0/\eP b=0 then
  if (n.length=wdM n/\g.length=n.length)/\b.length=n.length/\wdM b=wdM g then
   if rG (mq n) (mq g)=true then
    if pU (bgM (mq g) (mq b))=true then
     (mulM (mulM (sM (mq g) (mq b)) (mW (QB (mq n) (mulM (mq g) (trM (mq g)))))) (trM (sM (mq g) (mq b))),0,())
    else ([],14,())
   else ([],12,())
  else ([],4,())
 else ([],1,())
def b5k:Ctr:=⟨[tMR,.pair tMR .unit,tMR],[tM,tI],fun x=>smK 100 x.1/\smK 100 x.2.1.1/\smK 100 x.2.2.1,fun x=>yV x.1 x.2.1.1 x.2.2.1⟩
theorem SN:aW Tryz.prog 24 b5k:=by
 refine bH (((((((((nil0.ad vX).ad QV).ad a8X).ad a6o).ad CB).ad XP).ad SQ).ad a2e).ad a9B) ⟨[],[],[]⟩ Tryz.func24 rfl (by decide) (fun x=>[]) (fun x hp=>?_)
 obtain⟨n,g,b,u⟩:=x
 change List (List aF) at n
 change List (List aF) × Unit at g
 change List (List aF) at b
 refine bP (let aQ:=(fun(xs:Ty.den (Ty.list (Ty.lf Lf.dG)))=>List.map (fun(x:Ty.den (Ty.lf Lf.dG))=>aF.x x) xs);let bK:=(fun(x:Ty.den (Ty.list (Ty.lf Lf.dG)))=>bY (eH (fun(x:Ty.den (Ty.lf Lf.dG))=>bY ((aF.ok x=true)::aC Prop)) x::aC Prop));let dJ:=(asT (List (List aF)) g.1);let A₀:=(List.map aQ dJ);let gB:=(tab (wdM A₀) A₀.length (tr (ent A₀)));let dS:=(tab A₀.length (wdM gB) (mm gB.length (ent A₀) (ent gB)));let A₁:=(QB (List.map aQ n) dS);let gQ:=(List.getD n 0 (aC aF)).length;let iY:=(bif aB n.length != aB gQ then true else aB dJ.length != aB n.length);let A₂:=(iY==false);let eU:=(A₂=true->A₂=true/\True);let iH:=(yV n dJ b).2;let lJ:=(n::asT (List (List aF)) g.1::b::aC (List (List aF)));let lF:=(FY A₀ (List.map aQ b));let oH:=(aB n.length != aB gQ);let bZ:=(oH==false);let kV:=(bZ=true->bZ=true/\True);((List.length lJ<=1000000/\∀ (a:List (List aF)),a ∈ n::asT (List (List aF)) g.1::b::aC (List (List aF))->iL a)/\True)/\ifB (!jG lJ==0) (True/\aC (List Rat)=Prod.fst (yV n dJ b)/\True/\1=Prod.fst iH/\True) ((asT Int 0<=0/\0<aB n.length/\kV/\kV/\kV/\(bZ=true->bZ=true/\bZ=true/\True)/\(oH=false->bZ=true)/\eU/\eU/\(A₂=true->A₂=true/\asT Int 0<=0/\0<aB dJ.length/\True)/\eU/\eU/\(A₂=true->A₂=true/\A₂=true/\A₂=true/\0<List.length b/\True)/\eU/\(iY=false->A₂=true)/\True)/\ifB (bif bif aB n.length != aB gQ then true else aB dJ.length != aB n.length then true else !LV b (aB n.length) (aB (List.getD dJ 0 (aC aF)).length)) (True/\aC (List Rat)=Prod.fst (yV n dJ b)/\True/\4=Prod.fst iH/\True) ((eH bK n/\eH bK dJ/\a0G (List.map aQ n) A₀/\True)/\ifB (!rG (List.map aQ n) A₀) (True/\aC (List Rat)=Prod.fst (yV n dJ b)/\True/\12=Prod.fst iH/\True) ((eH bK dJ/\eH bK b/\NW A₀ (List.map aQ b)/\True)/\ifB (!Prod.fst lF.2) (True/\aC (List Rat)=Prod.fst (yV n dJ b)/\True/\14=Prod.fst iH/\True) ((eH bK dJ/\okM A₀/\True)/\(eH bK dJ/\(okM A₀/\okM gB/\wdM A₀=List.length gB/\szM A₀ 1000000/\szM gB 1000000)/\True)/\(eH bK n/\(okM (List.map aQ n)/\okM dS/\List.length (List.map aQ n)=List.length dS/\wdM (List.map aQ n)=wdM dS)/\True)/\((okM A₁/\wdM A₁=List.length A₁/\FX A₁.length (List.length A₁+List.length A₁) (jK A₁.length (ent A₁) idm) A₁.length)/\True)/\(b2S lF.1 (tV A₁).1/\True)/\True/\mulM (mulM lF.1 (tV A₁).1) (trM lF.1)=Prod.fst (yV n dJ b)/\True/\0=Prod.fst iH/\True))))) (by kernel_rfl) ?_
 try simp only[aT,ay,au]
 try dsimp only[Ty.den,Lf.den,asT] at *
 try simp only[yH,yA,trF,yI]
 have hZ:(⟨false,0,[],[]⟩:aF)=bU:=rfl
 try dsimp only[aB,asT,aA,aC,Ty.den,Lf.den] at *
 try simp only[hZ,Int.toNat_natCast,aT,ay,au,oh,ny,aH,nameAt,aV,aS,bF,rowAt,iw,gy]
 try simp only[kX,List.all_cons,List.all_nil,xu,mg,tu,ji,uy,ne_eq,ak,qm,jo,qw,uw,Ci,yw,Cj,oh,ny,jC,uf,qo,List.length_cons,List.length_nil]
 try simp only[wdF,kJ,kU]
 have hp:smK 100 n/\smK 100 g.1/\smK 100 b:=hp
 obtain⟨g,u2⟩:=g
 obtain⟨pn,pg,pb⟩:=hp
 dsimp only at pg ⊢
 refine⟨⟨by omega,three pn.1 pg.1 pb.1⟩,fun h=>?_,fun h=>?_⟩
 ·unfold yV;rw[iq (fun hh=>h hh.1 hh.2.1 hh.2.2)];exact⟨rfl,rfl⟩
 ·have h0:=h
  obtain⟨cn,cg,cb⟩:=h
  obtain⟨hn,n7,wn7,nC⟩:=pn.at cn
  obtain⟨hg,g7,wg7,gC⟩:=pg.at cg
  obtain⟨hb,b7,wb7,bC⟩:=pb.at cb
  have n0:=hn.2.2.1
  have g0:=hg.2.2.1
  have b0:=hb.2.2.1
  refine⟨⟨by omega,by omega,fun h=>⟨h,by omega,by omega⟩,fun h=>⟨h,h,h,by omega⟩⟩,fun h=>?_,fun h=>?_⟩
  ·unfold yV;rw[ig h0,iq (by omega)];exact⟨rfl,rfl⟩
  ·have h1:=h
   obtain⟨⟨e1,e2⟩,e3,e4⟩:=h
   have hN:isM (mq n) n.length n.length:=by rw[<-e1] at hn;exact hn
   have hP:NW (mq g) (mq b):=LG pg pb cg cb (by omega) e4
   have F:=a4T hP
   have on:=tZ (kY cn).2
   have og:=tZ (kY cg).2
   have ob:=tZ (kY cb).2
   refine⟨⟨on,og,a0H pn pg (by omega) cn cg e1 e2⟩,fun h3=>?_,fun h3=>⟨⟨og,ob,hP⟩,fun h4=>?_,fun h4=>?_⟩⟩
   ·unfold yV;rw[ig h0,ig h1,iq (by rw[h3];decide)];exact⟨rfl,rfl⟩
   ·unfold yV;rw[ig h0,ig h1,ig h3,iq (by rw[b1q h4];decide)];exact⟨rfl,rfl⟩
   ·obtain⟨hR,hT⟩:=b1r h4
    have hg:isM (mq g) n.length (wdM g):=by rw[e2] at hg;exact hg
    have t1:=hg.trp
    have t2:=gC.trp hg
    have m1:=hg.mul t1
    have m2:=gC.mul t2 hg t1
    have a1:isM (DK (mq n) (mq g)) n.length n.length:=KX (c:=0) hN
    have a2:=a6N hN hg wg7 nC gC
    have i1:=a1.inv
    have i2:=a2.inv a1
    have h7:2 ^ n.length*(310+2)<=128*312:=ou (a3i n7) (aj _)
    rw[hT];dsimp only
    rw[show QB (mq n) (mulM (mq g) (trM (mq g)))=DK (mq n) (mq g) from rfl,b6G (a3d hN hg h3)];dsimp only
    have s1:isM (sM (mq g) (mq b)) n.length n.length:=by have:=F.s1;rwa [pO,e2] at this
    refine⟨⟨og,gC.ok hg (by omega)⟩,⟨og,gC.ok hg (by omega),t2.ok t1 (by omega),hg.wd.trans t1.len.symm,gC.sz (by omega),t2.sz (by omega)⟩,⟨on,nC.ok hN (by omega),m2.ok m1 (by omega),hN.len.trans m1.len.symm,hN.wd.trans m1.wd.symm⟩,⟨a2.ok a1 (by omega),a1.wd.trans a1.len.symm,?_⟩,?_,?_⟩
    ·rw[a1.len]
     exact QX (a2.KN a1) (by omega) (by omega)
    ·unfold b2S;rw[s1.len]
     exact⟨s1,i1,n7,F.s2.mono (by omega),i2.mono (by omega)⟩
    ·unfold yV;rw[ig h0,ig h1,ig h3,ig hR];exact⟨rfl,rfl⟩
def oI (g:MR) (r:LR):LQ':=mvL (trM (mq g)) (lq r)
def zC (g:MR) (r:LR):Bool × Int × Unit :=
 if eP g=0/\okR r=true then if r.length=g.length then (!(oI g r).any (fun q=>q != 0),0,()) else (false,4,()) else (false,1,())
theorem a6c {g:MR} {r:LR} (G:smK 100 g) (H:smL 1 r) (cg:eP g=0) (cr:okR r=true) (h:r.length=g.length) (i:Nat) (hi:i<(oI g r).length):rsz ((oI g r).getD i 0)<=1000:=by
 obtain⟨hg,g7,wg7,gC⟩:=G.at cg
 have t1:=hg.trp
 have hi2:i<wdM g:=by unfold oI at hi;rw[uK,t1.len] at hi;exact hi
 have e:(oI g r).getD i 0=mv g.length (ent (trM (mq g))) (lv (lq r)) i:=YP t1 hi2
 rw[e]
 have hs:=H.q cr
 have:=xH (K:=101) (f:=fun k=>ent (trM (mq g)) i k*lv (lq r) k) g.length (fun k hk=>by
  have y1:rsz (ent (trM (mq g)) i k)<=100:=(gC.trp hg).sz (aj _) i (by rw[t1.len];exact hi2) k (by rw[t1.wd];exact hk)
  have y2:rsz (lv (lq r) k)<=1:=dY hs (by rw[DC];omega)
  have y3:=lS (ent (trM (mq g)) i k) (lv (lq r) k)
  show rsz (ent (trM (mq g)) i k*lv (lq r) k)<=_
  omega)
 have y4:g.length*(101+1)<=7*102:=ou g7 (aj _)
 show rsz (sm g.length fun k=>ent (trM (mq g)) i k*lv (lq r) k)<=_
 omega
def c0V:Ctr:=⟨[.pair tMR .unit,.list tR],[tB,tI],fun x=>smK 100 x.1.1/\smL 1 x.2.1,fun x=>zC x.1.1 x.2.1⟩
theorem a9C:aW Tryz.prog 28 c0V:=by
 refine bH (((((nil0.ad ZX).ad vX).ad a1O).ad CB).ad a2a) ⟨[11],[],[]⟩ Tryz.func28 rfl (by decide) (fun x=>[.inv {k:Nat // k<=(oI (show MR from x.1.1) (show LR from x.2.1)).length/\((oI (show MR from x.1.1) (show LR from x.2.1)).take k).any (fun q=>q != 0)=false} (fun k=>[(42,.val tI (k.1:Int))]) (fun k=>[]) (fun k=>(oI (show MR from x.1.1) (show LR from x.2.1)).length-k.1) ⟨0,by omega,rfl⟩ (fun _=>[])]) (fun x hp=>?_)
 obtain⟨g,r,u⟩:=x
 change List (List aF) × Unit at g
 change List aF at r
 refine bP (let A₁:=(asT (List (List aF)) g.1);let A₂:=(asT (List (List aF)) g.1::aC (List (List aF)));let bK:=(fun(x:Ty.den (Ty.lf Lf.dG))=>aF.x x);let A₀:=(List.map (fun(xs:Ty.den (Ty.list (Ty.lf Lf.dG)))=>List.map bK xs) A₁);let bZ:=(tab (wdM A₀) A₀.length (tr (ent A₀)));let aQ:=(mvL bZ (List.map bK r));let dJ:=((!jG A₂==0)==false);let dS:=(zC A₁ r).2;((List.length A₂<=1000000/\∀ (a:List (List aF)),a ∈ asT (List (List aF)) g.1::aC (List (List aF))->iL a)/\(dJ=true->dJ=true/\rY r/\True)/\(dJ=true->dJ=true/\True)/\((!jG A₂==0)=false->dJ=true)/\True)/\ifB (bif !jG A₂==0 then true else !okR r) (True/\false=Prod.fst (zC A₁ r)/\True/\1=Prod.fst dS/\True) (ifB (aB r.length != aB A₁.length) (True/\false=Prod.fst (zC A₁ r)/\True/\4=Prod.fst dS/\True) ((eH (fun(x:Ty.den (Ty.list (Ty.lf Lf.dG)))=>bY (eH (fun(x:Ty.den (Ty.lf Lf.dG))=>bY ((aF.ok x=true)::aC Prop)) x::aC Prop)) A₁/\okM A₀/\True)/\(eH (fun(x:Ty.den (Ty.lf Lf.dG))=>bY ((aF.ok x=true)::aC Prop)) r/\(okM bZ/\szM bZ 1000000/\List.length (List.map bK r)=wdM bZ/\∀ (q:Rat),q ∈ List.map bK r->rsz q<=1000000)/\True)/\(asT Int 0=0/\True)/\∀ (i:{ k:Nat // k<=List.length (oI A₁ r)/\(List.any (List.take k (oI A₁ r)) fun(q:Rat)=>q != 0)=false }),let gB:=(List.getD aQ (aB (aA i)).toNat 0);asT Bool true=true/\ifB (decide (aB (aA i)<aB aQ.length)) ((0<=aB (aA i)/\aB (aA i)<aB aQ.length/\True)/\(rsz gB<=1000000000/\True)/\ifB (sgn (Rat.num gB) != 0) (True/\false=Prod.fst (zC A₁ r)/\True/\0=Prod.fst dS/\True) (∃ (i':{ k:Nat // k<=List.length (oI A₁ r)/\(List.any (List.take k (oI A₁ r)) fun(q:Rat)=>q != 0)=false }),List.length (oI A₁ r)-aA i'<List.length (oI A₁ r)-aA i/\IntKind.wrap IntKind.i64 (aB (aA i)+1)=aB (aA i')/\True)) (True/\true=Prod.fst (zC A₁ r)/\True/\0=Prod.fst dS/\True)))) (by kernel_rfl) ?_
 try simp only[aT,ay,au]
 try dsimp only[Ty.den,Lf.den,asT] at *
 try simp only[yH,yA,trF,yI]
 have hZ:(⟨false,0,[],[]⟩:aF)=bU:=rfl
 try dsimp only[aB,asT,aA,aC,Ty.den,Lf.den] at *
 try simp only[hZ,Int.toNat_natCast,aT,ay,au,oh,ny,aH,nameAt,aV,aS,bF,rowAt,iw,gy]
 try simp only[kX,List.all_cons,List.all_nil,xu,mg,tu,ji,uy,ne_eq,ak,qm,jo,qw,uw,Ci,yw,Cj,oh,ny,jC,uf,qo,List.length_cons,List.length_nil]
 try simp only[wdF,kJ,kU]
 have hp:smK 100 g.1/\smL 1 r:=hp
 obtain⟨g,u2⟩:=g
 obtain⟨pg,pr⟩:=hp
 dsimp only at pg ⊢
 refine⟨⟨⟨by omega,fun a ha=>by rw[qh.mp ha];exact pg.1⟩,fun h=>⟨h,pr.1⟩⟩,fun h=>?_,fun h=>?_⟩
 ·unfold zC;rw[iq (fun hh=>h.elim (fun h1=>h1 hh.1) (fun h1=>by rw[h1] at hh;exact absurd hh.2 (by decide)))];exact⟨rfl,rfl⟩
 ·have h0:=h
  obtain⟨cg,cr⟩:=h
  obtain⟨hg,g7,wg7,gC⟩:=pg.at cg
  have g0:=hg.2.2.1
  have og:=tZ (kY cg).2
  have t1:=hg.trp
  have t2:=gC.trp hg
  have hs:=pr.q cr
  refine⟨fun h=>?_,fun h=>⟨⟨og,gC.ok hg (by omega)⟩,⟨a4h cr,t2.ok t1 (by omega),t2.sz (by omega),by rw[DC,t1.wd,h],fun q hq=>jg (hs q hq) (by omega)⟩,fun i=>?_⟩⟩
  ·unfold zC;rw[ig h0,iq h];exact⟨rfl,rfl⟩
  ·have hL:mvL (trM (mq g)) (lq r)=oI g r:=rfl
   rw[hL]
   have hT:zC g r=(!(oI g r).any (fun q=>q != 0),0,()):=by unfold zC;rw[ig h0,ig h]
   have hl:(oI g r).length=wdM g:=by unfold oI;rw[uK,t1.len]
   refine⟨fun h2=>?_,fun h2=>?_⟩
   ·have hi:i.1<(oI g r).length:=by omega
    refine⟨⟨by omega,by omega⟩,?_,fun h3=>?_,fun h3=>⟨⟨i.1+1,by omega,?_⟩,by simp only;omega,?_⟩⟩
    ·exact jg (a6c pg pr cg cr h i.1 hi) (by omega)
    ·rw[hT]
     have h4:(oI g r).any (fun q=>q != 0)=true:=vw.mpr ⟨(oI g r).getD i.1 0,by rw[bf,bn hi];exact jv hi,by
      rw[uy];intro h5;rw[h5] at h3;exact h3 (by decide)⟩
     rw[h4];exact⟨rfl,rfl⟩
    ·rw[mO (d:=0) hi,i.2.2]
     have h5:(oI g r).getD i.1 0=0:=Rat.num_eq_zero.mp (Du.mp h3)
     rw[h5];rfl
    ·rw[aZ (by omega) (by omega)];rfl
   ·have hi:i.1=(oI g r).length:=by have:=i.2.1;omega
    have h3:=i.2.2
    rw[hi,List.take_length] at h3
    rw[hT,h3];exact⟨rfl,rfl⟩
def c1c:Ctr:=⟨[tQ,tQ],[tQ,tI],fun x=>s19 x.1 x.2.1/\(show Rat from x.2.1)≠0,fun x=>((show Rat from x.1) / (show Rat from x.2.1),(0:Int),())⟩
theorem b2W {f:FuncId} (h:∀ (v u:Value) (x y:Rat) (w:World),RQ w v x->RQ w u y->rsz x<=190000000->rsz y<=190000000->y≠0->Calls Tryz.prog f #[v,u] w (GQC (x / y) 0 w)):aW Tryz.prog f c1c:=by
 intro F w vs x hF hvs hp
 obtain⟨v,vs',rfl,h1,u,vs'',rfl,h2,h3⟩:=hvs
 have h3:vs''=[]:=h3
 subst h3
 refine(h v u x.1 x.2.1 w (wR h1) (wR h2) hp.1.1 hp.1.2 hp.2).mono ?_
 rintro e w' ⟨r,rfl,hr,hb⟩
 exact⟨_,rfl,⟨[_,_],rfl,_,_,rfl,a7r hr,_,_,rfl,a3Q _,rfl⟩,hb⟩
theorem c2V:aW Tryz.prog 71 (cVal 999999999):=(a5O fun v ok q w h hn=>sZ v ok q w h hn)
theorem b2L:aW Tryz.prog 32 (c1n s19 (fun x y=>decide (x=y))):=(b2X fun v u x y w a b h=>a8B v u x y w a b h.1 h.2)
theorem a5D:aW Tryz.prog 42 (cIQ iW (fun i=>(i:Rat))):=(a9i fun x w h=>PN x w h.1 h.2)
theorem a5E:aW Tryz.prog 44 (cQ2 s19 (·+·)):=(MN fun v u x y w a b h=>ZB v u x y w a b h.1 h.2)
theorem a1H:aW Tryz.prog 45 (cQ2 s19 (·*·)):=(MN fun v u x y w a b h=>a8v v u x y w a b h.1 h.2)
theorem c0A:aW Tryz.prog 43 (cQ2 s19 (·-·)):=(MN fun v u x y w a b h=>ZH v u x y w a b h.1 h.2)
theorem b2M:aW Tryz.prog 72 (cQI (fun x=>rsz x<=190000000) (fun x=>sgn x.num)):=(a9j fun v x w h hl=>VP v x w h (jg hl (by omega)))
theorem c0B:aW Tryz.prog 95 c1c:=(b2W fun v u x y w a b l1 l2 hy=>b1B v u x y w a b l1 l2 hy)
def szL (l:LQ'):Prop:=l.length<=1000/\∀ q ∈ l,rsz q<=100000000
def a7i (q:aF):Prop:=q.n<=999999999/\q.m<=999999999
def oC (l:LR):Prop:=l.length<=1000000/\∀ q ∈ l,a7i q
def okL (l:LR):Bool:=!l.any (fun q=>!q.ok)
theorem kF {α:Type} {xs:List α} {i:Nat} {d:α} (hi:i<xs.length):xs.getD i d ∈ xs:=by
 rw[bf,bn hi];exact jv hi
theorem VY {α:Type} {xs ys:List α} {i:Nat} {d:α} (hi:i<xs.length) (hy:i<ys.length) (h:xs.take i=ys.take i) (h2:xs.getD i d=ys.getD i d):xs.take (i+1)=ys.take (i+1):=by
 rw[Di,Di,h]
 rw[bf,bn hi,bf,bn hy] at h2
 rw[bn hi,bn hy]
 have h2:xs[i]=ys[i]:=h2
 rw[h2]
def c1y:Ctr:=⟨[.list tR],[tB],fun x=>oC x.1,fun x=>(okL x.1,())⟩
theorem OD:aW Tryz.prog 29 c1y:=by
 refine bH (nil0.ad c2V) ⟨[],[],[]⟩ Tryz.func29 rfl (by decide) (fun x=>[.inv {k:Nat // k<=(show LR from x.1).length/\((show LR from x.1).take k).any (fun q=>!q.ok)=false} (fun k=>[(3,.val tI (k.1:Int))]) (fun k=>[]) (fun k=>(show LR from x.1).length-k.1) ⟨0,by omega,rfl⟩ (fun _=>[])]) (fun x hp=>?_)
 obtain⟨x,u⟩:=x
 change List aF at x
 refine bP ((asT Int 0=0/\True)/\∀ (i:{ k:Nat // k<=List.length x/\(List.any (List.take k x) fun(q:aF)=>!aF.ok q)=false }),let A₀:=(List.getD x (aB (aA i)).toNat { ok:=false,x:=0,g:=aC Nat,h:=aC Nat });asT Bool true=true/\ifB (decide (aB (aA i)<aB x.length)) ((0<=aB (aA i)/\aB (aA i)<aB x.length/\(aF.n A₀<=999999999/\aF.m A₀<=999999999)/\True)/\ifB (!aF.ok A₀) (True/\false=okL x/\True) (∃ (i':{ k:Nat // k<=List.length x/\(List.any (List.take k x) fun(q:aF)=>!aF.ok q)=false }),List.length x-aA i'<List.length x-aA i/\IntKind.wrap IntKind.i64 (aB (aA i)+1)=aB (aA i')/\True)) (True/\true=okL x/\True)) (by kernel_rfl) ?_
 have hZ:(⟨false,0,[],[]⟩:aF)=bU:=rfl
 dsimp only[aB,asT,aA,aC,Ty.den,Lf.den] at *
 simp only[hZ,Int.toNat_natCast,aT,ay,au,oh,ny,aH,nameAt,aV,aS,bF,rowAt,iw,gy]
 have hp:oC x:=hp
 obtain⟨hl,hb⟩:=hp
 refine fun i=>⟨fun h1=>?_,fun h1=>?_⟩
 ·have hi:i.1<x.length:=by omega
  have hs:a7i (x.getD i.1 bU):=dY hb hi
  refine⟨⟨by omega,h1,hs.1,hs.2⟩,fun h2=>?_,fun h2=>⟨⟨i.1+1,by omega,?_⟩,by simp only;omega,by rw[aZ (by omega) (by omega)];rfl⟩⟩
  ·unfold okL
   rw[vw.mpr ⟨x.getD i.1 bU,kF hi,h2⟩];rfl
  ·rw[mO (d:=bU) hi,i.2.2,h2];rfl
 ·have h3:=i.2.2
  rw[jd (by omega)] at h3
  unfold okL;rw[h3];rfl
def gU (a:MR):Prop:=a.length<=1000000/\∀ r ∈ a,oC r
theorem a9s (a:MR):eP a=bif (decide (a.length<1) || decide (a.length > 64) || decide (wdM a<1) || decide (wdM a > 64) || a.any (badR (wdM a))) then 1 else 0:=by
 unfold eP
 by_cases h1:a.length<1
 ·rw[iq (by omega),pz h1];rfl
 ·by_cases h2:a.length > 64
  ·rw[iq (by omega),pz h2];simp
  ·by_cases h3:wdM a<1
   ·rw[iq (by omega),pz h3];simp
   ·by_cases h4:wdM a > 64
    ·rw[iq (by omega),pz h4];simp
    ·rw[oq h1,oq h2,oq h3,oq h4]
     cases h5:a.any (badR (wdM a))
     ·rw[ig ⟨by omega,by omega,by omega,by omega,rfl⟩];rfl
     ·rw[iq (fun h=>Bool.noConfusion h.2.2.2.2)];rfl
def c1q:Ctr:=⟨[tMR],[tI],fun x=>gU x.1,fun x=>(eP x.1,())⟩
theorem b1z:aW Tryz.prog 25 c1q:=by
 refine bH (nil0.ad OD) ⟨[],[],[]⟩ Tryz.func25 rfl (by decide) (fun x=>[.inv {k:Nat // k<=(show MR from x.1).length/\((show MR from x.1).take k).any (badR (wdM (show MR from x.1)))=false} (fun k=>[(3,.val tI (k.1:Int))]) (fun k=>[]) (fun k=>(show MR from x.1).length-k.1) ⟨0,by omega,rfl⟩ (fun _=>[])]) (fun x hp=>?_)
 obtain⟨a,u⟩:=x
 change List (List aF) at a
 refine bP (let A₂:=(List.getD a 0 (aC aF)).length;let aQ:=(aB a.length<1);let bZ:=(aB a.length > 64);let A₀:=(bif bif decide aQ then true else decide bZ then true else decide (aB A₂<1));let bK:=((A₀==false)=true->(A₀==false)=true/\True);let dJ:=((decide aQ==false)=true->(decide aQ==false)=true/\True);let gB:=(bif decide aQ then true else decide bZ);let A₁:=(gB==false);let dS:=(A₁=true->A₁=true/\True);(dJ/\dJ/\(decide aQ=false->(decide aQ==false)=true)/\(A₁=true->A₁=true/\asT Int 0<=0/\0<aB a.length/\True)/\dS/\dS/\dS/\(gB=false->A₁=true)/\((A₀==false)=true->(A₀==false)=true/\asT Int 0<=0/\0<aB a.length/\True)/\bK/\bK/\bK/\(A₀=false->(A₀==false)=true)/\True)/\ifB (bif bif bif decide aQ then true else decide bZ then true else decide (aB A₂<1) then true else decide (aB A₂ > 64)) (True/\1=eP a/\True) ((asT Int 0=0/\True)/\∀ (i:{ k:Nat // k<=List.length a/\List.any (List.take k a) (badR (wdM a))=false }),let eU:=(List.getD a (aB (aA i)).toNat (aC aF));let iY:=(aB eU.length != aB A₂);let gQ:=(iY==false);let iH:=(gQ=true->gQ=true/\True);asT Bool true=true/\ifB (decide (aB (aA i)<aB a.length)) ((0<=aB (aA i)/\aB (aA i)<aB a.length/\asT Int 0<=0/\0<aB a.length/\(gQ=true->gQ=true/\gQ=true/\0<=aB (aA i)/\aB (aA i)<aB a.length/\True)/\iH/\(gQ=true->gQ=true/\oC eU/\True)/\iH/\(iY=false->gQ=true)/\True)/\ifB (bif aB eU.length != aB A₂ then true else !okL eU) (True/\1=eP a/\True) (∃ (i':{ k:Nat // k<=List.length a/\List.any (List.take k a) (badR (wdM a))=false }),List.length a-aA i'<List.length a-aA i/\IntKind.wrap IntKind.i64 (aB (aA i)+1)=aB (aA i')/\True)) (True/\0=eP a/\True))) (by kernel_rfl) ?_
 have hZ:(⟨false,0,[],[]⟩:aF)=bU:=rfl
 dsimp only[aB,asT,aA,aC,Ty.den,Lf.den] at *
 simp only[hZ,Int.toNat_natCast,aT,ay,au,oh,ny,aH,nameAt,aV,aS,bF,rowAt,iw,gy]
 have hp:gU a:=hp
 obtain⟨hl,hb⟩:=hp
 have eL:∀ n:Nat,decide ((n:Int)<1)=decide (n<1):=fun n=>Ap.mpr (by omega)
 have eG:∀ n:Nat,decide ((n:Int) > 64)=decide (n > 64):=fun n=>Ap.mpr (by omega)
 have f0:¬ (a.length:Int)<1↔decide (a.length<1)=false:=by rw[au];omega
 have f1:decide (a.length<1)=false->0<(a.length:Int):=fun h=>by have:=Ce h;omega
 have f2:=a9s a
 simp only[eL,eG,f0]
 have hw:(a.getD 0 []).length=wdM a:=rfl
 rw[hw]
 generalize decide (a.length<1)=b1 at *
 generalize decide (a.length > 64)=b2 at *
 generalize decide (wdM a<1)=b3 at *
 generalize decide (wdM a > 64)=b4 at *
 refine⟨?_,fun h=>?_,fun h i=>?_⟩
 ·clear f0 f2;revert f1;cases b1<;>cases b2<;>cases b3<;>simp
 ·have h9:(b1 || b2 || b3 || b4)=true:=by revert h;cases b1<;>cases b2<;>cases b3<;>cases b4<;>simp
  rw[f2,h9];rfl
 ·have h9:(b1 || b2 || b3 || b4)=false/\b1=false:=by revert h;cases b1<;>cases b2<;>cases b3<;>cases b4<;>simp
  rw[h9.1,Bool.false_or] at f2
  have f1:=f1 h9.2
  refine⟨fun h1=>?_,fun h1=>?_⟩
  ·have hi:i.1<a.length:=by omega
   have hs:oC (a.getD i.1 []):=dY hb hi
   rw[a2J]
   have hbad:(bif !((a.getD i.1 []).length==wdM a) then true else !okL (a.getD i.1 []))=badR (wdM a) (a.getD i.1 []):=by
    unfold badR okL;cases (a.getD i.1 []).length==wdM a<;>simp
   rw[hbad]
   refine⟨⟨by omega,h1,xg 0,f1,fun h=>⟨h,h,by omega,h1⟩,fun h=>h,fun h=>⟨h,hs⟩,fun h=>h,fun h=>by rw[h];rfl⟩,fun h2=>?_,fun h2=>⟨⟨i.1+1,by omega,?_⟩,by simp only;omega,by rw[aZ (by omega) (by omega)];rfl⟩⟩
   ·rw[f2,vw.mpr ⟨a.getD i.1 [],kF hi,h2⟩];rfl
   ·rw[mO (d:=[]) hi,i.2.2,h2];rfl
  ·have h3:=i.2.2
   rw[jd (by omega)] at h3
   rw[f2,h3];rfl
def c3K:Ctr:=⟨[.list tQ,.list tQ],[tB],fun x=>szL x.1/\szL x.2.1,fun x=>(decide ((show LQ' from x.1)=(show LQ' from x.2.1)),())⟩
theorem a3y:aW Tryz.prog 23 c3K:=by
 refine bH (nil0.ad b2L) ⟨[],[],[]⟩ Tryz.func23 rfl (by decide) (fun x=>[.inv {k:Nat // k<=(show LQ' from x.1).length/\(show LQ' from x.1).take k=(show LQ' from x.2.1).take k} (fun k=>[(5,.val tI (k.1:Int))]) (fun k=>[]) (fun k=>(show LQ' from x.1).length-k.1) ⟨0,by omega,rfl⟩ (fun _=>[])]) (fun x hp=>?_)
 obtain⟨x,y,u⟩:=x
 change List Rat at x
 change List Rat at y
 refine bP (ifB (aB x.length != aB y.length) (True/\false=decide (x=y)/\True) ((asT Int 0=0/\True)/\∀ (i:{ k:Nat // k<=List.length x/\List.take k x=List.take k y }),asT Bool true=true/\ifB (decide (aB (aA i)<aB x.length)) ((0<=aB (aA i)/\aB (aA i)<aB x.length/\0<=aB (aA i)/\aB (aA i)<aB y.length/\s19 (List.getD x (aB (aA i)).toNat 0) (List.getD y (aB (aA i)).toNat 0)/\True)/\ifB (!decide (List.getD x (aB (aA i)).toNat 0=List.getD y (aB (aA i)).toNat 0)) (True/\false=decide (x=y)/\True) (∃ (i':{ k:Nat // k<=List.length x/\List.take k x=List.take k y }),List.length x-aA i'<List.length x-aA i/\IntKind.wrap IntKind.i64 (aB (aA i)+1)=aB (aA i')/\True)) (True/\true=decide (x=y)/\True))) (by kernel_rfl) ?_
 have hZ:(⟨false,0,[],[]⟩:aF)=bU:=rfl
 dsimp only[aB,asT,aA,aC,Ty.den,Lf.den] at *
 simp only[hZ,Int.toNat_natCast,aT,ay,au,oh,ny,aH,nameAt,aV,aS,bF,rowAt,iw,gy]
 have hp:szL x/\szL y:=hp
 obtain⟨⟨q1,q2⟩,q3,q4⟩:=hp
 refine⟨fun h=>?_,fun h i=>⟨fun h1=>?_,fun h1=>?_⟩⟩
 ·have h:(x.length:Int)≠y.length:=by simpa using h
  exact(oq (fun e=>h (by rw[e]))).symm
 ·have hl:x.length=y.length:=by
   have:(x.length:Int)=y.length:=by simpa using h
   omega
  have hi:i.1<x.length:=by omega
  have z1:rsz (x.getD i.1 0)<=100000000:=dY q2 hi
  have z2:rsz (y.getD i.1 0)<=100000000:=dY q4 (by omega)
  refine⟨⟨by omega,by omega,by omega,by omega,⟨by omega,by omega⟩⟩,fun h2=>?_,fun h2=>⟨⟨i.1+1,by omega,?_⟩,by simp only;omega,by rw[aZ (by omega) (by omega)];rfl⟩⟩
  ·have h2:x.getD i.1 0≠y.getD i.1 0:=by simpa using h2
   exact(oq (fun e=>h2 (xw (fun l=>l.getD i.1 0) e))).symm
  ·have h2:x.getD i.1 0=y.getD i.1 0:=by simpa using h2
   exact VY hi (by omega) i.2.2 h2
 ·have hl:x.length=y.length:=by
   have:(x.length:Int)=y.length:=by simpa using h
   omega
  have h3:=i.2.2
  rw[jd (by omega),jd (by omega)] at h3
  exact(pz h3).symm
def JI (a:MQ):Prop:=a.length<=1000/\∀ r ∈ a,szL r
def c3M:Ctr:=⟨[tM,tM],[tB],fun x=>JI x.1/\JI x.2.1,fun x=>(decide ((show MQ from x.1)=(show MQ from x.2.1)),())⟩
theorem a3z:aW Tryz.prog 15 c3M:=by
 refine bH (nil0.ad a3y) ⟨[],[],[]⟩ Tryz.func15 rfl (by decide) (fun x=>[.inv {k:Nat // k<=(show MQ from x.1).length/\(show MQ from x.1).take k=(show MQ from x.2.1).take k} (fun k=>[(5,.val tI (k.1:Int))]) (fun k=>[]) (fun k=>(show MQ from x.1).length-k.1) ⟨0,by omega,rfl⟩ (fun _=>[])]) (fun x hp=>?_)
 obtain⟨x,y,u⟩:=x
 change List (List Rat) at x
 change List (List Rat) at y
 refine bP (ifB (aB x.length != aB y.length) (True/\false=decide (x=y)/\True) ((asT Int 0=0/\True)/\∀ (i:{ k:Nat // k<=List.length x/\List.take k x=List.take k y }),asT Bool true=true/\ifB (decide (aB (aA i)<aB x.length)) ((0<=aB (aA i)/\aB (aA i)<aB x.length/\0<=aB (aA i)/\aB (aA i)<aB y.length/\(szL (List.getD x (aB (aA i)).toNat (aC Rat))/\szL (List.getD y (aB (aA i)).toNat (aC Rat)))/\True)/\ifB (!decide (List.getD x (aB (aA i)).toNat (aC Rat)=List.getD y (aB (aA i)).toNat (aC Rat))) (True/\false=decide (x=y)/\True) (∃ (i':{ k:Nat // k<=List.length x/\List.take k x=List.take k y }),List.length x-aA i'<List.length x-aA i/\IntKind.wrap IntKind.i64 (aB (aA i)+1)=aB (aA i')/\True)) (True/\true=decide (x=y)/\True))) (by kernel_rfl) ?_
 have hZ:(⟨false,0,[],[]⟩:aF)=bU:=rfl
 dsimp only[aB,asT,aA,aC,Ty.den,Lf.den] at *
 simp only[hZ,Int.toNat_natCast,aT,ay,au,oh,ny,aH,nameAt,aV,aS,bF,rowAt,iw,gy]
 have hp:JI x/\JI y:=hp
 obtain⟨⟨q1,q2⟩,q3,q4⟩:=hp
 refine⟨fun h=>?_,fun h i=>⟨fun h1=>?_,fun h1=>?_⟩⟩
 ·have h:(x.length:Int)≠y.length:=by simpa using h
  exact(oq (fun e=>h (by rw[e]))).symm
 ·have hl:x.length=y.length:=by
   have:(x.length:Int)=y.length:=by simpa using h
   omega
  have hi:i.1<x.length:=by omega
  skip
  refine⟨⟨by omega,by omega,by omega,by omega,dY q2 hi,dY q4 (by omega)⟩,fun h2=>?_,fun h2=>⟨⟨i.1+1,by omega,?_⟩,by simp only;omega,by rw[aZ (by omega) (by omega)];rfl⟩⟩
  ·have h2:x.getD i.1 []≠y.getD i.1 []:=by simpa using h2
   exact(oq (fun e=>h2 (xw (fun l=>l.getD i.1 []) e))).symm
  ·have h2:x.getD i.1 []=y.getD i.1 []:=by simpa using h2
   exact VY hi (by omega) i.2.2 h2
 ·have hl:x.length=y.length:=by
   have:(x.length:Int)=y.length:=by simpa using h
   omega
  have h3:=i.2.2
  rw[jd (by omega),jd (by omega)] at h3
  exact(pz h3).symm
theorem JH:aW Tryz.prog 55 (cIQ iW (fun i=>(i:Rat))):=by
 refine bH (nil0.ad a5D) ⟨[2],[],[]⟩ Tryz.func55 rfl (by decide) (fun x=>[]) (fun x hp=>?_)
 obtain⟨n,u⟩:=x
 change Int at n
 refine bP ((iW n/\True)/\True/\fA n=fA n/\True) (by kernel_rfl) ?_
 have hZ:(⟨false,0,[],[]⟩:aF)=bU:=rfl
 dsimp only[aB,asT,aA,aC,Ty.den,Lf.den] at *
 simp only[hZ,Int.toNat_natCast,aT,ay,au,oh,ny,aH,nameAt,aV,aS,bF,rowAt,iw,gy]
 exact hp
abbrev LKq:LK:=.mat 32 64 tQ
def a8R (n:Nat):List Rat:=List.replicate n 0
def GI (R C:Nat):MQ:=tab R C fun _ _=>0
def c4t:BJ:=.mk LKq [tI,tI] (fun x=>0<=(show Int from x.1)/\(show Int from x.1)<=1000/\0<=(show Int from x.2.1)/\(show Int from x.2.1)<=1000) (fun x=>GI (show Int from x.1).toNat (show Int from x.2.1).toNat)
theorem b1V:NOk Tryz.prog 41 c4t:=by
 refine rP (nil0.ad JH) ⟨[],[],[(9,tQ),(27,tQ)]⟩ Tryz.func41 rfl (by decide) (fun x=>[.inv {k:Nat // k<=(show Int from x.1).toNat} (fun k=>[(6,.val tI (k.1:Int)),(5,.own 9 0),(9,.any),(28,.any)]) (fun k=>[(9,.mat 32 64 tQ none (GI k.1 (show Int from x.2.1).toNat) 0)]) (fun k=>(show Int from x.1).toNat-k.1) ⟨0,by omega⟩ (fun k=>[.inv {q:Nat // q<=(show Int from x.2.1).toNat} (fun q=>[(8,.val tI (q.1:Int)),(7,.own 15 0),(15,.any),(24,.any)]) (fun q=>[(9,.mat 32 64 tQ none (GI k.1 (show Int from x.2.1).toNat) 0),(15,.row 64 tQ (a8R q.1) 0)]) (fun q=>(show Int from x.2.1).toNat-q.1) ⟨0,by omega⟩ (fun _=>[])])]) (fun x hp=>?_)
 obtain⟨m,n,u⟩:=x
 change Int at m
 change Int at n
 refine bP ((asT Int 0=0/\asT (List (List Rat)) (aC (List Rat))=aC (List Rat)/\True)/\∀ (i:{ k:Nat // k<=Int.toNat m }),asT Bool true=true/\ifB (decide (aB (aA i)<m)) ((asT Int 0=0/\GI (aA i) n.toNat=GI (aA i) n.toNat/\asT (List Rat) (aC Rat)=aC Rat/\True)/\∀ (i_1:{ q:Nat // q<=Int.toNat n }),asT Bool true=true/\ifB (decide (aB (aA i_1)<n)) ((iW 0/\List.length (a8R (aA i_1))+List.length (fA 0::aC Rat)<=1000000000/\True)/\∃ (i':{ q:Nat // q<=Int.toNat n }),Int.toNat n-aA i'<Int.toNat n-aA i_1/\IntKind.wrap IntKind.i64 (aB (aA i_1)+1)=aB (aA i')/\GI (aA i) n.toNat=GI (aA i) n.toNat/\a8R (aA i_1)++fA 0::aC Rat=a8R (aA i')/\True) ((aH none (GI (aA i) n.toNat)+1<=1000000000/\True)/\∃ (i':{ k:Nat // k<=Int.toNat m }),Int.toNat m-aA i'<Int.toNat m-aA i/\IntKind.wrap IntKind.i64 (aB (aA i)+1)=aB (aA i')/\GI (aA i) n.toNat++a8R (aA i_1)::aC (List Rat)=GI (aA i') n.toNat/\True)) (GI m.toNat n.toNat=GI (aA i) n.toNat)) (by kernel_rfl) ?_
 have hZ:(⟨false,0,[],[]⟩:aF)=bU:=rfl
 dsimp only[aB,asT,aA,aC,Ty.den,Lf.den] at *
 simp only[hZ,Int.toNat_natCast,aT,ay,au,oh,ny,aH,nameAt,aV,aS,bF,rowAt,iw,gy]
 have hp:0<=m/\m<=1000/\0<=n/\n<=1000:=hp
 obtain⟨m0,m1,n0,n1⟩:=hp
 refine fun i=>⟨fun h1 q=>⟨fun h2=>⟨⟨by unfold iW;omega,by simp[a8R];have:=q.2;omega⟩,⟨q.1+1,by omega⟩,by simp only;omega,by rw[aZ (by omega) (by omega)];rfl,?_⟩,fun h2=>⟨by show (GI _ _).length+1<=_;unfold GI;rw[bF];have:=i.2;omega,⟨i.1+1,by omega⟩,by simp only;omega,by rw[aZ (by omega) (by omega)];rfl,?_⟩⟩,fun h1=>?_⟩
 ·show List.replicate q.1 0++[((0:Int):Rat)]=List.replicate (q.1+1) 0
  rw[List.replicate_succ'];rfl
 ·have hq:q.1=n.toNat:=by have:=q.2;omega
  rw[hq]
  show tab i.1 n.toNat (fun _ _=>0)++[List.replicate n.toNat 0]=tab (i.1+1) n.toNat (fun _ _=>0)
  unfold tab
  rw[Bv]
  simp
  apply Bh<;>simp
 ·have hi:i.1=m.toNat:=by have:=i.2;omega
  rw[hi]
def c2B:BJ:=.mk LKq [tM] (fun x=>(show MQ from x.1).length<=1000/\∀ r ∈ (show MQ from x.1),r.length<=1000) (fun x=>x.1)
theorem b4y:NOk Tryz.prog 64 c2B:=by
 refine rP nil0 ⟨[],[],[(5,tQ),(19,tQ)]⟩ Tryz.func64 rfl (by decide) (fun x=>[.inv {k:Nat // k<=(show MQ from x.1).length} (fun k=>[(4,.val tI (k.1:Int)),(3,.own 5 0),(5,.any),(20,.any)]) (fun k=>[(5,.mat 32 64 tQ none ((show MQ from x.1).take k.1) 0)]) (fun k=>(show MQ from x.1).length-k.1) ⟨0,by omega⟩ (fun _=>[])]) (fun x hp=>?_)
 obtain⟨a,u⟩:=x
 change List (List Rat) at a
 refine bP ((asT Int 0=0/\asT (List (List Rat)) (aC (List Rat))=aC (List Rat)/\True)/\∀ (i:{ k:Nat // k<=List.length a }),asT Bool true=true/\ifB (decide (aB (aA i)<aB a.length)) ((0<=aB (aA i)/\aB (aA i)<aB a.length/\List.length (aC Rat)+List.length (List.getD a (aB (aA i)).toNat (aC Rat))<=1000000000/\aH none (List.take (aA i) a)+1<=1000000000/\True)/\∃ (i':{ k:Nat // k<=List.length a }),List.length a-aA i'<List.length a-aA i/\IntKind.wrap IntKind.i64 (aB (aA i)+1)=aB (aA i')/\List.take (aA i) a++(aC Rat++List.getD a (aB (aA i)).toNat (aC Rat))::aC (List Rat)=List.take (aA i') a/\True) (a=List.take (aA i) a)) (by kernel_rfl) ?_
 have hZ:(⟨false,0,[],[]⟩:aF)=bU:=rfl
 dsimp only[aB,asT,aA,aC,Ty.den,Lf.den] at *
 simp only[hZ,Int.toNat_natCast,aT,ay,au,oh,ny,aH,nameAt,aV,aS,bF,rowAt,iw,gy]
 have hp:a.length<=1000/\∀ r ∈ a,r.length<=1000:=hp
 obtain⟨h1,h2⟩:=hp
 refine fun i=>⟨fun h3=>?_,fun h3=>?_⟩
 ·have hi:i.1<a.length:=by omega
  have hr:(a.getD i.1 []).length<=1000:=dY h2 hi
  refine⟨⟨by omega,by omega,by show 0+(a.getD i.1 []).length<=_;omega,by rw[jq];omega⟩,⟨i.1+1,by omega⟩,by simp only;omega,by rw[aZ (by omega) (by omega)];rfl,?_⟩
  rw[Di,bf,bn hi];simp
 ·rw[jd (by omega)]
end Go.Proofs.YtgplhbhfdgempaaGreat
