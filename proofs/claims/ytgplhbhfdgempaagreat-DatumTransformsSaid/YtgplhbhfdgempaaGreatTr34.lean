/-
  Lemmas for the theorem vtransforms_holds, part 34 of 39.
-/
import Derived.Test.YtgplhbhfdgempaaGreatTr33
namespace Go.Proofs.YtgplhbhfdgempaaGreat
open Go Go.RowKit
set_option maxRecDepth 100000
set_option maxHeartbeats 1000000
set_option linter.unusedVariables false
set_option linter.unusedSimpArgs false
theorem wdF {α:Type} (a:List (List α)):(List.getD a 0 []).length=wdM a:=rfl
theorem kN (a:MR) (r c:Nat):(vG a (r:Int) (c:Int)=true)↔a.length=r/\wdM a=c:=by
 unfold vG;rw[ak,ji,ji];omega
theorem lI (a:MR) (r c:Nat):(vG a (r:Int) (c:Int)=false)↔¬ (a.length=r/\wdM a=c):=by
 rw[<-kN,Bool.not_eq_true]
def smL (K:Nat) (l:LR):Prop:=rJ l/\(okR l=true->∀ q ∈ l,rsz q.x<=K)
theorem a0G {g b:MQ} (h:(AX g b).2.1=false):jF (bgM g b)=false:=by
 cases e:jF (bgM g b)
 ·rfl
 ·unfold AX at h;rw[e,gy rfl] at h;cases h
theorem a0H {g b:MQ} (h:(AX g b).2.1=true):jF (bgM g b)=true/\AX g b=(sM g b,true,()):=by
 cases e:jF (bgM g b)
 ·unfold AX at h;rw[e,ig (by decide)] at h;cases h
 ·exact⟨rfl,by unfold AX;rw[e];rfl⟩
theorem b9H {a:MQ} {b:LQ'} (h:¬ (FV a b).2.1=0):a3f a b=false:=by
 cases e:a3f a b
 ·rfl
 ·exfalso;apply h;unfold FV;rw[e];rfl
theorem b9I {a:MQ} {b:LQ'} (h:(FV a b).2.1=0):a3f a b=true/\FV a b=(a1c a b,0,()):=by
 cases e:a3f a b
 ·unfold FV at h;rw[e,ig (by decide)] at h;exact absurd h (by decide)
 ·exact⟨rfl,by unfold FV;rw[e];rfl⟩
theorem zB {g b:MR} (G:smK 100 g) (B:smK 100 b) (hg:dK g=0) (hb:dK b=0) (h1:b.length=g.length) (h2:wdM b=wdM g):vN (mq g) (mq b):=by
 obtain⟨g1,g7,w7,gC⟩:=G.at hg
 obtain⟨b1,b7,v7,bC⟩:=B.at hb
 unfold vN
 rw[mO,a2A]
 rw[h1,h2] at b1
 exact⟨g1,b1,g7,w7,gC,bC⟩
theorem a5D {n g:MR} {K:Nat} (A:smK 100 n) (G:smK K g) (hK:K<=13000) (hn:dK n=0) (hg:dK g=0) (h1:n.length=wdM n) (h2:g.length=n.length):a7p (mq n) (mq g):=by
 obtain⟨n1,n7,w7,nC⟩:=A.at hn
 obtain⟨g1,g7,v7,gC⟩:=G.at hg
 exact⟨MZ n1 w7 nC (by omega),MZ g1 v7 gC (by omega),by rw[a2A,mO,h1],by rw[mO,mO,h2],nC.sz (by omega),gC.sz (by omega)⟩
theorem three {a b c:MR} (ha:iH a) (hb:iH b) (hc:iH c):∀ x ∈ [a,b,c],iH x:=fun x h=>by
 rcases um.mp h with rfl|h
 ·exact ha
 ·rcases um.mp h with rfl|h
  ·exact hb
  ·rw[oz.mp h];exact hc
theorem two {a b:MR} (ha:iH a) (hb:iH b):∀ x ∈ [a,b],iH x:=fun x h=>by
 rcases um.mp h with rfl|h
 ·exact ha
 ·rw[oz.mp h];exact hb
theorem a6i {l:LR}:okR l=true↔∀ q ∈ l,q.ok=true:=by
 unfold okR
 rw[ny,Ag]
 exact⟨fun h q hq=>by have:=h q hq;simpa using this,fun h q hq=>by rw[h q hq];decide⟩
theorem a3I {l:LR} (h:okR l=true):dS (fun q:aF=>bY [q.ok=true]) l:=kP.mpr fun q hq=>⟨a6i.mp h q hq,trivial⟩
theorem smL.q {K:Nat} {l:LR} (H:smL K l) (h:okR l=true):∀ q ∈ lq l,rsz q<=K:=fun q hq=>by
 obtain⟨y,hy,rfl⟩:=ru.mp hq
 exact H.2 h y hy
theorem b5h {n:MQ} {r:LQ'} {N:Nat} (hn:isM n N N) (H:CdM n 100) (h7:N<=7) (hr:r.length=N) (hs:∀ q ∈ r,rsz q<=1):Cd (gG (wdM n) (ent n) (fun i _=>lv r i)) N (N+1) 116:=by
 have H2:Cd (ent n) N N 100:=by have:=H;unfold CdM at this;rwa [hn.len,hn.wd] at this
 have G:Cd (fun i _=>lv r i) N 1 (N*(1+1)+2):=Cd.of fun i hi j _=>hs _ (by unfold lv;rw[bf,dw (by omega)];exact oh _)
 rw[hn.wd]
 exact(Cd.bes H2 G).mono (by omega)
theorem b4l {n:MQ} {r:LQ'} {N:Nat} (hn:isM n N N) (H:CdM n 100) (h7:N<=7) (hr:r.length=N) (hs:∀ q ∈ r,rsz q<=1):∀ q ∈ a1c n r,rsz q<=20000:=fun q hq=>by
 have C:=b5h hn H h7 hr hs
 obtain⟨c,_,rfl⟩:=ru.mp hq
 have E:=a3g n r
 have h3:2 ^ N*(116+1)<=128*117:=uf (a4t h7) (aj _)
 unfold xs
 split
 ·next h =>
  have h4:=List.idxOf_lt_length_of_mem h
  have h5:=E.le
  have h6:=hn.len
  have:=(C.red N (by omega)).rsz (i:=(gY n r).2.idxOf c) (j:=N) (by omega) (by omega)
  unfold gY at this ⊢
  rw[hn.len,hn.wd] at *
  omega
 ·exact jg (show rsz 0<=1 by decide +kernel) (by omega)
def a7E (n g:MQ):MQ:=OY n (mulM g (trM g))
theorem a2C {n g:MQ} {N c:Nat} (hn:isM n N N):isM (a7E n g) N N:=hn.add
theorem b3F {n g:MQ} {N c:Nat} (hn:isM n N N) (hg:isM g N c) (h7:c<=7) (H:CdM n 100) (G:CdM g 100):CdM (a7E n g) 310:=by
 have h1:=hg.trp
 have h2:=G.trp hg
 have h3:=hg.mul h1
 have h4:=G.mul h2 hg h1
 exact(H.add h4 hn h3).mono (by omega)
theorem b0y {n g:MQ} {N c:Nat} (hn:isM n N N) (hg:isM g N c) (hG:BZ n g=true):jF (a7E n g)=true:=by
 have HG:=(a9v hn hg).mp hG
 rw[a2O (a2C (c:=c) hn)]
 intro x h
 refine HG.regular fun i hi=>?_
 rw[<-h i hi]
 refine TV fun j hj=>?_
 unfold a7E
 rw[hn.c2Q hi hj,hg.WE hg.trp hi hj]
 show ent n i j+mm c (ent g) (tr (ent g)) i j=_
 congr 1
 exact qA (fun _ _=>rfl) fun k hk=>(hg.b9N hk hj).symm
theorem b6c {a:MQ} (h:jF a=true):sS a=(lZ a,0,()):=by unfold sS;rw[h];rfl
def b9G (n g b:MR) (r:LR):Prop:=smK 100 n/\smK 100 g/\smK 100 b/\smL 1 r
def sV (n g b:MR) (r:LR):LQ' × Int × Unit :=
 if (dK n=0/\dK g=0/\dK b=0)/\okR r=true then
  if ((n.length=wdM n/\g.length=n.length)/\b.length=n.length/\wdM b=wdM g)/\r.length=n.length then
   if BZ (mq n) (mq g)=true then
    if jF (bgM (mq g) (mq b))=true then
     if a3f (mq n) (lq r)=true then (mvL (sM (mq g) (mq b)) (a1c (mq n) (lq r)),0,()) else ([],6,())
    else ([],14,())
   else ([],12,())
  else ([],4,())
 else ([],1,())
def b4I:Ctr:=⟨[tMR,.pair tMR .unit,tMR,.list tR],[.list tQ,tI],fun x=>b9G x.1 x.2.1.1 x.2.2.1 x.2.2.2.1,fun x=>sV x.1 x.2.1.1 x.2.2.1 x.2.2.2.1⟩
theorem a1I:aW Tryz.prog 20 b4I:=by
 refine bH (((((((nil0.ad a1r).ad b1I).ad wX).ad a1D).ad EL).ad RP).ad JM) ⟨[],[],[]⟩ Tryz.func20 rfl (by decide) (fun x=>[]) (fun x hp=>?_)
 obtain⟨n,g,b,r,u⟩:=x
 change List (List aF) at n
 change List (List aF) × Unit at g
 change List (List aF) at b
 change List aF at r
 refine bM (let aQ:=(asT (List (List aF)) g.1);let dA:=(fun(x:Ty.den (Ty.list (Ty.lf Lf.dF)))=>bY (dS (fun(x:Ty.den (Ty.lf Lf.dF))=>bY ((aF.ok x=true)::aC Prop)) x::aC Prop));let dJ:=(n::asT (List (List aF)) g.1::b::aC (List (List aF)));let dU:=(fun(x:Ty.den (Ty.lf Lf.dF))=>aF.x x);let A₁:=(fun(xs:Ty.den (Ty.list (Ty.lf Lf.dF)))=>List.map dU xs);let fP:=(List.getD n 0 (aC aF)).length;let gQ:=(AX (List.map A₁ aQ) (List.map A₁ b));let fQ:=(sV n aQ b r).2;let jX:=(FV (List.map A₁ n) (List.map dU r));let oK:=(bif aB n.length != aB fP then true else aB aQ.length != aB n.length);let A₀:=(oK==false);let jU:=(A₀=true->A₀=true/\True);let kU:=((!jC dJ==0)==false);let nS:=(aB (List.getD aQ 0 (aC aF)).length);let A₂:=(bif bif aB n.length != aB fP then true else aB aQ.length != aB n.length then true else !vG b (aB n.length) nS);let qI:=((A₂==false)=true->(A₂==false)=true/\True);let fU:=(aB n.length != aB fP);let bJ:=(fU==false);let pI:=(bJ=true->bJ=true/\True);((List.length dJ<=1000000/\∀ (a:List (List aF)),a ∈ n::asT (List (List aF)) g.1::b::aC (List (List aF))->iH a)/\(kU=true->kU=true/\rJ r/\True)/\(kU=true->kU=true/\True)/\((!jC dJ==0)=false->kU=true)/\True)/\ifB (bif !jC dJ==0 then true else !okR r) (True/\aC Rat=Prod.fst (sV n aQ b r)/\True/\1=Prod.fst fQ/\True) ((asT Int 0<=0/\0<aB n.length/\pI/\pI/\pI/\(bJ=true->bJ=true/\bJ=true/\True)/\(fU=false->bJ=true)/\jU/\jU/\(A₀=true->A₀=true/\asT Int 0<=0/\0<aB aQ.length/\True)/\jU/\jU/\(A₀=true->A₀=true/\A₀=true/\A₀=true/\0<List.length b/\True)/\jU/\(oK=false->A₀=true)/\qI/\qI/\((A₂==false)=true->(A₂==false)=true/\(A₂==false)=true/\True)/\(A₂=false->(A₂==false)=true)/\True)/\ifB (bif bif bif aB n.length != aB fP then true else aB aQ.length != aB n.length then true else !vG b (aB n.length) nS then true else aB r.length != aB n.length) (True/\aC Rat=Prod.fst (sV n aQ b r)/\True/\4=Prod.fst fQ/\True) ((dS dA n/\dS dA aQ/\a7p (List.map A₁ n) (List.map A₁ aQ)/\True)/\ifB (!BZ (List.map A₁ n) (List.map A₁ aQ)) (True/\aC Rat=Prod.fst (sV n aQ b r)/\True/\12=Prod.fst fQ/\True) ((dS dA aQ/\dS dA b/\vN (List.map A₁ aQ) (List.map A₁ b)/\True)/\ifB (!Prod.fst gQ.2) (True/\aC Rat=Prod.fst (sV n aQ b r)/\True/\14=Prod.fst fQ/\True) ((dS dA n/\dS (fun(x:Ty.den (Ty.lf Lf.dF))=>bY ((aF.ok x=true)::aC Prop)) r/\(okM (List.map A₁ n)/\wdM (List.map A₁ n)<=63/\List.length (List.map dU r)=List.length (List.map A₁ n)/\(∀ (q:Rat),q ∈ List.map dU r->rsz q<=10000000)/\zA (List.map A₁ n).length (wdM (List.map A₁ n)+1) (gG (wdM (List.map A₁ n)) (ent (List.map A₁ n)) fun(i x:Nat)=>lv (List.map dU r) i) (wdM (List.map A₁ n)))/\True)/\ifB (Prod.fst jX.2 != 0) (True/\aC Rat=Prod.fst (sV n aQ b r)/\True/\6=Prod.fst fQ/\True) (((okM gQ.1/\szM gQ.1 1000000/\List.length jX.1=wdM gQ.1/\∀ (q:Rat),q ∈ Prod.fst jX->rsz q<=1000000)/\True)/\True/\mvL gQ.1 jX.1=Prod.fst (sV n aQ b r)/\True/\0=Prod.fst fQ/\True)))))) (by kernel_rfl) ?_
 try simp only[aU,ay,au]
 try dsimp only[Ty.den,Lf.den,asT] at *
 try simp only[yX,yU,trF,yY]
 have hZ:(⟨false,0,[],[]⟩:aF)=cO:=rfl
 try dsimp only[aB,asT,aA,aC,Ty.den,Lf.den] at *
 try simp only[hZ,Int.toNat_natCast,aU,ay,au,ni,mg,aH,nameAt,aV,aS,bF,rowAt,iy,iq]
 try simp only[lD,List.all_cons,List.all_nil,xw,ny,uj,ji,vk,ne_eq,ak,qo,jv,ug,vg,Cm,zh,Dc,ni,mg,jJ,tu,qm,List.length_cons,List.length_nil]
 try simp only[wdF,kN,lI]
 have hp:b9G n g.1 b r:=hp
 obtain⟨g,u2⟩:=g
 obtain⟨pn,pg,pb,pr⟩:=hp
 dsimp only at pg ⊢
 refine⟨⟨⟨by omega,three pn.1 pg.1 pb.1⟩,fun h=>⟨h,pr.1⟩⟩,fun h=>?_,fun h=>?_⟩
 ·unfold sV;rw[ig (fun hh=>h.elim (fun h1=>h1 hh.1.1 hh.1.2.1 hh.1.2.2) (fun h1=>by rw[h1] at hh;exact absurd hh.2 (by decide)))];exact⟨rfl,rfl⟩
 ·have h0:=h
  obtain⟨⟨cn,cg,cb⟩,cr⟩:=h
  obtain⟨hn,n7,wn7,nC⟩:=pn.at cn
  obtain⟨hg,g7,wg7,gC⟩:=pg.at cg
  obtain⟨hb,b7,wb7,bC⟩:=pb.at cb
  have n0:=hn.2.2.1
  have g0:=hg.2.2.1
  have b0:=hb.2.2.1
  refine⟨⟨by omega,by omega,fun h=>⟨h,by omega,by omega⟩,fun h=>⟨h,h,h,by omega⟩⟩,fun h=>?_,fun h=>?_⟩
  ·unfold sV;rw[gy h0,ig (by omega)];exact⟨rfl,rfl⟩
  ·have h1:=h
   obtain⟨⟨⟨e1,e2⟩,e3,e4⟩,e5⟩:=h
   have hN:isM (mq n) n.length n.length:=by rw[<-e1] at hn;exact hn
   have hP:vN (mq g) (mq b):=zB pg pb cg cb (by omega) e4
   have F:=WG hP
   have on:=lN (gZ cn).2
   have og:=lN (gZ cg).2
   have ob:=lN (gZ cb).2
   refine⟨⟨on,og,a5D pn pg (by omega) cn cg e1 e2⟩,fun h3=>?_,fun h3=>⟨⟨og,ob,hP⟩,fun h4=>?_,fun h4=>?_⟩⟩
   ·unfold sV;rw[gy h0,gy h1,ig (by rw[h3];decide)];exact⟨rfl,rfl⟩
   ·unfold sV;rw[gy h0,gy h1,gy h3,ig (by rw[a0G h4];decide)];exact⟨rfl,rfl⟩
   ·obtain⟨hR,hT⟩:=a0H h4
    rw[hT];dsimp only
    have hr:(lq r).length=n.length:=by rw[IU,e5]
    have hs:=pr.q cr
    have C:=b5h hN nC n7 hr hs
    refine⟨⟨on,a3I cr,nC.ok hN (by omega),by rw[hN.wd];omega,by rw[hr,hN.len],fun q hq=>jg (hs q hq) (by omega),?_⟩,fun h5=>?_,fun h5=>?_⟩
    ·have h3:2 ^ wdM (mq n)*(116+1)<=128*117:=uf (a4t (by rw[hN.wd];omega)) (aj _)
     have h4:=hN.wd
     rw[hN.len]
     have C2:Cd (gG (wdM (mq n)) (ent (mq n)) (fun i _=>lv (lq r) i)) n.length (wdM (mq n)+1) 116:=by rw[h4];rw[h4] at C;exact C
     exact KO C2 (by omega) (by omega)
    ·unfold sV;rw[gy h0,gy h1,gy h3,gy hR,ig (by rw[b9H h5];decide)];exact⟨rfl,rfl⟩
    ·obtain⟨hS,hT2⟩:=b9I h5
     rw[hT2];dsimp only
     refine⟨⟨F.s2.ok F.s1 (by omega),F.s2.sz (by omega),?_,fun q hq=>jg (b4l hN nC n7 hr hs q hq) (by omega)⟩,?_⟩
     ·rw[b1H hN,F.s1.wd,mO,e2]
     ·unfold sV;rw[gy h0,gy h1,gy h3,gy hR,gy hS];exact⟨rfl,rfl⟩
def JJ (n g b:MR):MQ × Int × Unit :=
 if dK n=0/\dK g=0/\dK b=0 then
  if (n.length=wdM n/\g.length=n.length)/\b.length=n.length/\wdM b=wdM g then
   if BZ (mq n) (mq g)=true then
    if jF (bgM (mq g) (mq b))=true then
     (mulM (mulM (sM (mq g) (mq b)) (lZ (OY (mq n) (mulM (mq g) (trM (mq g)))))) (trM (sM (mq g) (mq b))),0,())
    else ([],14,())
   else ([],12,())
  else ([],4,())
 else ([],1,())
def b4H:Ctr:=⟨[tMR,.pair tMR .unit,tMR],[tM,tI],fun x=>smK 100 x.1/\smK 100 x.2.1.1/\smK 100 x.2.2.1,fun x=>JJ x.1 x.2.1.1 x.2.2.1⟩
theorem a1F:aW Tryz.prog 24 b4H:=by
 refine bH (((((((((nil0.ad zO).ad QA).ad a8x).ad a5K).ad wX).ad EL).ad RP).ad JM).ad a1C) ⟨[],[],[]⟩ Tryz.func24 rfl (by decide) (fun x=>[]) (fun x hp=>?_)
 obtain⟨n,g,b,u⟩:=x
 change List (List aF) at n
 change List (List aF) × Unit at g
 change List (List aF) at b
 refine bM (let aQ:=(fun(xs:Ty.den (Ty.list (Ty.lf Lf.dF)))=>List.map (fun(x:Ty.den (Ty.lf Lf.dF))=>aF.x x) xs);let bJ:=(fun(x:Ty.den (Ty.list (Ty.lf Lf.dF)))=>bY (dS (fun(x:Ty.den (Ty.lf Lf.dF))=>bY ((aF.ok x=true)::aC Prop)) x::aC Prop));let dJ:=(asT (List (List aF)) g.1);let A₀:=(List.map aQ dJ);let fP:=(tab (wdM A₀) A₀.length (tr (ent A₀)));let dU:=(tab A₀.length (wdM fP) (mm fP.length (ent A₀) (ent fP)));let A₁:=(OY (List.map aQ n) dU);let gQ:=(List.getD n 0 (aC aF)).length;let jU:=(bif aB n.length != aB gQ then true else aB dJ.length != aB n.length);let A₂:=(jU==false);let fQ:=(A₂=true->A₂=true/\True);let jX:=(JJ n dJ b).2;let oK:=(n::asT (List (List aF)) g.1::b::aC (List (List aF)));let kU:=(AX A₀ (List.map aQ b));let qI:=(aB n.length != aB gQ);let dA:=(qI==false);let pI:=(dA=true->dA=true/\True);((List.length oK<=1000000/\∀ (a:List (List aF)),a ∈ n::asT (List (List aF)) g.1::b::aC (List (List aF))->iH a)/\True)/\ifB (!jC oK==0) (True/\aC (List Rat)=Prod.fst (JJ n dJ b)/\True/\1=Prod.fst jX/\True) ((asT Int 0<=0/\0<aB n.length/\pI/\pI/\pI/\(dA=true->dA=true/\dA=true/\True)/\(qI=false->dA=true)/\fQ/\fQ/\(A₂=true->A₂=true/\asT Int 0<=0/\0<aB dJ.length/\True)/\fQ/\fQ/\(A₂=true->A₂=true/\A₂=true/\A₂=true/\0<List.length b/\True)/\fQ/\(jU=false->A₂=true)/\True)/\ifB (bif bif aB n.length != aB gQ then true else aB dJ.length != aB n.length then true else !vG b (aB n.length) (aB (List.getD dJ 0 (aC aF)).length)) (True/\aC (List Rat)=Prod.fst (JJ n dJ b)/\True/\4=Prod.fst jX/\True) ((dS bJ n/\dS bJ dJ/\a7p (List.map aQ n) A₀/\True)/\ifB (!BZ (List.map aQ n) A₀) (True/\aC (List Rat)=Prod.fst (JJ n dJ b)/\True/\12=Prod.fst jX/\True) ((dS bJ dJ/\dS bJ b/\vN A₀ (List.map aQ b)/\True)/\ifB (!Prod.fst kU.2) (True/\aC (List Rat)=Prod.fst (JJ n dJ b)/\True/\14=Prod.fst jX/\True) ((dS bJ dJ/\okM A₀/\True)/\(dS bJ dJ/\(okM A₀/\okM fP/\wdM A₀=List.length fP/\szM A₀ 1000000/\szM fP 1000000)/\True)/\(dS bJ n/\(okM (List.map aQ n)/\okM dU/\List.length (List.map aQ n)=List.length dU/\wdM (List.map aQ n)=wdM dU)/\True)/\((okM A₁/\wdM A₁=List.length A₁/\zA A₁.length (List.length A₁+List.length A₁) (gG A₁.length (ent A₁) idm) A₁.length)/\True)/\(a6U kU.1 (sS A₁).1/\True)/\True/\mulM (mulM kU.1 (sS A₁).1) (trM kU.1)=Prod.fst (JJ n dJ b)/\True/\0=Prod.fst jX/\True))))) (by kernel_rfl) ?_
 try simp only[aU,ay,au]
 try dsimp only[Ty.den,Lf.den,asT] at *
 try simp only[yX,yU,trF,yY]
 have hZ:(⟨false,0,[],[]⟩:aF)=cO:=rfl
 try dsimp only[aB,asT,aA,aC,Ty.den,Lf.den] at *
 try simp only[hZ,Int.toNat_natCast,aU,ay,au,ni,mg,aH,nameAt,aV,aS,bF,rowAt,iy,iq]
 try simp only[lD,List.all_cons,List.all_nil,xw,ny,uj,ji,vk,ne_eq,ak,qo,jv,ug,vg,Cm,zh,Dc,ni,mg,jJ,tu,qm,List.length_cons,List.length_nil]
 try simp only[wdF,kN,lI]
 have hp:smK 100 n/\smK 100 g.1/\smK 100 b:=hp
 obtain⟨g,u2⟩:=g
 obtain⟨pn,pg,pb⟩:=hp
 dsimp only at pg ⊢
 refine⟨⟨by omega,three pn.1 pg.1 pb.1⟩,fun h=>?_,fun h=>?_⟩
 ·unfold JJ;rw[ig (fun hh=>h hh.1 hh.2.1 hh.2.2)];exact⟨rfl,rfl⟩
 ·have h0:=h
  obtain⟨cn,cg,cb⟩:=h
  obtain⟨hn,n7,wn7,nC⟩:=pn.at cn
  obtain⟨hg,g7,wg7,gC⟩:=pg.at cg
  obtain⟨hb,b7,wb7,bC⟩:=pb.at cb
  have n0:=hn.2.2.1
  have g0:=hg.2.2.1
  have b0:=hb.2.2.1
  refine⟨⟨by omega,by omega,fun h=>⟨h,by omega,by omega⟩,fun h=>⟨h,h,h,by omega⟩⟩,fun h=>?_,fun h=>?_⟩
  ·unfold JJ;rw[gy h0,ig (by omega)];exact⟨rfl,rfl⟩
  ·have h1:=h
   obtain⟨⟨e1,e2⟩,e3,e4⟩:=h
   have hN:isM (mq n) n.length n.length:=by rw[<-e1] at hn;exact hn
   have hP:vN (mq g) (mq b):=zB pg pb cg cb (by omega) e4
   have F:=WG hP
   have on:=lN (gZ cn).2
   have og:=lN (gZ cg).2
   have ob:=lN (gZ cb).2
   refine⟨⟨on,og,a5D pn pg (by omega) cn cg e1 e2⟩,fun h3=>?_,fun h3=>⟨⟨og,ob,hP⟩,fun h4=>?_,fun h4=>?_⟩⟩
   ·unfold JJ;rw[gy h0,gy h1,ig (by rw[h3];decide)];exact⟨rfl,rfl⟩
   ·unfold JJ;rw[gy h0,gy h1,gy h3,ig (by rw[a0G h4];decide)];exact⟨rfl,rfl⟩
   ·obtain⟨hR,hT⟩:=a0H h4
    have hg:isM (mq g) n.length (wdM g):=by rw[e2] at hg;exact hg
    have t1:=hg.trp
    have t2:=gC.trp hg
    have m1:=hg.mul t1
    have m2:=gC.mul t2 hg t1
    have a1:isM (a7E (mq n) (mq g)) n.length n.length:=a2C (c:=0) hN
    have a2:=b3F hN hg wg7 nC gC
    have i1:=a1.inv
    have i2:=a2.inv a1
    have h7:2 ^ n.length*(310+2)<=128*312:=uf (a4t n7) (aj _)
    rw[hT];dsimp only
    rw[show OY (mq n) (mulM (mq g) (trM (mq g)))=a7E (mq n) (mq g) from rfl,b6c (b0y hN hg h3)];dsimp only
    have s1:isM (sM (mq g) (mq b)) n.length n.length:=by have:=F.s1;rwa [mO,e2] at this
    refine⟨⟨og,gC.ok hg (by omega)⟩,⟨og,gC.ok hg (by omega),t2.ok t1 (by omega),hg.wd.trans t1.len.symm,gC.sz (by omega),t2.sz (by omega)⟩,⟨on,nC.ok hN (by omega),m2.ok m1 (by omega),hN.len.trans m1.len.symm,hN.wd.trans m1.wd.symm⟩,⟨a2.ok a1 (by omega),a1.wd.trans a1.len.symm,?_⟩,?_,?_⟩
    ·rw[a1.len]
     exact KO (a2.CS a1) (by omega) (by omega)
    ·unfold a6U;rw[s1.len]
     exact⟨s1,i1,n7,F.s2.mono (by omega),i2.mono (by omega)⟩
    ·unfold JJ;rw[gy h0,gy h1,gy h3,gy hR];exact⟨rfl,rfl⟩
def tV (g b:MR) (x:LR):LQ' × Int × Unit :=
 if (dK g=0/\dK b=0)/\okR x=true then
  if (b.length=g.length/\wdM b=wdM g)/\x.length=g.length then
   if jF (bgM (mq g) (mq b))=true then (mvL (sM (mq g) (mq b)) (lq x),0,()) else ([],14,())
  else ([],4,())
 else ([],1,())
def c0I:Ctr:=⟨[.pair tMR .unit,tMR,.list tR],[.list tQ,tI],fun x=>smK 100 x.1.1/\smK 100 x.2.1/\smL 500000 x.2.2.1,fun x=>tV x.1.1 x.2.1 x.2.2.1⟩
theorem a9e:aW Tryz.prog 35 c0I:=by
 refine bH (((((nil0.ad a1r).ad wX).ad a1D).ad EL).ad JM) ⟨[],[],[]⟩ Tryz.func35 rfl (by decide) (fun x=>[]) (fun x hp=>?_)
 obtain⟨g,b,x,u⟩:=x
 change List (List aF) × Unit at g
 change List (List aF) at b
 change List aF at x
 refine bM (let A₂:=(asT (List (List aF)) g.1);let aQ:=(asT (List (List aF)) g.1::b::aC (List (List aF)));let bJ:=(fun(x:Ty.den (Ty.list (Ty.lf Lf.dF)))=>bY (dS (fun(x:Ty.den (Ty.lf Lf.dF))=>bY ((aF.ok x=true)::aC Prop)) x::aC Prop));let dJ:=(fun(x:Ty.den (Ty.lf Lf.dF))=>aF.x x);let A₁:=(fun(xs:Ty.den (Ty.list (Ty.lf Lf.dF)))=>List.map dJ xs);let dA:=(AX (List.map A₁ A₂) (List.map A₁ b));let fP:=((!jC aQ==0)==false);let gQ:=(tV A₂ b x).2;let fQ:=(aB (List.getD A₂ 0 (aC aF)).length);let A₀:=(!vG b (aB A₂.length) fQ);let dU:=((A₀==false)=true->(A₀==false)=true/\True);((List.length aQ<=1000000/\∀ (a:List (List aF)),a ∈ asT (List (List aF)) g.1::b::aC (List (List aF))->iH a)/\(fP=true->fP=true/\rJ x/\True)/\(fP=true->fP=true/\True)/\((!jC aQ==0)=false->fP=true)/\True)/\ifB (bif !jC aQ==0 then true else !okR x) (True/\aC Rat=Prod.fst (tV A₂ b x)/\True/\1=Prod.fst gQ/\True) ((asT Int 0<=0/\0<aB A₂.length/\0<List.length b/\dU/\dU/\dU/\((A₀==false)=true->(A₀==false)=true/\(A₀==false)=true/\True)/\(A₀=false->(A₀==false)=true)/\True)/\ifB (bif !vG b (aB A₂.length) fQ then true else aB x.length != aB A₂.length) (True/\aC Rat=Prod.fst (tV A₂ b x)/\True/\4=Prod.fst gQ/\True) ((dS bJ A₂/\dS bJ b/\vN (List.map A₁ A₂) (List.map A₁ b)/\True)/\ifB (!Prod.fst dA.2) (True/\aC Rat=Prod.fst (tV A₂ b x)/\True/\14=Prod.fst gQ/\True) ((dS (fun(x:Ty.den (Ty.lf Lf.dF))=>bY ((aF.ok x=true)::aC Prop)) x/\(okM dA.1/\szM dA.1 1000000/\List.length (List.map dJ x)=wdM dA.1/\∀ (q:Rat),q ∈ List.map dJ x->rsz q<=1000000)/\True)/\True/\mvL dA.1 (List.map dJ x)=Prod.fst (tV A₂ b x)/\True/\0=Prod.fst gQ/\True)))) (by kernel_rfl) ?_
 try simp only[aU,ay,au]
 try dsimp only[Ty.den,Lf.den,asT] at *
 try simp only[yX,yU,trF,yY]
 have hZ:(⟨false,0,[],[]⟩:aF)=cO:=rfl
 try dsimp only[aB,asT,aA,aC,Ty.den,Lf.den] at *
 try simp only[hZ,Int.toNat_natCast,aU,ay,au,ni,mg,aH,nameAt,aV,aS,bF,rowAt,iy,iq]
 try simp only[lD,List.all_cons,List.all_nil,xw,ny,uj,ji,vk,ne_eq,ak,qo,jv,ug,vg,Cm,zh,Dc,ni,mg,jJ,tu,qm,List.length_cons,List.length_nil]
 try simp only[wdF,kN,lI]
 have hp:smK 100 g.1/\smK 100 b/\smL 500000 x:=hp
 obtain⟨g,u2⟩:=g
 obtain⟨pg,pb,pr⟩:=hp
 dsimp only at pg ⊢
 refine⟨⟨⟨by omega,two pg.1 pb.1⟩,fun h=>⟨h,pr.1⟩⟩,fun h=>?_,fun h=>?_⟩
 ·unfold tV;rw[ig (fun hh=>h.elim (fun h1=>h1 hh.1.1 hh.1.2) (fun h1=>by rw[h1] at hh;exact absurd hh.2 (by decide)))];exact⟨rfl,rfl⟩
 ·have h0:=h
  obtain⟨⟨cg,cb⟩,cr⟩:=h
  obtain⟨hg,g7,wg7,gC⟩:=pg.at cg
  obtain⟨hb,b7,wb7,bC⟩:=pb.at cb
  have g0:=hg.2.2.1
  have b0:=hb.2.2.1
  refine⟨⟨by omega,by omega,by omega⟩,fun h=>?_,fun h=>?_⟩
  ·unfold tV;rw[gy h0,ig (by omega)];exact⟨rfl,rfl⟩
  ·have h1:=h
   obtain⟨⟨e3,e4⟩,e5⟩:=h
   have hP:vN (mq g) (mq b):=zB pg pb cg cb e3 e4
   have F:=WG hP
   have og:=lN (gZ cg).2
   have ob:=lN (gZ cb).2
   refine⟨⟨og,ob,hP⟩,fun h4=>?_,fun h4=>?_⟩
   ·unfold tV;rw[gy h0,gy h1,ig (by rw[a0G h4];decide)];exact⟨rfl,rfl⟩
   ·obtain⟨hR,hT⟩:=a0H h4
    rw[hT];dsimp only
    refine⟨⟨a3I cr,F.s2.ok F.s1 (by omega),F.s2.sz (by omega),?_,fun q hq=>jg (pr.q cr q hq) (by omega)⟩,?_⟩
    ·rw[IU,F.s1.wd,mO,e5]
    ·unfold tV;rw[gy h0,gy h1,gy hR];exact⟨rfl,rfl⟩
def DX (g b q:MR):MQ × Int × Unit :=
 if dK g=0/\dK b=0/\dK q=0 then
  if (b.length=g.length/\wdM b=wdM g)/\q.length=g.length/\wdM q=g.length then
   if jF (bgM (mq g) (mq b))=true then (mulM (mulM (sM (mq g) (mq b)) (mq q)) (trM (sM (mq g) (mq b))),0,()) else ([],14,())
  else ([],4,())
 else ([],1,())
def c0J:Ctr:=⟨[.pair tMR .unit,tMR,tMR],[tM,tI],fun x=>smK 100 x.1.1/\smK 100 x.2.1/\smK 100 x.2.2.1,fun x=>DX x.1.1 x.2.1 x.2.2.1⟩
theorem a9f:aW Tryz.prog 39 c0J:=by
 refine bH ((((nil0.ad wX).ad EL).ad JM).ad a1C) ⟨[],[],[]⟩ Tryz.func39 rfl (by decide) (fun x=>[]) (fun x hp=>?_)
 obtain⟨g,b,q,u⟩:=x
 change List (List aF) × Unit at g
 change List (List aF) at b
 change List (List aF) at q
 refine bM (let A₁:=(fun(xs:Ty.den (Ty.list (Ty.lf Lf.dF)))=>List.map (fun(x:Ty.den (Ty.lf Lf.dF))=>aF.x x) xs);let A₂:=(asT (List (List aF)) g.1);let aQ:=(fun(x:Ty.den (Ty.list (Ty.lf Lf.dF)))=>bY (dS (fun(x:Ty.den (Ty.lf Lf.dF))=>bY ((aF.ok x=true)::aC Prop)) x::aC Prop));let dA:=(AX (List.map A₁ A₂) (List.map A₁ b));let dJ:=(aB (List.getD A₂ 0 (aC aF)).length);let dU:=(aB A₂.length);let A₀:=((!vG b dU dJ)==false);let bJ:=(A₀=true->A₀=true/\True);let fP:=(asT (List (List aF)) g.1::b::q::aC (List (List aF)));let gQ:=(DX A₂ b q).2;((List.length fP<=1000000/\∀ (a:List (List aF)),a ∈ asT (List (List aF)) g.1::b::q::aC (List (List aF))->iH a)/\True)/\ifB (!jC fP==0) (True/\aC (List Rat)=Prod.fst (DX A₂ b q)/\True/\1=Prod.fst gQ/\True) ((asT Int 0<=0/\0<aB A₂.length/\0<List.length b/\bJ/\bJ/\bJ/\bJ/\(A₀=true->A₀=true/\A₀=true/\A₀=true/\0<List.length q/\True)/\bJ/\((!vG b dU dJ)=false->A₀=true)/\True)/\ifB (bif !vG b dU dJ then true else !vG q dU dU) (True/\aC (List Rat)=Prod.fst (DX A₂ b q)/\True/\4=Prod.fst gQ/\True) ((dS aQ A₂/\dS aQ b/\vN (List.map A₁ A₂) (List.map A₁ b)/\True)/\ifB (!Prod.fst dA.2) (True/\aC (List Rat)=Prod.fst (DX A₂ b q)/\True/\14=Prod.fst gQ/\True) ((dS aQ q/\a6U dA.1 (List.map A₁ q)/\True)/\True/\mulM (mulM dA.1 (List.map A₁ q)) (trM dA.1)=Prod.fst (DX A₂ b q)/\True/\0=Prod.fst gQ/\True)))) (by kernel_rfl) ?_
 try simp only[aU,ay,au]
 try dsimp only[Ty.den,Lf.den,asT] at *
 try simp only[yX,yU,trF,yY]
 have hZ:(⟨false,0,[],[]⟩:aF)=cO:=rfl
 try dsimp only[aB,asT,aA,aC,Ty.den,Lf.den] at *
 try simp only[hZ,Int.toNat_natCast,aU,ay,au,ni,mg,aH,nameAt,aV,aS,bF,rowAt,iy,iq]
 try simp only[lD,List.all_cons,List.all_nil,xw,ny,uj,ji,vk,ne_eq,ak,qo,jv,ug,vg,Cm,zh,Dc,ni,mg,jJ,tu,qm,List.length_cons,List.length_nil]
 try simp only[wdF,kN,lI]
 have hp:smK 100 g.1/\smK 100 b/\smK 100 q:=hp
 obtain⟨g,u2⟩:=g
 obtain⟨pg,pb,pq⟩:=hp
 dsimp only at pg ⊢
 refine⟨⟨by omega,three pg.1 pb.1 pq.1⟩,fun h=>?_,fun h=>?_⟩
 ·unfold DX;rw[ig (fun hh=>h hh.1 hh.2.1 hh.2.2)];exact⟨rfl,rfl⟩
 ·have h0:=h
  obtain⟨cg,cb,cq⟩:=h
  obtain⟨hg,g7,wg7,gC⟩:=pg.at cg
  obtain⟨hb,b7,wb7,bC⟩:=pb.at cb
  obtain⟨hq,q7,wq7,qC⟩:=pq.at cq
  have g0:=hg.2.2.1
  have b0:=hb.2.2.1
  have q0:=hq.2.2.1
  refine⟨⟨by omega,by omega,by omega,fun h=>⟨h,h,h,by omega⟩⟩,fun h=>?_,fun h=>?_⟩
  ·unfold DX;rw[gy h0,ig (by omega)];exact⟨rfl,rfl⟩
  ·have h1:=h
   obtain⟨⟨e3,e4⟩,e5,e6⟩:=h
   have hP:vN (mq g) (mq b):=zB pg pb cg cb e3 e4
   have F:=WG hP
   have og:=lN (gZ cg).2
   have ob:=lN (gZ cb).2
   have oq:=lN (gZ cq).2
   refine⟨⟨og,ob,hP⟩,fun h4=>?_,fun h4=>?_⟩
   ·unfold DX;rw[gy h0,gy h1,ig (by rw[a0G h4];decide)];exact⟨rfl,rfl⟩
   ·obtain⟨hR,hT⟩:=a0H h4
    rw[hT];dsimp only
    refine⟨⟨oq,?_⟩,?_⟩
    ·have s1:isM (sM (mq g) (mq b)) g.length g.length:=by have:=F.s1;rwa [mO] at this
     unfold a6U;rw[s1.len]
     rw[e5,e6] at hq
     exact⟨s1,hq,g7,F.s2.mono (by omega),qC.mono (by omega)⟩
    ·unfold DX;rw[gy h0,gy h1,gy hR];exact⟨rfl,rfl⟩
end Go.Proofs.YtgplhbhfdgempaaGreat
