/-
  Lemmas for the statements about datums, part 34 of 37.
-/
import Derived.Test.YtgplhbhfdgempaaGreatDb33
namespace Go.Proofs.YtgplhbhfdgempaaGreat
open Go Go.RowKit
set_option maxRecDepth 100000
set_option maxHeartbeats 1000000
set_option linter.unusedVariables false
set_option linter.unusedSimpArgs false
theorem wdF {α:Type} (a:List (List α)):(List.getD a 0 []).length=wdM a:=rfl
theorem iT (a:MR) (r c:Nat):(rE a (r:Int) (c:Int)=true)↔a.length=r/\wdM a=c:=by
 unfold rE;rw[ak,jd,jd];omega
theorem jA (a:MR) (r c:Nat):(rE a (r:Int) (c:Int)=false)↔¬ (a.length=r/\wdM a=c):=by
 rw[<-iT,Bool.not_eq_true]
def smL (K:Nat) (l:LR):Prop:=sV l/\(okR l=true->∀ q ∈ l,rsz q.x<=K)
theorem a1R {g b:MQ} (h:(AV g b).2.1=false):kR (bgM g b)=false:=by
 cases e:kR (bgM g b)
 ·rfl
 ·unfold AV at h;rw[e,eY rfl] at h;cases h
theorem a1S {g b:MQ} (h:(AV g b).2.1=true):kR (bgM g b)=true/\AV g b=(sM g b,true,()):=by
 cases e:kR (bgM g b)
 ·unfold AV at h;rw[e,dw (by decide)] at h;cases h
 ·exact⟨rfl,by unfold AV;rw[e];rfl⟩
theorem c1p {a:MQ} {b:LQ'} (h:¬ (BL a b).2.1=0):pO a b=false:=by
 cases e:pO a b
 ·rfl
 ·exfalso;apply h;unfold BL;rw[e];rfl
theorem c1q {a:MQ} {b:LQ'} (h:(BL a b).2.1=0):pO a b=true/\BL a b=(uV a b,0,()):=by
 cases e:pO a b
 ·unfold BL at h;rw[e,dw (by decide)] at h;exact absurd h (by decide)
 ·exact⟨rfl,by unfold BL;rw[e];rfl⟩
theorem AU {g b:MR} (G:smK 100 g) (B:smK 100 b) (hg:bW g=0) (hb:bW b=0) (h1:b.length=g.length) (h2:wdM b=wdM g):yZ (mq g) (mq b):=by
 obtain⟨g1,g7,w7,gC⟩:=G.at hg
 obtain⟨b1,b7,v7,bC⟩:=B.at hb
 unfold yZ
 rw[kT,RF]
 rw[h1,h2] at b1
 exact⟨g1,b1,g7,w7,gC,bC⟩
theorem SL {n g:MR} {K:Nat} (A:smK 100 n) (G:smK K g) (hK:K<=13000) (hn:bW n=0) (hg:bW g=0) (h1:n.length=wdM n) (h2:g.length=n.length):RZ (mq n) (mq g):=by
 obtain⟨n1,n7,w7,nC⟩:=A.at hn
 obtain⟨g1,g7,v7,gC⟩:=G.at hg
 exact⟨PU n1 w7 nC (by omega),PU g1 v7 gC (by omega),by rw[RF,kT,h1],by rw[kT,kT,h2],nC.sz (by omega),gC.sz (by omega)⟩
theorem three {a b c:MR} (ha:iM a) (hb:iM b) (hc:iM c):∀ x ∈ [a,b,c],iM x:=fun x h=>by
 rcases oq.mp h with rfl|h
 ·exact ha
 ·rcases oq.mp h with rfl|h
  ·exact hb
  ·rw[lN.mp h];exact hc
theorem two {a b:MR} (ha:iM a) (hb:iM b):∀ x ∈ [a,b],iM x:=fun x h=>by
 rcases oq.mp h with rfl|h
 ·exact ha
 ·rw[lN.mp h];exact hb
theorem a7M {l:LR}:okR l=true↔∀ q ∈ l,q.ok=true:=by
 unfold okR
 rw[nI,vC]
 exact⟨fun h q hq=>by have:=h q hq;simpa using this,fun h q hq=>by rw[h q hq];decide⟩
theorem a0R {l:LR} (h:okR l=true):bY (fun q:aF=>aW [q.ok=true]) l:=jJ.mpr fun q hq=>⟨a7M.mp h q hq,trivial⟩
theorem smL.q {K:Nat} {l:LR} (H:smL K l) (h:okR l=true):∀ q ∈ lq l,rsz q<=K:=fun q hq=>by
 obtain⟨y,hy,rfl⟩:=ni.mp hq
 exact H.2 h y hy
theorem b6G {n:MQ} {r:LQ'} {N:Nat} (hn:isM n N N) (H:CdM n 100) (h7:N<=7) (hr:r.length=N) (hs:∀ q ∈ r,rsz q<=1):Cd (gV (wdM n) (ent n) (fun i _=>lv r i)) N (N+1) 116:=by
 have H2:Cd (ent n) N N 100:=by have:=H;unfold CdM at this;rwa [hn.len,hn.wd] at this
 have G:Cd (fun i _=>lv r i) N 1 (N*(1+1)+2):=Cd.of fun i hi j _=>hs _ (by unfold lv;rw[ay,dn (by omega)];exact jm _)
 rw[hn.wd]
 exact(Cd.bes H2 G).mono (by omega)
theorem a8l {n:MQ} {r:LQ'} {N:Nat} (hn:isM n N N) (H:CdM n 100) (h7:N<=7) (hr:r.length=N) (hs:∀ q ∈ r,rsz q<=1):∀ q ∈ uV n r,rsz q<=20000:=fun q hq=>by
 have C:=b6G hn H h7 hr hs
 obtain⟨c,_,rfl⟩:=ni.mp hq
 have E:=a4t n r
 have h3:2 ^ N*(116+1)<=128*117:=oh (a3R h7) (aj _)
 unfold xs
 split
 ·next h =>
  have h4:=List.idxOf_lt_length_of_mem h
  have h5:=E.le
  have h6:=hn.len
  have:=(C.red N (by omega)).rsz (i:=(eF n r).2.idxOf c) (j:=N) (by omega) (by omega)
  unfold eF at this ⊢
  rw[hn.len,hn.wd] at *
  omega
 ·exact jc (show rsz 0<=1 by decide +kernel) (by omega)
def KL (n g:MQ):MQ:=RY n (mulM g (trM g))
theorem MX {n g:MQ} {N c:Nat} (hn:isM n N N):isM (KL n g) N N:=hn.add
theorem a7I {n g:MQ} {N c:Nat} (hn:isM n N N) (hg:isM g N c) (h7:c<=7) (H:CdM n 100) (G:CdM g 100):CdM (KL n g) 310:=by
 have h1:=hg.trp
 have h2:=G.trp hg
 have h3:=hg.mul h1
 have h4:=G.mul h2 hg h1
 exact(H.add h4 hn h3).mono (by omega)
theorem a3M {n g:MQ} {N c:Nat} (hn:isM n N N) (hg:isM g N c) (hG:lY n g=true):kR (KL n g)=true:=by
 have HG:=(VH hn hg).mp hG
 rw[a4b (MX (c:=c) hn)]
 intro x h
 refine HG.regular fun i hi=>?_
 rw[<-h i hi]
 refine wI fun j hj=>?_
 unfold KL
 rw[hn.c1I hi hj,hg.MP hg.trp hi hj]
 show ent n i j+mm c (ent g) (tr (ent g)) i j=_
 congr 1
 exact kJ (fun _ _=>rfl) fun k hk=>(hg.KR hk hj).symm
theorem b7G {a:MQ} (h:kR a=true):uS a=(oN a,0,()):=by unfold uS;rw[h];rfl
def b5J (n g b:MR) (r:LR):Prop:=smK 100 n/\smK 100 g/\smK 100 b/\smL 1 r
def oW (n g b:MR) (r:LR):LQ' × Int × Unit :=
 if (bW n=0/\bW g=0/\bW b=0)/\okR r=true then
  if ((n.length=wdM n/\g.length=n.length)/\b.length=n.length/\wdM b=wdM g)/\r.length=n.length then
   if lY (mq n) (mq g)=true then
    if kR (bgM (mq g) (mq b))=true then
     if pO (mq n) (lq r)=true then (mvL (sM (mq g) (mq b)) (uV (mq n) (lq r)),0,()) else ([],6,())
    else ([],14,())
   else ([],12,())
  else ([],4,())
 else ([],1,())
def b6h:Ctr:=⟨[tMR,.pair tMR .unit,tMR,.list tR],[.list tQ,tI],fun x=>b5J x.1 x.2.1.1 x.2.2.1 x.2.2.2.1,fun x=>oW x.1 x.2.1.1 x.2.2.1 x.2.2.2.1⟩
theorem UW:aY Tryz.prog 20 b6h:=by
 refine bH (((((((nil0.ad a2D).ad b3i).ad yH).ad a2P).ad OJ).ad UM).ad LM) ⟨[],[],[]⟩ Tryz.func20 rfl (by decide) (fun x=>[]) (fun x hp=>?_)
 obtain⟨n,g,b,r,u⟩:=x
 change List (List aF) at n
 change List (List aF) × Unit at g
 change List (List aF) at b
 change List aF at r
 refine bP (let A₀:=(asT (List (List aF)) g.1);let A₂:=(List.getD n 0 (aC aF)).length;let aP:=(aA (List.getD A₀ 0 (aC aF)).length);let dO:=(List.map (fun(x:Ty.den (Ty.lf Lf.aU))=>aF.x x) r);let eH:=(Ty.list (Ty.lf Lf.aU));let A₁:=(List.map (fun(xs:Ty.den eH)=>List.map (fun(x:Ty.den (Ty.lf Lf.aU))=>aF.x x) xs) n);let dB:=(List.map (fun(xs:Ty.den eH)=>List.map (fun(x:Ty.den (Ty.lf Lf.aU))=>aF.x x) xs) A₀);let dU:=(aA n.length);let dX:=(oW n A₀ b r).2;let iG:=(List.map (fun(xs:Ty.den eH)=>List.map (fun(x:Ty.den (Ty.lf Lf.aU))=>aF.x x) xs) b);let aV:=(AV dB iG);((List.length (n::asT (List (List aF)) g.1::b::aC (List (List aF)))<=1000000/\∀ (a:List (List aF)),a ∈ n::asT (List (List aF)) g.1::b::aC (List (List aF))->iM a)/\(((!gW (n::asT (List (List aF)) g.1::b::aC (List (List aF)))==0)==false)=true->((!gW (n::asT (List (List aF)) g.1::b::aC (List (List aF)))==0)==false)=true/\sV r/\True)/\(((!gW (n::asT (List (List aF)) g.1::b::aC (List (List aF)))==0)==false)=true->((!gW (n::asT (List (List aF)) g.1::b::aC (List (List aF)))==0)==false)=true/\True)/\((!gW (n::asT (List (List aF)) g.1::b::aC (List (List aF)))==0)=false->((!gW (n::asT (List (List aF)) g.1::b::aC (List (List aF)))==0)==false)=true)/\True)/\ifB (bif !gW (n::asT (List (List aF)) g.1::b::aC (List (List aF)))==0 then true else !okR r) (True/\aC Rat=Prod.fst (oW n A₀ b r)/\True/\1=Prod.fst dX/\True) ((asT Int 0<=0/\0<aA n.length/\(((aA n.length != aA A₂)==false)=true->((aA n.length != aA A₂)==false)=true/\True)/\(((aA n.length != aA A₂)==false)=true->((aA n.length != aA A₂)==false)=true/\True)/\(((aA n.length != aA A₂)==false)=true->((aA n.length != aA A₂)==false)=true/\True)/\(((aA n.length != aA A₂)==false)=true->((aA n.length != aA A₂)==false)=true/\((aA n.length != aA A₂)==false)=true/\True)/\((aA n.length != aA A₂)=false->((aA n.length != aA A₂)==false)=true)/\(((bif aA n.length != aA A₂ then true else aA A₀.length != aA n.length)==false)=true->((bif aA n.length != aA A₂ then true else aA A₀.length != aA n.length)==false)=true/\True)/\(((bif aA n.length != aA A₂ then true else aA A₀.length != aA n.length)==false)=true->((bif aA n.length != aA A₂ then true else aA A₀.length != aA n.length)==false)=true/\True)/\(((bif aA n.length != aA A₂ then true else aA A₀.length != aA n.length)==false)=true->((bif aA n.length != aA A₂ then true else aA A₀.length != aA n.length)==false)=true/\asT Int 0<=0/\0<aA A₀.length/\True)/\(((bif aA n.length != aA A₂ then true else aA A₀.length != aA n.length)==false)=true->((bif aA n.length != aA A₂ then true else aA A₀.length != aA n.length)==false)=true/\True)/\(((bif aA n.length != aA A₂ then true else aA A₀.length != aA n.length)==false)=true->((bif aA n.length != aA A₂ then true else aA A₀.length != aA n.length)==false)=true/\True)/\(((bif aA n.length != aA A₂ then true else aA A₀.length != aA n.length)==false)=true->((bif aA n.length != aA A₂ then true else aA A₀.length != aA n.length)==false)=true/\((bif aA n.length != aA A₂ then true else aA A₀.length != aA n.length)==false)=true/\((bif aA n.length != aA A₂ then true else aA A₀.length != aA n.length)==false)=true/\0<List.length b/\True)/\(((bif aA n.length != aA A₂ then true else aA A₀.length != aA n.length)==false)=true->((bif aA n.length != aA A₂ then true else aA A₀.length != aA n.length)==false)=true/\True)/\((bif aA n.length != aA A₂ then true else aA A₀.length != aA n.length)=false->((bif aA n.length != aA A₂ then true else aA A₀.length != aA n.length)==false)=true)/\(((bif bif aA n.length != aA A₂ then true else aA A₀.length != aA n.length then true else !rE b dU aP)==false)=true->((bif bif aA n.length != aA A₂ then true else aA A₀.length != aA n.length then true else !rE b dU aP)==false)=true/\True)/\(((bif bif aA n.length != aA A₂ then true else aA A₀.length != aA n.length then true else !rE b dU aP)==false)=true->((bif bif aA n.length != aA A₂ then true else aA A₀.length != aA n.length then true else !rE b dU aP)==false)=true/\True)/\(((bif bif aA n.length != aA A₂ then true else aA A₀.length != aA n.length then true else !rE b dU aP)==false)=true->((bif bif aA n.length != aA A₂ then true else aA A₀.length != aA n.length then true else !rE b dU aP)==false)=true/\((bif bif aA n.length != aA A₂ then true else aA A₀.length != aA n.length then true else !rE b dU aP)==false)=true/\True)/\((bif bif aA n.length != aA A₂ then true else aA A₀.length != aA n.length then true else !rE b dU aP)=false->((bif bif aA n.length != aA A₂ then true else aA A₀.length != aA n.length then true else !rE b dU aP)==false)=true)/\True)/\ifB (bif bif bif aA n.length != aA A₂ then true else aA A₀.length != aA n.length then true else !rE b dU aP then true else aA r.length != aA n.length) (True/\aC Rat=Prod.fst (oW n A₀ b r)/\True/\4=Prod.fst dX/\True) ((bY (fun(x:Ty.den eH)=>aW (bY (fun(x:Ty.den (Ty.lf Lf.aU))=>aW ((aF.ok x=true)::aC Prop)) x::aC Prop)) n/\bY (fun(x:Ty.den eH)=>aW (bY (fun(x:Ty.den (Ty.lf Lf.aU))=>aW ((aF.ok x=true)::aC Prop)) x::aC Prop)) A₀/\RZ A₁ dB/\True)/\ifB (!lY A₁ dB) (True/\aC Rat=Prod.fst (oW n A₀ b r)/\True/\12=Prod.fst dX/\True) ((bY (fun(x:Ty.den eH)=>aW (bY (fun(x:Ty.den (Ty.lf Lf.aU))=>aW ((aF.ok x=true)::aC Prop)) x::aC Prop)) A₀/\bY (fun(x:Ty.den eH)=>aW (bY (fun(x:Ty.den (Ty.lf Lf.aU))=>aW ((aF.ok x=true)::aC Prop)) x::aC Prop)) b/\yZ dB iG/\True)/\ifB (!Prod.fst aV.2) (True/\aC Rat=Prod.fst (oW n A₀ b r)/\True/\14=Prod.fst dX/\True) ((bY (fun(x:Ty.den eH)=>aW (bY (fun(x:Ty.den (Ty.lf Lf.aU))=>aW ((aF.ok x=true)::aC Prop)) x::aC Prop)) n/\bY (fun(x:Ty.den (Ty.lf Lf.aU))=>aW ((aF.ok x=true)::aC Prop)) r/\(okM A₁/\wdM A₁<=63/\List.length dO=List.length A₁/\(∀ (q:Rat),q ∈ List.map (fun(x:Ty.den (Ty.lf Lf.aU))=>aF.x x) r->rsz q<=10000000)/\AQ A₁.length (wdM A₁+1) (gV (wdM A₁) (ent A₁) fun(i x:Nat)=>lv dO i) (wdM A₁))/\True)/\ifB (Prod.fst (BL A₁ dO).2 != 0) (True/\aC Rat=Prod.fst (oW n A₀ b r)/\True/\6=Prod.fst dX/\True) (((okM aV.1/\szM aV.1 1000000/\List.length (BL A₁ dO).1=wdM aV.1/\∀ (q:Rat),q ∈ Prod.fst (BL A₁ dO)->rsz q<=1000000)/\True)/\True/\mvL aV.1 (BL A₁ dO).1=Prod.fst (oW n A₀ b r)/\True/\0=Prod.fst dX/\True)))))) (by kernel_rfl) ?_
 try simp only[aJ,dh,bn]
 try dsimp only[Ty.den,Lf.den,asT] at *
 try simp only[uF,uD,trF,uG]
 have hZ:(⟨false,0,[],[]⟩:aF)=bV:=rfl
 try dsimp only[aA,asT,aB,aC,Ty.den,Lf.den] at *
 try simp only[hZ,Int.toNat_natCast,aJ,dh,bn,mg,mW,aH,nameAt,aX,aN,aZ,rowAt,iw,gJ]
 try simp only[jK,List.all_cons,List.all_nil,yx,nI,qw,jd,uy,ne_eq,ak,qg,nS,tC,xk,imp_self,AO,and_self,mg,mW,iD,qZ,qO,List.length_cons,List.length_nil]
 try simp only[wdF,iT,jA]
 have hp:b5J n g.1 b r:=hp
 obtain⟨g,u2⟩:=g
 obtain⟨pn,pg,pb,pr⟩:=hp
 dsimp only at pg ⊢
 refine⟨⟨⟨by omega,three pn.1 pg.1 pb.1⟩,fun h=>⟨h,pr.1⟩⟩,fun h=>?_,fun h=>?_⟩
 ·unfold oW;rw[dw (fun hh=>h.elim (fun h1=>h1 hh.1.1 hh.1.2.1 hh.1.2.2) (fun h1=>by rw[h1] at hh;exact absurd hh.2 (by decide)))];exact⟨rfl,rfl⟩
 ·have h0:=h
  obtain⟨⟨cn,cg,cb⟩,cr⟩:=h
  obtain⟨hn,n7,wn7,nC⟩:=pn.at cn
  obtain⟨hg,g7,wg7,gC⟩:=pg.at cg
  obtain⟨hb,b7,wb7,bC⟩:=pb.at cb
  have n0:=hn.2.2.1
  have g0:=hg.2.2.1
  have b0:=hb.2.2.1
  refine⟨⟨by omega,by omega,fun h=>⟨h,by omega,by omega⟩,fun h=>⟨h,h,h,by omega⟩⟩,fun h=>?_,fun h=>?_⟩
  ·unfold oW;rw[eY h0,dw (by omega)];exact⟨rfl,rfl⟩
  ·have h1:=h
   obtain⟨⟨⟨e1,e2⟩,e3,e4⟩,e5⟩:=h
   have hN:isM (mq n) n.length n.length:=by rw[<-e1] at hn;exact hn
   have hP:yZ (mq g) (mq b):=AU pg pb cg cb (by omega) e4
   have F:=a3S hP
   have on:=lG (gX cn).2
   have og:=lG (gX cg).2
   have ob:=lG (gX cb).2
   refine⟨⟨on,og,SL pn pg (by omega) cn cg e1 e2⟩,fun h3=>?_,fun h3=>⟨⟨og,ob,hP⟩,fun h4=>?_,fun h4=>?_⟩⟩
   ·unfold oW;rw[eY h0,eY h1,dw (by rw[h3];decide)];exact⟨rfl,rfl⟩
   ·unfold oW;rw[eY h0,eY h1,eY h3,dw (by rw[a1R h4];decide)];exact⟨rfl,rfl⟩
   ·obtain⟨hR,hT⟩:=a1S h4
    rw[hT];dsimp only
    have hr:(lq r).length=n.length:=by rw[wG,e5]
    have hs:=pr.q cr
    have C:=b6G hN nC n7 hr hs
    refine⟨⟨on,a0R cr,nC.ok hN (by omega),by rw[hN.wd];omega,by rw[hr,hN.len],fun q hq=>jc (hs q hq) (by omega),?_⟩,fun h5=>?_,fun h5=>?_⟩
    ·have h3:2 ^ wdM (mq n)*(116+1)<=128*117:=oh (a3R (by rw[hN.wd];omega)) (aj _)
     have h4:=hN.wd
     rw[hN.len]
     have C2:Cd (gV (wdM (mq n)) (ent (mq n)) (fun i _=>lv (lq r) i)) n.length (wdM (mq n)+1) 116:=by rw[h4];rw[h4] at C;exact C
     exact ND C2 (by omega) (by omega)
    ·unfold oW;rw[eY h0,eY h1,eY h3,eY hR,dw (by rw[c1p h5];decide)];exact⟨rfl,rfl⟩
    ·obtain⟨hS,hT2⟩:=c1q h5
     rw[hT2];dsimp only
     refine⟨⟨F.s2.ok F.s1 (by omega),F.s2.sz (by omega),?_,fun q hq=>jc (a8l hN nC n7 hr hs q hq) (by omega)⟩,?_⟩
     ·rw[XO hN,F.s1.wd,kT,e2]
     ·unfold oW;rw[eY h0,eY h1,eY h3,eY hR,eY hS];exact⟨rfl,rfl⟩
def zO (n g b:MR):MQ × Int × Unit :=
 if bW n=0/\bW g=0/\bW b=0 then
  if (n.length=wdM n/\g.length=n.length)/\b.length=n.length/\wdM b=wdM g then
   if lY (mq n) (mq g)=true then
    if kR (bgM (mq g) (mq b))=true then
     (mulM (mulM (sM (mq g) (mq b)) (oN (RY (mq n) (mulM (mq g) (trM (mq g)))))) (trM (sM (mq g) (mq b))),0,())
    else ([],14,())
   else ([],12,())
  else ([],4,())
 else ([],1,())
def b6g:Ctr:=⟨[tMR,.pair tMR .unit,tMR],[tM,tI],fun x=>smK 100 x.1/\smK 100 x.2.1.1/\smK 100 x.2.2.1,fun x=>zO x.1 x.2.1.1 x.2.2.1⟩
theorem UL:aY Tryz.prog 24 b6g:=by
 refine bH (((((((((nil0.ad BO).ad TD).ad b0b).ad a7g).ad yH).ad OJ).ad UM).ad LM).ad b0H) ⟨[],[],[]⟩ Tryz.func24 rfl (by decide) (fun x=>[]) (fun x hp=>?_)
 obtain⟨n,g,b,u⟩:=x
 change List (List aF) at n
 change List (List aF) × Unit at g
 change List (List aF) at b
 refine bP (let A₂:=(asT (List (List aF)) g.1);let aV:=(List.getD n 0 (aC aF)).length;let dU:=(Ty.list (Ty.lf Lf.aU));let A₀:=(List.map (fun(xs:Ty.den dU)=>List.map (fun(x:Ty.den (Ty.lf Lf.aU))=>aF.x x) xs) A₂);let dB:=(List.map (fun(xs:Ty.den dU)=>List.map (fun(x:Ty.den (Ty.lf Lf.aU))=>aF.x x) xs) n);let dO:=(List.map (fun(xs:Ty.den dU)=>List.map (fun(x:Ty.den (Ty.lf Lf.aU))=>aF.x x) xs) b);let eH:=(tab (wdM A₀) A₀.length (tr (ent A₀)));let aP:=(tab A₀.length (wdM eH) (mm eH.length (ent A₀) (ent eH)));let A₁:=(RY dB aP);let dX:=(zO n A₂ b).2;let iG:=(AV A₀ dO).1;((List.length (n::asT (List (List aF)) g.1::b::aC (List (List aF)))<=1000000/\∀ (a:List (List aF)),a ∈ n::asT (List (List aF)) g.1::b::aC (List (List aF))->iM a)/\True)/\ifB (!gW (n::asT (List (List aF)) g.1::b::aC (List (List aF)))==0) (True/\aC (List Rat)=Prod.fst (zO n A₂ b)/\True/\1=Prod.fst dX/\True) ((asT Int 0<=0/\0<aA n.length/\(((aA n.length != aA aV)==false)=true->((aA n.length != aA aV)==false)=true/\True)/\(((aA n.length != aA aV)==false)=true->((aA n.length != aA aV)==false)=true/\True)/\(((aA n.length != aA aV)==false)=true->((aA n.length != aA aV)==false)=true/\True)/\(((aA n.length != aA aV)==false)=true->((aA n.length != aA aV)==false)=true/\((aA n.length != aA aV)==false)=true/\True)/\((aA n.length != aA aV)=false->((aA n.length != aA aV)==false)=true)/\(((bif aA n.length != aA aV then true else aA A₂.length != aA n.length)==false)=true->((bif aA n.length != aA aV then true else aA A₂.length != aA n.length)==false)=true/\True)/\(((bif aA n.length != aA aV then true else aA A₂.length != aA n.length)==false)=true->((bif aA n.length != aA aV then true else aA A₂.length != aA n.length)==false)=true/\True)/\(((bif aA n.length != aA aV then true else aA A₂.length != aA n.length)==false)=true->((bif aA n.length != aA aV then true else aA A₂.length != aA n.length)==false)=true/\asT Int 0<=0/\0<aA A₂.length/\True)/\(((bif aA n.length != aA aV then true else aA A₂.length != aA n.length)==false)=true->((bif aA n.length != aA aV then true else aA A₂.length != aA n.length)==false)=true/\True)/\(((bif aA n.length != aA aV then true else aA A₂.length != aA n.length)==false)=true->((bif aA n.length != aA aV then true else aA A₂.length != aA n.length)==false)=true/\True)/\(((bif aA n.length != aA aV then true else aA A₂.length != aA n.length)==false)=true->((bif aA n.length != aA aV then true else aA A₂.length != aA n.length)==false)=true/\((bif aA n.length != aA aV then true else aA A₂.length != aA n.length)==false)=true/\((bif aA n.length != aA aV then true else aA A₂.length != aA n.length)==false)=true/\0<List.length b/\True)/\(((bif aA n.length != aA aV then true else aA A₂.length != aA n.length)==false)=true->((bif aA n.length != aA aV then true else aA A₂.length != aA n.length)==false)=true/\True)/\((bif aA n.length != aA aV then true else aA A₂.length != aA n.length)=false->((bif aA n.length != aA aV then true else aA A₂.length != aA n.length)==false)=true)/\True)/\ifB (bif bif aA n.length != aA aV then true else aA A₂.length != aA n.length then true else !rE b (aA n.length) (aA (List.getD A₂ 0 (aC aF)).length)) (True/\aC (List Rat)=Prod.fst (zO n A₂ b)/\True/\4=Prod.fst dX/\True) ((bY (fun(x:Ty.den dU)=>aW (bY (fun(x:Ty.den (Ty.lf Lf.aU))=>aW ((aF.ok x=true)::aC Prop)) x::aC Prop)) n/\bY (fun(x:Ty.den dU)=>aW (bY (fun(x:Ty.den (Ty.lf Lf.aU))=>aW ((aF.ok x=true)::aC Prop)) x::aC Prop)) A₂/\RZ dB A₀/\True)/\ifB (!lY dB A₀) (True/\aC (List Rat)=Prod.fst (zO n A₂ b)/\True/\12=Prod.fst dX/\True) ((bY (fun(x:Ty.den dU)=>aW (bY (fun(x:Ty.den (Ty.lf Lf.aU))=>aW ((aF.ok x=true)::aC Prop)) x::aC Prop)) A₂/\bY (fun(x:Ty.den dU)=>aW (bY (fun(x:Ty.den (Ty.lf Lf.aU))=>aW ((aF.ok x=true)::aC Prop)) x::aC Prop)) b/\yZ A₀ dO/\True)/\ifB (!Prod.fst (AV A₀ dO).2) (True/\aC (List Rat)=Prod.fst (zO n A₂ b)/\True/\14=Prod.fst dX/\True) ((bY (fun(x:Ty.den dU)=>aW (bY (fun(x:Ty.den (Ty.lf Lf.aU))=>aW ((aF.ok x=true)::aC Prop)) x::aC Prop)) A₂/\okM A₀/\True)/\(bY (fun(x:Ty.den dU)=>aW (bY (fun(x:Ty.den (Ty.lf Lf.aU))=>aW ((aF.ok x=true)::aC Prop)) x::aC Prop)) A₂/\(okM A₀/\okM eH/\wdM A₀=List.length eH/\szM A₀ 1000000/\szM eH 1000000)/\True)/\(bY (fun(x:Ty.den dU)=>aW (bY (fun(x:Ty.den (Ty.lf Lf.aU))=>aW ((aF.ok x=true)::aC Prop)) x::aC Prop)) n/\(okM dB/\okM aP/\List.length dB=List.length aP/\wdM dB=wdM aP)/\True)/\((okM A₁/\wdM A₁=List.length A₁/\AQ A₁.length (List.length A₁+List.length A₁) (gV A₁.length (ent A₁) idm) A₁.length)/\True)/\(b3T iG (uS A₁).1/\True)/\True/\mulM (mulM iG (uS A₁).1) (trM iG)=Prod.fst (zO n A₂ b)/\True/\0=Prod.fst dX/\True))))) (by kernel_rfl) ?_
 try simp only[aJ,dh,bn]
 try dsimp only[Ty.den,Lf.den,asT] at *
 try simp only[uF,uD,trF,uG]
 have hZ:(⟨false,0,[],[]⟩:aF)=bV:=rfl
 try dsimp only[aA,asT,aB,aC,Ty.den,Lf.den] at *
 try simp only[hZ,Int.toNat_natCast,aJ,dh,bn,mg,mW,aH,nameAt,aX,aN,aZ,rowAt,iw,gJ]
 try simp only[jK,List.all_cons,List.all_nil,yx,nI,qw,jd,uy,ne_eq,ak,qg,nS,tC,xk,imp_self,AO,and_self,mg,mW,iD,qZ,qO,List.length_cons,List.length_nil]
 try simp only[wdF,iT,jA]
 have hp:smK 100 n/\smK 100 g.1/\smK 100 b:=hp
 obtain⟨g,u2⟩:=g
 obtain⟨pn,pg,pb⟩:=hp
 dsimp only at pg ⊢
 refine⟨⟨by omega,three pn.1 pg.1 pb.1⟩,fun h=>?_,fun h=>?_⟩
 ·unfold zO;rw[dw (fun hh=>h hh.1 hh.2.1 hh.2.2)];exact⟨rfl,rfl⟩
 ·have h0:=h
  obtain⟨cn,cg,cb⟩:=h
  obtain⟨hn,n7,wn7,nC⟩:=pn.at cn
  obtain⟨hg,g7,wg7,gC⟩:=pg.at cg
  obtain⟨hb,b7,wb7,bC⟩:=pb.at cb
  have n0:=hn.2.2.1
  have g0:=hg.2.2.1
  have b0:=hb.2.2.1
  refine⟨⟨by omega,by omega,fun h=>⟨h,by omega,by omega⟩,fun h=>⟨h,h,h,by omega⟩⟩,fun h=>?_,fun h=>?_⟩
  ·unfold zO;rw[eY h0,dw (by omega)];exact⟨rfl,rfl⟩
  ·have h1:=h
   obtain⟨⟨e1,e2⟩,e3,e4⟩:=h
   have hN:isM (mq n) n.length n.length:=by rw[<-e1] at hn;exact hn
   have hP:yZ (mq g) (mq b):=AU pg pb cg cb (by omega) e4
   have F:=a3S hP
   have on:=lG (gX cn).2
   have og:=lG (gX cg).2
   have ob:=lG (gX cb).2
   refine⟨⟨on,og,SL pn pg (by omega) cn cg e1 e2⟩,fun h3=>?_,fun h3=>⟨⟨og,ob,hP⟩,fun h4=>?_,fun h4=>?_⟩⟩
   ·unfold zO;rw[eY h0,eY h1,dw (by rw[h3];decide)];exact⟨rfl,rfl⟩
   ·unfold zO;rw[eY h0,eY h1,eY h3,dw (by rw[a1R h4];decide)];exact⟨rfl,rfl⟩
   ·obtain⟨hR,hT⟩:=a1S h4
    have hg:isM (mq g) n.length (wdM g):=by rw[e2] at hg;exact hg
    have t1:=hg.trp
    have t2:=gC.trp hg
    have m1:=hg.mul t1
    have m2:=gC.mul t2 hg t1
    have a1:isM (KL (mq n) (mq g)) n.length n.length:=MX (c:=0) hN
    have a2:=a7I hN hg wg7 nC gC
    have i1:=a1.inv
    have i2:=a2.inv a1
    have h7:2 ^ n.length*(310+2)<=128*312:=oh (a3R n7) (aj _)
    rw[hT];dsimp only
    rw[show RY (mq n) (mulM (mq g) (trM (mq g)))=KL (mq n) (mq g) from rfl,b7G (a3M hN hg h3)];dsimp only
    have s1:isM (sM (mq g) (mq b)) n.length n.length:=by have:=F.s1;rwa [kT,e2] at this
    refine⟨⟨og,gC.ok hg (by omega)⟩,⟨og,gC.ok hg (by omega),t2.ok t1 (by omega),hg.wd.trans t1.len.symm,gC.sz (by omega),t2.sz (by omega)⟩,⟨on,nC.ok hN (by omega),m2.ok m1 (by omega),hN.len.trans m1.len.symm,hN.wd.trans m1.wd.symm⟩,⟨a2.ok a1 (by omega),a1.wd.trans a1.len.symm,?_⟩,?_,?_⟩
    ·rw[a1.len]
     exact ND (a2.MI a1) (by omega) (by omega)
    ·unfold b3T;rw[s1.len]
     exact⟨s1,i1,n7,F.s2.mono (by omega),i2.mono (by omega)⟩
    ·unfold zO;rw[eY h0,eY h1,eY h3,eY hR];exact⟨rfl,rfl⟩
def c2g:Ctr:=⟨[tQ,tQ],[tQ,tI],fun x=>s19 x.1 x.2.1/\(show Rat from x.2.1)≠0,fun x=>((show Rat from x.1) / (show Rat from x.2.1),(0:Int),())⟩
theorem b3X {f:FuncId} (h:∀ (v u:Value) (x y:Rat) (w:World),RQ w v x->RQ w u y->rsz x<=190000000->rsz y<=190000000->y≠0->Calls Tryz.prog f #[v,u] w (GQC (x / y) 0 w)):aY Tryz.prog f c2g:=by
 intro F w vs x hF hvs hp
 obtain⟨v,vs',rfl,h1,u,vs'',rfl,h2,h3⟩:=hvs
 have h3:vs''=[]:=h3
 subst h3
 refine(h v u x.1 x.2.1 w (xK h1) (xK h2) hp.1.1 hp.1.2 hp.2).mono ?_
 rintro e w' ⟨r,rfl,hr,hb⟩
 exact⟨_,rfl,⟨[_,_],rfl,_,_,rfl,a8r hr,_,_,rfl,a4A _,rfl⟩,hb⟩
theorem c3X:aY Tryz.prog 71 (cVal 999999999):=(a6J fun v ok q w h hn=>uM v ok q w h hn)
theorem c1C:aY Tryz.prog 32 (c2t s19 (fun x y=>decide (x=y))):=(b3Y fun v u x y w a b h=>a9E v u x y w a b h.1 h.2)
theorem a2y:aY Tryz.prog 42 (cIQ gZ (fun i=>(i:Rat))):=(b0n fun x w h=>RG x w h.1 h.2)
theorem b3M:aY Tryz.prog 44 (cQ2 s19 (·+·)):=(OH fun v u x y w a b h=>a0o v u x y w a b h.1 h.2)
theorem a6x:aY Tryz.prog 45 (cQ2 s19 (·*·)):=(OH fun v u x y w a b h=>a9y v u x y w a b h.1 h.2)
theorem b3N:aY Tryz.prog 43 (cQ2 s19 (·-·)):=(OH fun v u x y w a b h=>a0s v u x y w a b h.1 h.2)
theorem a6y:aY Tryz.prog 72 (cQI (fun x=>rsz x<=190000000) (fun x=>sgn x.num)):=(b0p fun v x w h hl=>XI v x w h (jc hl (by omega)))
theorem c1E:aY Tryz.prog 95 c2g:=(b3X fun v u x y w a b l1 l2 hy=>b2G v u x y w a b l1 l2 hy)
def szL (l:LQ'):Prop:=l.length<=1000/\∀ q ∈ l,rsz q<=100000000
def a8f (q:aF):Prop:=q.n<=999999999/\q.m<=999999999
def jO (l:LR):Prop:=l.length<=1000000/\∀ q ∈ l,a8f q
def okL (l:LR):Bool:=!l.any (fun q=>!q.ok)
theorem jY {α:Type} {xs:List α} {i:Nat} {d:α} (hi:i<xs.length):xs.getD i d ∈ xs:=by
 rw[ay,dn hi];exact jm hi
theorem XQ {α:Type} {xs ys:List α} {i:Nat} {d:α} (hi:i<xs.length) (hy:i<ys.length) (h:xs.take i=ys.take i) (h2:xs.getD i d=ys.getD i d):xs.take (i+1)=ys.take (i+1):=by
 rw[Ak,Ak,h]
 rw[ay,dn hi,ay,dn hy] at h2
 rw[dn hi,dn hy]
 have h2:xs[i]=ys[i]:=h2
 rw[h2]
def c2C:Ctr:=⟨[.list tR],[tB],fun x=>jO x.1,fun x=>(okL x.1,())⟩
theorem IJ:aY Tryz.prog 29 c2C:=by
 refine bH (nil0.ad c3X) ⟨[],[],[]⟩ Tryz.func29 rfl (by decide) (fun x=>[.inv {k:Nat // k<=(show LR from x.1).length/\((show LR from x.1).take k).any (fun q=>!q.ok)=false} (fun k=>[(3,.val tI (k.1:Int))]) (fun k=>[]) (fun k=>(show LR from x.1).length-k.1) ⟨0,by omega,rfl⟩ (fun _=>[])]) (fun x hp=>?_)
 obtain⟨x,u⟩:=x
 change List aF at x
 refine bP ((asT Int 0=0/\True)/\∀ (i:{ k:Nat // k<=List.length x/\(List.any (List.take k x) fun(q:aF)=>!aF.ok q)=false }),let A₀:=(List.getD x (aA (aB i)).toNat { ok:=false,x:=0,g:=aC Nat,h:=aC Nat });asT Bool true=true/\ifB (decide (aA (aB i)<aA x.length)) ((0<=aA (aB i)/\aA (aB i)<aA x.length/\(aF.n A₀<=999999999/\aF.m A₀<=999999999)/\True)/\ifB (!aF.ok A₀) (True/\false=okL x/\True) (∃ (i':{ k:Nat // k<=List.length x/\(List.any (List.take k x) fun(q:aF)=>!aF.ok q)=false }),List.length x-aB i'<List.length x-aB i/\IntKind.wrap IntKind.i64 (aA (aB i)+1)=aA (aB i')/\True)) (True/\true=okL x/\True)) (by kernel_rfl) ?_
 have hZ:(⟨false,0,[],[]⟩:aF)=bV:=rfl
 dsimp only[aA,asT,aB,aC,Ty.den,Lf.den] at *
 simp only[hZ,Int.toNat_natCast,aJ,dh,bn,mg,mW,aH,nameAt,aX,aN,aZ,rowAt,iw,gJ]
 have hp:jO x:=hp
 obtain⟨hl,hb⟩:=hp
 refine fun i=>⟨fun h1=>?_,fun h1=>?_⟩
 ·have hi:i.1<x.length:=by omega
  have hs:a8f (x.getD i.1 bV):=fA hb hi
  refine⟨⟨by omega,h1,hs.1,hs.2⟩,fun h2=>?_,fun h2=>⟨⟨i.1+1,by omega,?_⟩,by simp only;omega,by rw[bF (by omega) (by omega)];rfl⟩⟩
  ·unfold okL
   rw[tY.mpr ⟨x.getD i.1 bV,jY hi,h2⟩];rfl
  ·rw[mM (d:=bV) hi,i.2.2,h2];rfl
 ·have h3:=i.2.2
  rw[jG (by omega)] at h3
  unfold okL;rw[h3];rfl
def dV (a:MR):Prop:=a.length<=1000000/\∀ r ∈ a,jO r
theorem b0z (a:MR):bW a=bif (decide (a.length<1) || decide (a.length > 64) || decide (wdM a<1) || decide (wdM a > 64) || a.any (badR (wdM a))) then 1 else 0:=by
 unfold bW
 by_cases h1:a.length<1
 ·rw[dw (by omega),jw h1];rfl
 ·by_cases h2:a.length > 64
  ·rw[dw (by omega),jw h2];simp
  ·by_cases h3:wdM a<1
   ·rw[dw (by omega),jw h3];simp
   ·by_cases h4:wdM a > 64
    ·rw[dw (by omega),jw h4];simp
    ·rw[jq h1,jq h2,jq h3,jq h4]
     cases h5:a.any (badR (wdM a))
     ·rw[eY ⟨by omega,by omega,by omega,by omega,rfl⟩];rfl
     ·rw[dw (fun h=>Bool.noConfusion h.2.2.2.2)];rfl
def c2w:Ctr:=⟨[tMR],[tI],fun x=>dV x.1,fun x=>(bW x.1,())⟩
theorem a3X:aY Tryz.prog 25 c2w:=by
 refine bH (nil0.ad IJ) ⟨[],[],[]⟩ Tryz.func25 rfl (by decide) (fun x=>[.inv {k:Nat // k<=(show MR from x.1).length/\((show MR from x.1).take k).any (badR (wdM (show MR from x.1)))=false} (fun k=>[(3,.val tI (k.1:Int))]) (fun k=>[]) (fun k=>(show MR from x.1).length-k.1) ⟨0,by omega,rfl⟩ (fun _=>[])]) (fun x hp=>?_)
 obtain⟨a,u⟩:=x
 change List (List aF) at a
 refine bP (let A₂:=(List.getD a 0 (aC aF)).length;let aV:=(aA a.length > 64);let A₀:=(bif bif decide (aA a.length<1) then true else decide aV then true else decide (aA A₂<1));let A₁:=(bif decide (aA a.length<1) then true else decide aV);(((decide (aA a.length<1)==false)=true->(decide (aA a.length<1)==false)=true/\True)/\((decide (aA a.length<1)==false)=true->(decide (aA a.length<1)==false)=true/\True)/\(decide (aA a.length<1)=false->(decide (aA a.length<1)==false)=true)/\((A₁==false)=true->(A₁==false)=true/\asT Int 0<=0/\0<aA a.length/\True)/\((A₁==false)=true->(A₁==false)=true/\True)/\((A₁==false)=true->(A₁==false)=true/\True)/\((A₁==false)=true->(A₁==false)=true/\True)/\(A₁=false->(A₁==false)=true)/\((A₀==false)=true->(A₀==false)=true/\asT Int 0<=0/\0<aA a.length/\True)/\((A₀==false)=true->(A₀==false)=true/\True)/\((A₀==false)=true->(A₀==false)=true/\True)/\((A₀==false)=true->(A₀==false)=true/\True)/\(A₀=false->(A₀==false)=true)/\True)/\ifB (bif bif bif decide (aA a.length<1) then true else decide aV then true else decide (aA A₂<1) then true else decide (aA A₂ > 64)) (True/\1=bW a/\True) ((asT Int 0=0/\True)/\∀ (i:{ k:Nat // k<=List.length a/\List.any (List.take k a) (badR (wdM a))=false }),let dB:=(List.getD a (aA (aB i)).toNat (aC aF));let aP:=dB.length;asT Bool true=true/\ifB (decide (aA (aB i)<aA a.length)) ((0<=aA (aB i)/\aA (aB i)<aA a.length/\asT Int 0<=0/\0<aA a.length/\(((aA aP != aA A₂)==false)=true->((aA aP != aA A₂)==false)=true/\((aA aP != aA A₂)==false)=true/\0<=aA (aB i)/\aA (aB i)<aA a.length/\True)/\(((aA aP != aA A₂)==false)=true->((aA aP != aA A₂)==false)=true/\True)/\(((aA aP != aA A₂)==false)=true->((aA aP != aA A₂)==false)=true/\jO dB/\True)/\(((aA aP != aA A₂)==false)=true->((aA aP != aA A₂)==false)=true/\True)/\((aA aP != aA A₂)=false->((aA aP != aA A₂)==false)=true)/\True)/\ifB (bif aA aP != aA A₂ then true else !okL dB) (True/\1=bW a/\True) (∃ (i':{ k:Nat // k<=List.length a/\List.any (List.take k a) (badR (wdM a))=false }),List.length a-aB i'<List.length a-aB i/\IntKind.wrap IntKind.i64 (aA (aB i)+1)=aA (aB i')/\True)) (True/\0=bW a/\True))) (by kernel_rfl) ?_
 have hZ:(⟨false,0,[],[]⟩:aF)=bV:=rfl
 dsimp only[aA,asT,aB,aC,Ty.den,Lf.den] at *
 simp only[hZ,Int.toNat_natCast,aJ,dh,bn,mg,mW,aH,nameAt,aX,aN,aZ,rowAt,iw,gJ]
 have hp:dV a:=hp
 obtain⟨hl,hb⟩:=hp
 have eL:∀ n:Nat,decide ((n:Int)<1)=decide (n<1):=fun n=>yj.mpr (by omega)
 have eG:∀ n:Nat,decide ((n:Int) > 64)=decide (n > 64):=fun n=>yj.mpr (by omega)
 have f0:¬ (a.length:Int)<1↔decide (a.length<1)=false:=by rw[bn];omega
 have f1:decide (a.length<1)=false->0<(a.length:Int):=fun h=>by have:=zy h;omega
 have f2:=b0z a
 simp only[eL,eG,f0]
 have hw:(a.getD 0 []).length=wdM a:=rfl
 rw[hw]
 generalize decide (a.length<1)=b1 at *
 generalize decide (a.length > 64)=b2 at *
 generalize decide (wdM a<1)=b3 at *
 generalize decide (wdM a > 64)=b4 at *
 refine⟨?_,fun h=>?_,fun h i=>?_⟩
 ·clear f0 f2;revert f1;cases b1<;>cases b2<;>cases b3<;>simp
 ·have h9:(b1 || b2 || b3 || b4)=true:=by revert h;cases b1<;>cases b2<;>cases b3<;>cases b4<;>simp
  rw[f2,h9];rfl
 ·have h9:(b1 || b2 || b3 || b4)=false/\b1=false:=by revert h;cases b1<;>cases b2<;>cases b3<;>cases b4<;>simp
  rw[h9.1,Bool.false_or] at f2
  have f1:=f1 h9.2
  refine⟨fun h1=>?_,fun h1=>?_⟩
  ·have hi:i.1<a.length:=by omega
   have hs:jO (a.getD i.1 []):=fA hb hi
   rw[a3u]
   have hbad:(bif !((a.getD i.1 []).length==wdM a) then true else !okL (a.getD i.1 []))=badR (wdM a) (a.getD i.1 []):=by
    unfold badR okL;cases (a.getD i.1 []).length==wdM a<;>simp
   rw[hbad]
   refine⟨⟨by omega,h1,qh 0,f1,fun h=>⟨h,h,by omega,h1⟩,fun h=>h,fun h=>⟨h,hs⟩,fun h=>h,fun h=>by rw[h];rfl⟩,fun h2=>?_,fun h2=>⟨⟨i.1+1,by omega,?_⟩,by simp only;omega,by rw[bF (by omega) (by omega)];rfl⟩⟩
   ·rw[f2,tY.mpr ⟨a.getD i.1 [],jY hi,h2⟩];rfl
   ·rw[mM (d:=[]) hi,i.2.2,h2];rfl
  ·have h3:=i.2.2
   rw[jG (by omega)] at h3
   rw[f2,h3];rfl
def c4J:Ctr:=⟨[.list tQ,.list tQ],[tB],fun x=>szL x.1/\szL x.2.1,fun x=>(decide ((show LQ' from x.1)=(show LQ' from x.2.1)),())⟩
theorem XJ:aY Tryz.prog 23 c4J:=by
 refine bH (nil0.ad c1C) ⟨[],[],[]⟩ Tryz.func23 rfl (by decide) (fun x=>[.inv {k:Nat // k<=(show LQ' from x.1).length/\(show LQ' from x.1).take k=(show LQ' from x.2.1).take k} (fun k=>[(5,.val tI (k.1:Int))]) (fun k=>[]) (fun k=>(show LQ' from x.1).length-k.1) ⟨0,by omega,rfl⟩ (fun _=>[])]) (fun x hp=>?_)
 obtain⟨x,y,u⟩:=x
 change List Rat at x
 change List Rat at y
 refine bP (ifB (aA x.length != aA y.length) (True/\false=decide (x=y)/\True) ((asT Int 0=0/\True)/\∀ (i:{ k:Nat // k<=List.length x/\List.take k x=List.take k y }),asT Bool true=true/\ifB (decide (aA (aB i)<aA x.length)) ((0<=aA (aB i)/\aA (aB i)<aA x.length/\0<=aA (aB i)/\aA (aB i)<aA y.length/\s19 (List.getD x (aA (aB i)).toNat 0) (List.getD y (aA (aB i)).toNat 0)/\True)/\ifB (!decide (List.getD x (aA (aB i)).toNat 0=List.getD y (aA (aB i)).toNat 0)) (True/\false=decide (x=y)/\True) (∃ (i':{ k:Nat // k<=List.length x/\List.take k x=List.take k y }),List.length x-aB i'<List.length x-aB i/\IntKind.wrap IntKind.i64 (aA (aB i)+1)=aA (aB i')/\True)) (True/\true=decide (x=y)/\True))) (by kernel_rfl) ?_
 have hZ:(⟨false,0,[],[]⟩:aF)=bV:=rfl
 dsimp only[aA,asT,aB,aC,Ty.den,Lf.den] at *
 simp only[hZ,Int.toNat_natCast,aJ,dh,bn,mg,mW,aH,nameAt,aX,aN,aZ,rowAt,iw,gJ]
 have hp:szL x/\szL y:=hp
 obtain⟨⟨q1,q2⟩,q3,q4⟩:=hp
 refine⟨fun h=>?_,fun h i=>⟨fun h1=>?_,fun h1=>?_⟩⟩
 ·have h:(x.length:Int)≠y.length:=by simpa using h
  exact(jq (fun e=>h (by rw[e]))).symm
 ·have hl:x.length=y.length:=by
   have:(x.length:Int)=y.length:=by simpa using h
   omega
  have hi:i.1<x.length:=by omega
  have z1:rsz (x.getD i.1 0)<=100000000:=fA q2 hi
  have z2:rsz (y.getD i.1 0)<=100000000:=fA q4 (by omega)
  refine⟨⟨by omega,by omega,by omega,by omega,⟨by omega,by omega⟩⟩,fun h2=>?_,fun h2=>⟨⟨i.1+1,by omega,?_⟩,by simp only;omega,by rw[bF (by omega) (by omega)];rfl⟩⟩
  ·have h2:x.getD i.1 0≠y.getD i.1 0:=by simpa using h2
   exact(jq (fun e=>h2 (rD (fun l=>l.getD i.1 0) e))).symm
  ·have h2:x.getD i.1 0=y.getD i.1 0:=by simpa using h2
   exact XQ hi (by omega) i.2.2 h2
 ·have hl:x.length=y.length:=by
   have:(x.length:Int)=y.length:=by simpa using h
   omega
  have h3:=i.2.2
  rw[jG (by omega),jG (by omega)] at h3
  exact(jw h3).symm
def oP (a:MQ):Prop:=a.length<=1000/\∀ r ∈ a,szL r
def c4K:Ctr:=⟨[tM,tM],[tB],fun x=>oP x.1/\oP x.2.1,fun x=>(decide ((show MQ from x.1)=(show MQ from x.2.1)),())⟩
theorem FN:aY Tryz.prog 15 c4K:=by
 refine bH (nil0.ad XJ) ⟨[],[],[]⟩ Tryz.func15 rfl (by decide) (fun x=>[.inv {k:Nat // k<=(show MQ from x.1).length/\(show MQ from x.1).take k=(show MQ from x.2.1).take k} (fun k=>[(5,.val tI (k.1:Int))]) (fun k=>[]) (fun k=>(show MQ from x.1).length-k.1) ⟨0,by omega,rfl⟩ (fun _=>[])]) (fun x hp=>?_)
 obtain⟨x,y,u⟩:=x
 change List (List Rat) at x
 change List (List Rat) at y
 refine bP (ifB (aA x.length != aA y.length) (True/\false=decide (x=y)/\True) ((asT Int 0=0/\True)/\∀ (i:{ k:Nat // k<=List.length x/\List.take k x=List.take k y }),asT Bool true=true/\ifB (decide (aA (aB i)<aA x.length)) ((0<=aA (aB i)/\aA (aB i)<aA x.length/\0<=aA (aB i)/\aA (aB i)<aA y.length/\(szL (List.getD x (aA (aB i)).toNat (aC Rat))/\szL (List.getD y (aA (aB i)).toNat (aC Rat)))/\True)/\ifB (!decide (List.getD x (aA (aB i)).toNat (aC Rat)=List.getD y (aA (aB i)).toNat (aC Rat))) (True/\false=decide (x=y)/\True) (∃ (i':{ k:Nat // k<=List.length x/\List.take k x=List.take k y }),List.length x-aB i'<List.length x-aB i/\IntKind.wrap IntKind.i64 (aA (aB i)+1)=aA (aB i')/\True)) (True/\true=decide (x=y)/\True))) (by kernel_rfl) ?_
 have hZ:(⟨false,0,[],[]⟩:aF)=bV:=rfl
 dsimp only[aA,asT,aB,aC,Ty.den,Lf.den] at *
 simp only[hZ,Int.toNat_natCast,aJ,dh,bn,mg,mW,aH,nameAt,aX,aN,aZ,rowAt,iw,gJ]
 have hp:oP x/\oP y:=hp
 obtain⟨⟨q1,q2⟩,q3,q4⟩:=hp
 refine⟨fun h=>?_,fun h i=>⟨fun h1=>?_,fun h1=>?_⟩⟩
 ·have h:(x.length:Int)≠y.length:=by simpa using h
  exact(jq (fun e=>h (by rw[e]))).symm
 ·have hl:x.length=y.length:=by
   have:(x.length:Int)=y.length:=by simpa using h
   omega
  have hi:i.1<x.length:=by omega
  skip
  refine⟨⟨by omega,by omega,by omega,by omega,fA q2 hi,fA q4 (by omega)⟩,fun h2=>?_,fun h2=>⟨⟨i.1+1,by omega,?_⟩,by simp only;omega,by rw[bF (by omega) (by omega)];rfl⟩⟩
  ·have h2:x.getD i.1 []≠y.getD i.1 []:=by simpa using h2
   exact(jq (fun e=>h2 (rD (fun l=>l.getD i.1 []) e))).symm
  ·have h2:x.getD i.1 []=y.getD i.1 []:=by simpa using h2
   exact XQ hi (by omega) i.2.2 h2
 ·have hl:x.length=y.length:=by
   have:(x.length:Int)=y.length:=by simpa using h
   omega
  have h3:=i.2.2
  rw[jG (by omega),jG (by omega)] at h3
  exact(jw h3).symm
theorem XK:aY Tryz.prog 55 (cIQ gZ (fun i=>(i:Rat))):=by
 refine bH (nil0.ad a2y) ⟨[2],[],[]⟩ Tryz.func55 rfl (by decide) (fun x=>[]) (fun x hp=>?_)
 obtain⟨n,u⟩:=x
 change Int at n
 refine bP ((gZ n/\True)/\True/\dD n=dD n/\True) (by kernel_rfl) ?_
 have hZ:(⟨false,0,[],[]⟩:aF)=bV:=rfl
 dsimp only[aA,asT,aB,aC,Ty.den,Lf.den] at *
 simp only[hZ,Int.toNat_natCast,aJ,dh,bn,mg,mW,aH,nameAt,aX,aN,aZ,rowAt,iw,gJ]
 exact hp
abbrev LKq:LK:=.mat 32 64 tQ
def a9U (n:Nat):List Rat:=List.replicate n 0
def CW (R C:Nat):MQ:=tab R C fun _ _=>0
def c5r:DF:=.mk LKq [tI,tI] (fun x=>0<=(show Int from x.1)/\(show Int from x.1)<=1000/\0<=(show Int from x.2.1)/\(show Int from x.2.1)<=1000) (fun x=>CW (show Int from x.1).toNat (show Int from x.2.1).toNat)
theorem a2h:NOk Tryz.prog 41 c5r:=by
 refine sK (nil0.ad XK) ⟨[],[],[(9,tQ),(27,tQ)]⟩ Tryz.func41 rfl (by decide) (fun x=>[.inv {k:Nat // k<=(show Int from x.1).toNat} (fun k=>[(6,.val tI (k.1:Int)),(5,.own 9 0),(9,.any),(28,.any)]) (fun k=>[(9,.mat 32 64 tQ none (CW k.1 (show Int from x.2.1).toNat) 0)]) (fun k=>(show Int from x.1).toNat-k.1) ⟨0,by omega⟩ (fun k=>[.inv {q:Nat // q<=(show Int from x.2.1).toNat} (fun q=>[(8,.val tI (q.1:Int)),(7,.own 15 0),(15,.any),(24,.any)]) (fun q=>[(9,.mat 32 64 tQ none (CW k.1 (show Int from x.2.1).toNat) 0),(15,.row 64 tQ (a9U q.1) 0)]) (fun q=>(show Int from x.2.1).toNat-q.1) ⟨0,by omega⟩ (fun _=>[])])]) (fun x hp=>?_)
 obtain⟨m,n,u⟩:=x
 change Int at m
 change Int at n
 refine bP ((asT Int 0=0/\asT (List (List Rat)) (aC (List Rat))=aC (List Rat)/\True)/\∀ (i:{ k:Nat // k<=Int.toNat m }),asT Bool true=true/\ifB (decide (aA (aB i)<m)) ((asT Int 0=0/\CW (aB i) n.toNat=CW (aB i) n.toNat/\asT (List Rat) (aC Rat)=aC Rat/\True)/\∀ (i_1:{ q:Nat // q<=Int.toNat n }),asT Bool true=true/\ifB (decide (aA (aB i_1)<n)) ((gZ 0/\List.length (a9U (aB i_1))+List.length (dD 0::aC Rat)<=1000000000/\True)/\∃ (i':{ q:Nat // q<=Int.toNat n }),Int.toNat n-aB i'<Int.toNat n-aB i_1/\IntKind.wrap IntKind.i64 (aA (aB i_1)+1)=aA (aB i')/\CW (aB i) n.toNat=CW (aB i) n.toNat/\a9U (aB i_1)++dD 0::aC Rat=a9U (aB i')/\True) ((aH none (CW (aB i) n.toNat)+1<=1000000000/\True)/\∃ (i':{ k:Nat // k<=Int.toNat m }),Int.toNat m-aB i'<Int.toNat m-aB i/\IntKind.wrap IntKind.i64 (aA (aB i)+1)=aA (aB i')/\CW (aB i) n.toNat++a9U (aB i_1)::aC (List Rat)=CW (aB i') n.toNat/\True)) (CW m.toNat n.toNat=CW (aB i) n.toNat)) (by kernel_rfl) ?_
 have hZ:(⟨false,0,[],[]⟩:aF)=bV:=rfl
 dsimp only[aA,asT,aB,aC,Ty.den,Lf.den] at *
 simp only[hZ,Int.toNat_natCast,aJ,dh,bn,mg,mW,aH,nameAt,aX,aN,aZ,rowAt,iw,gJ]
 have hp:0<=m/\m<=1000/\0<=n/\n<=1000:=hp
 obtain⟨m0,m1,n0,n1⟩:=hp
 refine fun i=>⟨fun h1 q=>⟨fun h2=>⟨⟨by unfold gZ;omega,by simp[a9U];have:=q.2;omega⟩,⟨q.1+1,by omega⟩,by simp only;omega,by rw[bF (by omega) (by omega)];rfl,?_⟩,fun h2=>⟨by show (CW _ _).length+1<=_;unfold CW;rw[aZ];have:=i.2;omega,⟨i.1+1,by omega⟩,by simp only;omega,by rw[bF (by omega) (by omega)];rfl,?_⟩⟩,fun h1=>?_⟩
 ·show List.replicate q.1 0++[((0:Int):Rat)]=List.replicate (q.1+1) 0
  rw[List.replicate_succ'];rfl
 ·have hq:q.1=n.toNat:=by have:=q.2;omega
  rw[hq]
  show tab i.1 n.toNat (fun _ _=>0)++[List.replicate n.toNat 0]=tab (i.1+1) n.toNat (fun _ _=>0)
  unfold tab
  rw[Ae]
  simp
  apply yw<;>simp
 ·have hi:i.1=m.toNat:=by have:=i.2;omega
  rw[hi]
def c3E:DF:=.mk LKq [tM] (fun x=>(show MQ from x.1).length<=1000/\∀ r ∈ (show MQ from x.1),r.length<=1000) (fun x=>x.1)
theorem a7S:NOk Tryz.prog 64 c3E:=by
 refine sK nil0 ⟨[],[],[(5,tQ),(19,tQ)]⟩ Tryz.func64 rfl (by decide) (fun x=>[.inv {k:Nat // k<=(show MQ from x.1).length} (fun k=>[(4,.val tI (k.1:Int)),(3,.own 5 0),(5,.any),(20,.any)]) (fun k=>[(5,.mat 32 64 tQ none ((show MQ from x.1).take k.1) 0)]) (fun k=>(show MQ from x.1).length-k.1) ⟨0,by omega⟩ (fun _=>[])]) (fun x hp=>?_)
 obtain⟨a,u⟩:=x
 change List (List Rat) at a
 refine bP ((asT Int 0=0/\asT (List (List Rat)) (aC (List Rat))=aC (List Rat)/\True)/\∀ (i:{ k:Nat // k<=List.length a }),asT Bool true=true/\ifB (decide (aA (aB i)<aA a.length)) ((0<=aA (aB i)/\aA (aB i)<aA a.length/\List.length (aC Rat)+List.length (List.getD a (aA (aB i)).toNat (aC Rat))<=1000000000/\aH none (List.take (aB i) a)+1<=1000000000/\True)/\∃ (i':{ k:Nat // k<=List.length a }),List.length a-aB i'<List.length a-aB i/\IntKind.wrap IntKind.i64 (aA (aB i)+1)=aA (aB i')/\List.take (aB i) a++(aC Rat++List.getD a (aA (aB i)).toNat (aC Rat))::aC (List Rat)=List.take (aB i') a/\True) (a=List.take (aB i) a)) (by kernel_rfl) ?_
 have hZ:(⟨false,0,[],[]⟩:aF)=bV:=rfl
 dsimp only[aA,asT,aB,aC,Ty.den,Lf.den] at *
 simp only[hZ,Int.toNat_natCast,aJ,dh,bn,mg,mW,aH,nameAt,aX,aN,aZ,rowAt,iw,gJ]
 have hp:a.length<=1000/\∀ r ∈ a,r.length<=1000:=hp
 obtain⟨h1,h2⟩:=hp
 refine fun i=>⟨fun h3=>?_,fun h3=>?_⟩
 ·have hi:i.1<a.length:=by omega
  have hr:(a.getD i.1 []).length<=1000:=fA h2 hi
  refine⟨⟨by omega,by omega,by show 0+(a.getD i.1 []).length<=_;omega,by rw[jg];omega⟩,⟨i.1+1,by omega⟩,by simp only;omega,by rw[bF (by omega) (by omega)];rfl,?_⟩
  rw[Ak,ay,dn hi];simp
 ·rw[jG (by omega)]
end Go.Proofs.YtgplhbhfdgempaaGreat
