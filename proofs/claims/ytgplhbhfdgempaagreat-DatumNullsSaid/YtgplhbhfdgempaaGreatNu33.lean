/-
  Lemmas for the theorem vnulls_holds, part 33 of 36.
-/
import Derived.Test.YtgplhbhfdgempaaGreatNu23
import Derived.Test.YtgplhbhfdgempaaGreatNu31
import Derived.Test.YtgplhbhfdgempaaGreatNu32
namespace Go.Proofs.YtgplhbhfdgempaaGreat
open Go Go.RowKit
set_option maxRecDepth 100000
set_option maxHeartbeats 1000000
set_option linter.unusedVariables false
set_option linter.unusedSimpArgs false
theorem wdF {α:Type} (a:List (List α)):(List.getD a 0 []).length=wdM a:=rfl
theorem rQ (a:MR) (r c:Nat):(qW a (r:Int) (c:Int)=true)↔a.length=r/\wdM a=c:=by
 unfold qW;rw[Bool.and_eq_true,beq_iff_eq,beq_iff_eq];omega
theorem uY (a:MR) (r c:Nat):(qW a (r:Int) (c:Int)=false)↔¬ (a.length=r/\wdM a=c):=by
 rw[<-rQ,Bool.not_eq_true]
def smL (K:Nat) (l:LR):Prop:=rG l/\(okR l=true->∀ q ∈ l,rsz q.x<=K)
theorem a9r {g b:MQ} (h:(AB g b).2.1=false):yP (bgM g b)=false:=by
 cases e:yP (bgM g b)
 ·rfl
 ·unfold AB at h;rw[e,if_pos rfl] at h;cases h
theorem a9s {g b:MQ} (h:(AB g b).2.1=true):yP (bgM g b)=true/\AB g b=(sM g b,true,()):=by
 cases e:yP (bgM g b)
 ·unfold AB at h;rw[e,if_neg (by decide)] at h;cases h
 ·exact⟨rfl,by unfold AB;rw[e];rfl⟩
theorem b7S {a:MQ} {b:LQ'} (h:¬ (xW a b).2.1=0):a2d a b=false:=by
 cases e:a2d a b
 ·rfl
 ·exfalso;apply h;unfold xW;rw[e];rfl
theorem b7T {a:MQ} {b:LQ'} (h:(xW a b).2.1=0):a2d a b=true/\xW a b=(a0e a b,0,()):=by
 cases e:a2d a b
 ·unfold xW at h;rw[e,if_neg (by decide)] at h;exact absurd h (by decide)
 ·exact⟨rfl,by unfold xW;rw[e];rfl⟩
theorem a5g {g b:MR} (G:smK 100 g) (B:smK 100 b) (hg:fP g=0) (hb:fP b=0) (h1:b.length=g.length) (h2:wdM b=wdM g):ZK (mq g) (mq b):=by
 obtain⟨g1,g7,w7,gC⟩:=G.at hg
 obtain⟨b1,b7,v7,bC⟩:=B.at hb
 unfold ZK
 rw[pV,WA]
 rw[h1,h2] at b1
 exact⟨g1,b1,g7,w7,gC,bC⟩
theorem a4x {n g:MR} {K:Nat} (A:smK 100 n) (G:smK K g) (hK:K<=13000) (hn:fP n=0) (hg:fP g=0) (h1:n.length=wdM n) (h2:g.length=n.length):a5X (mq n) (mq g):=by
 obtain⟨n1,n7,w7,nC⟩:=A.at hn
 obtain⟨g1,g7,v7,gC⟩:=G.at hg
 exact⟨zY n1 w7 nC (by omega),zY g1 v7 gC (by omega),by rw[WA,pV,h1],by rw[pV,pV,h2],nC.sz (by omega),gC.sz (by omega)⟩
theorem three {a b c:MR} (ha:iF a) (hb:iF b) (hc:iF c):∀ x ∈ [a,b,c],iF x:=fun x h=>by
 rcases List.mem_cons.mp h with rfl|h
 ·exact ha
 ·rcases List.mem_cons.mp h with rfl|h
  ·exact hb
  ·rw[List.mem_singleton.mp h];exact hc
theorem two {a b:MR} (ha:iF a) (hb:iF b):∀ x ∈ [a,b],iF x:=fun x h=>by
 rcases List.mem_cons.mp h with rfl|h
 ·exact ha
 ·rw[List.mem_singleton.mp h];exact hb
theorem b2c {l:LR}:okR l=true↔∀ q ∈ l,q.ok=true:=by
 unfold okR
 rw[Bool.not_eq_true',List.any_eq_false]
 exact⟨fun h q hq=>by have:=h q hq;simpa using this,fun h q hq=>by rw[h q hq];decide⟩
theorem b3C {l:LR} (h:okR l=true):dO (fun q:aF=>aV [q.ok=true]) l:=jS.mpr fun q hq=>⟨b2c.mp h q hq,trivial⟩
theorem smL.q {K:Nat} {l:LR} (H:smL K l) (h:okR l=true):∀ q ∈ lq l,rsz q<=K:=fun q hq=>by
 obtain⟨y,hy,rfl⟩:=List.mem_map.mp hq
 exact H.2 h y hy
theorem b3v {n:MQ} {r:LQ'} {N:Nat} (hn:isM n N N) (H:CdM n 100) (h7:N<=7) (hr:r.length=N) (hs:∀ q ∈ r,rsz q<=1):Cd (jV (wdM n) (ent n) (fun i _=>lv r i)) N (N+1) 116:=by
 have H2:Cd (ent n) N N 100:=by have:=H;unfold CdM at this;rwa [hn.len,hn.wd] at this
 have G:Cd (fun i _=>lv r i) N 1 (N*(1+1)+2):=Cd.of fun i hi j _=>hs _ (by unfold lv;rw[List.getD_eq_getElem?_getD,List.getElem?_eq_getElem (by omega)];exact List.getElem_mem _)
 rw[hn.wd]
 exact(Cd.bes H2 G).mono (by omega)
theorem b2D {n:MQ} {r:LQ'} {N:Nat} (hn:isM n N N) (H:CdM n 100) (h7:N<=7) (hr:r.length=N) (hs:∀ q ∈ r,rsz q<=1):∀ q ∈ a0e n r,rsz q<=20000:=fun q hq=>by
 have C:=b3v hn H h7 hr hs
 obtain⟨c,_,rfl⟩:=List.mem_map.mp hq
 have E:=a2e n r
 have h3:2 ^ N*(116+1)<=128*117:=Nat.mul_le_mul (a3s h7) (Nat.le_refl _)
 unfold xs
 split
 ·next h =>
  have h4:=List.idxOf_lt_length_of_mem h
  have h5:=E.le
  have h6:=hn.len
  have:=(C.red N (by omega)).rsz (i:=(gJ n r).2.idxOf c) (j:=N) (by omega) (by omega)
  unfold gJ at this ⊢
  rw[hn.len,hn.wd] at *
  omega
 ·exact Nat.le_trans (show rsz 0<=1 by decide +kernel) (by omega)
def a6m (n g:MQ):MQ:=NK n (mulM g (trM g))
theorem a1y {n g:MQ} {N c:Nat} (hn:isM n N N):isM (a6m n g) N N:=hn.add
theorem b1V {n g:MQ} {N c:Nat} (hn:isM n N N) (hg:isM g N c) (h7:c<=7) (H:CdM n 100) (G:CdM g 100):CdM (a6m n g) 310:=by
 have h1:=hg.trp
 have h2:=G.trp hg
 have h3:=hg.mul h1
 have h4:=G.mul h2 hg h1
 exact(H.add h4 hn h3).mono (by omega)
theorem a9b {n g:MQ} {N c:Nat} (hn:isM n N N) (hg:isM g N c) (hG:wX n g=true):yP (a6m n g)=true:=by
 have HG:=(a0W hn hg).mp hG
 rw[a9E (a1y (c:=c) hn)]
 intro x h
 refine HG.regular fun i hi=>?_
 rw[<-h i hi]
 refine a3i fun j hj=>?_
 unfold a6m
 rw[hn.c0n hi hj,hg.b4A hg.trp hi hj]
 show ent n i j+mm c (ent g) (tr (ent g)) i j=_
 congr 1
 exact GY (fun _ _=>rfl) fun k hk=>(hg.b2O hk hj).symm
theorem b4m {a:MQ} (h:yP a=true):rE a=(xA a,0,()):=by unfold rE;rw[h];rfl
def b7R (n g b:MR) (r:LR):Prop:=smK 100 n/\smK 100 g/\smK 100 b/\smL 1 r
def rH (n g b:MR) (r:LR):LQ' × Int × Unit :=
 if (fP n=0/\fP g=0/\fP b=0)/\okR r=true then
  if ((n.length=wdM n/\g.length=n.length)/\b.length=n.length/\wdM b=wdM g)/\r.length=n.length then
   if wX (mq n) (mq g)=true then
    if yP (bgM (mq g) (mq b))=true then
     if a2d (mq n) (lq r)=true then (mvL (sM (mq g) (mq b)) (a0e (mq n) (lq r)),0,()) else ([],6,())
    else ([],14,())
   else ([],12,())
  else ([],4,())
 else ([],1,())
def b2Y:Ctr:=⟨[tMR,.pair tMR .unit,tMR,.list tR],[.list tQ,tI],fun x=>b7R x.1 x.2.1.1 x.2.2.1 x.2.2.2.1,fun x=>rH x.1 x.2.1.1 x.2.2.1 x.2.2.2.1⟩
theorem a0F:aT Tryz.prog 20 b2Y:=by
 refine bT (((((((nil0.ad a7m).ad b0k).ad FQ).ad a7O).ad VA).ad PZ).ad a0E) ⟨[],[],[]⟩ Tryz.func20 rfl (by decide) (fun x=>[]) (fun x hp=>?_)
 obtain⟨n,g,b,r,u⟩:=x
 change List (List aF) at n
 change List (List aF) × Unit at g
 change List (List aF) at b
 change List aF at r
 refine bZ (let A₀:=(asT (List (List aF)) (Prod.fst g));let A₂:=(List.length (List.getD n 0 (aC aF)));let dU:=(aA (List.length (List.getD A₀ 0 (aC aF))));let jE:=(List.map (fun(x:Ty.den (Ty.lf Lf.dD))=>aF.x x) r);let iU:=(Ty.list (Ty.lf Lf.dD));let A₁:=(List.map (fun(xs:Ty.den iU)=>List.map (fun(x:Ty.den (Ty.lf Lf.dD))=>aF.x x) xs) n);let eH:=(List.map (fun(xs:Ty.den iU)=>List.map (fun(x:Ty.den (Ty.lf Lf.dD))=>aF.x x) xs) A₀);let iQ:=(aA (List.length n));let jP:=(Prod.snd (rH n A₀ b r));let qY:=(List.map (fun(xs:Ty.den iU)=>List.map (fun(x:Ty.den (Ty.lf Lf.dD))=>aF.x x) xs) b);let bJ:=(AB eH qY);((List.length (n::asT (List (List aF)) (Prod.fst g)::b::aC (List (List aF)))<=1000000/\∀ (a:List (List aF)),a ∈ n::asT (List (List aF)) (Prod.fst g)::b::aC (List (List aF))->iF a)/\(((!fA (n::asT (List (List aF)) (Prod.fst g)::b::aC (List (List aF)))==0)==false)=true->((!fA (n::asT (List (List aF)) (Prod.fst g)::b::aC (List (List aF)))==0)==false)=true/\rG r/\True)/\(((!fA (n::asT (List (List aF)) (Prod.fst g)::b::aC (List (List aF)))==0)==false)=true->((!fA (n::asT (List (List aF)) (Prod.fst g)::b::aC (List (List aF)))==0)==false)=true/\True)/\((!fA (n::asT (List (List aF)) (Prod.fst g)::b::aC (List (List aF)))==0)=false->((!fA (n::asT (List (List aF)) (Prod.fst g)::b::aC (List (List aF)))==0)==false)=true)/\True)/\ifB (bif !fA (n::asT (List (List aF)) (Prod.fst g)::b::aC (List (List aF)))==0 then true else !okR r) (True/\aC Rat=Prod.fst (rH n A₀ b r)/\True/\1=Prod.fst jP/\True) ((asT Int 0<=0/\0<aA (List.length n)/\(((aA (List.length n) != aA A₂)==false)=true->((aA (List.length n) != aA A₂)==false)=true/\True)/\(((aA (List.length n) != aA A₂)==false)=true->((aA (List.length n) != aA A₂)==false)=true/\True)/\(((aA (List.length n) != aA A₂)==false)=true->((aA (List.length n) != aA A₂)==false)=true/\True)/\(((aA (List.length n) != aA A₂)==false)=true->((aA (List.length n) != aA A₂)==false)=true/\((aA (List.length n) != aA A₂)==false)=true/\True)/\((aA (List.length n) != aA A₂)=false->((aA (List.length n) != aA A₂)==false)=true)/\(((bif aA (List.length n) != aA A₂ then true else aA (List.length A₀) != aA (List.length n))==false)=true->((bif aA (List.length n) != aA A₂ then true else aA (List.length A₀) != aA (List.length n))==false)=true/\True)/\(((bif aA (List.length n) != aA A₂ then true else aA (List.length A₀) != aA (List.length n))==false)=true->((bif aA (List.length n) != aA A₂ then true else aA (List.length A₀) != aA (List.length n))==false)=true/\True)/\(((bif aA (List.length n) != aA A₂ then true else aA (List.length A₀) != aA (List.length n))==false)=true->((bif aA (List.length n) != aA A₂ then true else aA (List.length A₀) != aA (List.length n))==false)=true/\asT Int 0<=0/\0<aA (List.length A₀)/\True)/\(((bif aA (List.length n) != aA A₂ then true else aA (List.length A₀) != aA (List.length n))==false)=true->((bif aA (List.length n) != aA A₂ then true else aA (List.length A₀) != aA (List.length n))==false)=true/\True)/\(((bif aA (List.length n) != aA A₂ then true else aA (List.length A₀) != aA (List.length n))==false)=true->((bif aA (List.length n) != aA A₂ then true else aA (List.length A₀) != aA (List.length n))==false)=true/\True)/\(((bif aA (List.length n) != aA A₂ then true else aA (List.length A₀) != aA (List.length n))==false)=true->((bif aA (List.length n) != aA A₂ then true else aA (List.length A₀) != aA (List.length n))==false)=true/\((bif aA (List.length n) != aA A₂ then true else aA (List.length A₀) != aA (List.length n))==false)=true/\((bif aA (List.length n) != aA A₂ then true else aA (List.length A₀) != aA (List.length n))==false)=true/\0<List.length b/\True)/\(((bif aA (List.length n) != aA A₂ then true else aA (List.length A₀) != aA (List.length n))==false)=true->((bif aA (List.length n) != aA A₂ then true else aA (List.length A₀) != aA (List.length n))==false)=true/\True)/\((bif aA (List.length n) != aA A₂ then true else aA (List.length A₀) != aA (List.length n))=false->((bif aA (List.length n) != aA A₂ then true else aA (List.length A₀) != aA (List.length n))==false)=true)/\(((bif bif aA (List.length n) != aA A₂ then true else aA (List.length A₀) != aA (List.length n) then true else !qW b iQ dU)==false)=true->((bif bif aA (List.length n) != aA A₂ then true else aA (List.length A₀) != aA (List.length n) then true else !qW b iQ dU)==false)=true/\True)/\(((bif bif aA (List.length n) != aA A₂ then true else aA (List.length A₀) != aA (List.length n) then true else !qW b iQ dU)==false)=true->((bif bif aA (List.length n) != aA A₂ then true else aA (List.length A₀) != aA (List.length n) then true else !qW b iQ dU)==false)=true/\True)/\(((bif bif aA (List.length n) != aA A₂ then true else aA (List.length A₀) != aA (List.length n) then true else !qW b iQ dU)==false)=true->((bif bif aA (List.length n) != aA A₂ then true else aA (List.length A₀) != aA (List.length n) then true else !qW b iQ dU)==false)=true/\((bif bif aA (List.length n) != aA A₂ then true else aA (List.length A₀) != aA (List.length n) then true else !qW b iQ dU)==false)=true/\True)/\((bif bif aA (List.length n) != aA A₂ then true else aA (List.length A₀) != aA (List.length n) then true else !qW b iQ dU)=false->((bif bif aA (List.length n) != aA A₂ then true else aA (List.length A₀) != aA (List.length n) then true else !qW b iQ dU)==false)=true)/\True)/\ifB (bif bif bif aA (List.length n) != aA A₂ then true else aA (List.length A₀) != aA (List.length n) then true else !qW b iQ dU then true else aA (List.length r) != aA (List.length n)) (True/\aC Rat=Prod.fst (rH n A₀ b r)/\True/\4=Prod.fst jP/\True) ((dO (fun(x:Ty.den iU)=>aV (dO (fun(x:Ty.den (Ty.lf Lf.dD))=>aV ((aF.ok x=true)::aC Prop)) x::aC Prop)) n/\dO (fun(x:Ty.den iU)=>aV (dO (fun(x:Ty.den (Ty.lf Lf.dD))=>aV ((aF.ok x=true)::aC Prop)) x::aC Prop)) A₀/\a5X A₁ eH/\True)/\ifB (!wX A₁ eH) (True/\aC Rat=Prod.fst (rH n A₀ b r)/\True/\12=Prod.fst jP/\True) ((dO (fun(x:Ty.den iU)=>aV (dO (fun(x:Ty.den (Ty.lf Lf.dD))=>aV ((aF.ok x=true)::aC Prop)) x::aC Prop)) A₀/\dO (fun(x:Ty.den iU)=>aV (dO (fun(x:Ty.den (Ty.lf Lf.dD))=>aV ((aF.ok x=true)::aC Prop)) x::aC Prop)) b/\ZK eH qY/\True)/\ifB (!Prod.fst (Prod.snd bJ)) (True/\aC Rat=Prod.fst (rH n A₀ b r)/\True/\14=Prod.fst jP/\True) ((dO (fun(x:Ty.den iU)=>aV (dO (fun(x:Ty.den (Ty.lf Lf.dD))=>aV ((aF.ok x=true)::aC Prop)) x::aC Prop)) n/\dO (fun(x:Ty.den (Ty.lf Lf.dD))=>aV ((aF.ok x=true)::aC Prop)) r/\(okM A₁/\wdM A₁<=63/\List.length jE=List.length A₁/\(∀ (q:Rat),q ∈ List.map (fun(x:Ty.den (Ty.lf Lf.dD))=>aF.x x) r->rsz q<=10000000)/\DI (List.length A₁) (wdM A₁+1) (jV (wdM A₁) (ent A₁) fun(i x:Nat)=>lv jE i) (wdM A₁))/\True)/\ifB (Prod.fst (Prod.snd (xW A₁ jE)) != 0) (True/\aC Rat=Prod.fst (rH n A₀ b r)/\True/\6=Prod.fst jP/\True) (((okM (Prod.fst bJ)/\szM (Prod.fst bJ) 1000000/\List.length (Prod.fst (xW A₁ jE))=wdM (Prod.fst bJ)/\∀ (q:Rat),q ∈ Prod.fst (xW A₁ jE)->rsz q<=1000000)/\True)/\True/\mvL (Prod.fst bJ) (Prod.fst (xW A₁ jE))=Prod.fst (rH n A₀ b r)/\True/\0=Prod.fst jP/\True)))))) (by kernel_rfl) ?_
 try simp only[bG,decide_eq_true_eq,decide_eq_false_iff_not]
 try dsimp only[Ty.den,Lf.den,asT] at *
 try simp only[NT,NS,trF,NU]
 have hZ:(⟨false,0,[],[]⟩:aF)=cZ:=rfl
 try dsimp only[aA,asT,aB,aC,Ty.den,Lf.den] at *
 try simp only[hZ,Int.toNat_natCast,bG,decide_eq_true_eq,decide_eq_false_iff_not,true_and,and_true,aH,nameAt,aW,aU,bK,rowAt,List.length_set,List.length_range]
 try simp only[rC,List.all_cons,List.all_nil,Bool.and_true,Bool.not_eq_true',Bool.not_eq_false',beq_iff_eq,bne_iff_ne,ne_eq,Bool.and_eq_true,Bool.and_eq_false_imp,beq_eq_false_iff_ne,bne_eq_false_iff_eq,Int.natCast_inj,imp_self,implies_true,and_self,true_and,and_true,mX,Bool.or_eq_true,Bool.or_eq_false_iff,List.length_cons,List.length_nil]
 try simp only[wdF,rQ,uY]
 have hp:b7R n g.1 b r:=hp
 obtain⟨g,u2⟩:=g
 obtain⟨pn,pg,pb,pr⟩:=hp
 dsimp only at pg ⊢
 refine⟨⟨⟨by omega,three pn.1 pg.1 pb.1⟩,fun h=>⟨h,pr.1⟩⟩,fun h=>?_,fun h=>?_⟩
 ·unfold rH;rw[if_neg (fun hh=>h.elim (fun h1=>h1 hh.1.1 hh.1.2.1 hh.1.2.2) (fun h1=>by rw[h1] at hh;exact absurd hh.2 (by decide)))];exact⟨rfl,rfl⟩
 ·have h0:=h
  obtain⟨⟨cn,cg,cb⟩,cr⟩:=h
  obtain⟨hn,n7,wn7,nC⟩:=pn.at cn
  obtain⟨hg,g7,wg7,gC⟩:=pg.at cg
  obtain⟨hb,b7,wb7,bC⟩:=pb.at cb
  have n0:=hn.2.2.1
  have g0:=hg.2.2.1
  have b0:=hb.2.2.1
  refine⟨⟨by omega,by omega,fun h=>⟨h,by omega,by omega⟩,fun h=>⟨h,h,h,by omega⟩⟩,fun h=>?_,fun h=>?_⟩
  ·unfold rH;rw[if_pos h0,if_neg (by omega)];exact⟨rfl,rfl⟩
  ·have h1:=h
   obtain⟨⟨⟨e1,e2⟩,e3,e4⟩,e5⟩:=h
   have hN:isM (mq n) n.length n.length:=by rw[<-e1] at hn;exact hn
   have hP:ZK (mq g) (mq b):=a5g pg pb cg cb (by omega) e4
   have F:=b4J hP
   have on:=vO (nG cn).2
   have og:=vO (nG cg).2
   have ob:=vO (nG cb).2
   refine⟨⟨on,og,a4x pn pg (by omega) cn cg e1 e2⟩,fun h3=>?_,fun h3=>⟨⟨og,ob,hP⟩,fun h4=>?_,fun h4=>?_⟩⟩
   ·unfold rH;rw[if_pos h0,if_pos h1,if_neg (by rw[h3];decide)];exact⟨rfl,rfl⟩
   ·unfold rH;rw[if_pos h0,if_pos h1,if_pos h3,if_neg (by rw[a9r h4];decide)];exact⟨rfl,rfl⟩
   ·obtain⟨hR,hT⟩:=a9s h4
    rw[hT];dsimp only
    have hr:(lq r).length=n.length:=by rw[ZE,e5]
    have hs:=pr.q cr
    have C:=b3v hN nC n7 hr hs
    refine⟨⟨on,b3C cr,nC.ok hN (by omega),by rw[hN.wd];omega,by rw[hr,hN.len],fun q hq=>Nat.le_trans (hs q hq) (by omega),?_⟩,fun h5=>?_,fun h5=>?_⟩
    ·have h3:2 ^ wdM (mq n)*(116+1)<=128*117:=Nat.mul_le_mul (a3s (by rw[hN.wd];omega)) (Nat.le_refl _)
     have h4:=hN.wd
     rw[hN.len]
     have C2:Cd (jV (wdM (mq n)) (ent (mq n)) (fun i _=>lv (lq r) i)) n.length (wdM (mq n)+1) 116:=by rw[h4];rw[h4] at C;exact C
     exact OJ C2 (by omega) (by omega)
    ·unfold rH;rw[if_pos h0,if_pos h1,if_pos h3,if_pos hR,if_neg (by rw[b7S h5];decide)];exact⟨rfl,rfl⟩
    ·obtain⟨hS,hT2⟩:=b7T h5
     rw[hT2];dsimp only
     refine⟨⟨F.s2.ok F.s1 (by omega),F.s2.sz (by omega),?_,fun q hq=>Nat.le_trans (b2D hN nC n7 hr hs q hq) (by omega)⟩,?_⟩
     ·rw[b0j hN,F.s1.wd,pV,e2]
     ·unfold rH;rw[if_pos h0,if_pos h1,if_pos h3,if_pos hR,if_pos hS];exact⟨rfl,rfl⟩
def FM (n g b:MR):MQ × Int × Unit :=
 if fP n=0/\fP g=0/\fP b=0 then
  if (n.length=wdM n/\g.length=n.length)/\b.length=n.length/\wdM b=wdM g then
   if wX (mq n) (mq g)=true then
    if yP (bgM (mq g) (mq b))=true then
     (mulM (mulM (sM (mq g) (mq b)) (xA (NK (mq n) (mulM (mq g) (trM (mq g)))))) (trM (sM (mq g) (mq b))),0,())
    else ([],14,())
   else ([],12,())
  else ([],4,())
 else ([],1,())
def b2X:Ctr:=⟨[tMR,.pair tMR .unit,tMR],[tM,tI],fun x=>smK 100 x.1/\smK 100 x.2.1.1/\smK 100 x.2.2.1,fun x=>FM x.1 x.2.1.1 x.2.2.1⟩
theorem a0B:aT Tryz.prog 24 b2X:=by
 refine bT (((((((((nil0.ad xZ).ad OH).ad a7l).ad a4E).ad FQ).ad VA).ad PZ).ad a0E).ad a7N) ⟨[],[],[]⟩ Tryz.func24 rfl (by decide) (fun x=>[]) (fun x hp=>?_)
 obtain⟨n,g,b,u⟩:=x
 change List (List aF) at n
 change List (List aF) × Unit at g
 change List (List aF) at b
 refine bZ (let A₂:=(asT (List (List aF)) (Prod.fst g));let bJ:=(List.length (List.getD n 0 (aC aF)));let iQ:=(Ty.list (Ty.lf Lf.dD));let A₀:=(List.map (fun(xs:Ty.den iQ)=>List.map (fun(x:Ty.den (Ty.lf Lf.dD))=>aF.x x) xs) A₂);let eH:=(List.map (fun(xs:Ty.den iQ)=>List.map (fun(x:Ty.den (Ty.lf Lf.dD))=>aF.x x) xs) n);let jE:=(List.map (fun(xs:Ty.den iQ)=>List.map (fun(x:Ty.den (Ty.lf Lf.dD))=>aF.x x) xs) b);let iU:=(tab (wdM A₀) (List.length A₀) (tr (ent A₀)));let dU:=(tab (List.length A₀) (wdM iU) (mm (List.length iU) (ent A₀) (ent iU)));let A₁:=(NK eH dU);let jP:=(Prod.snd (FM n A₂ b));let qY:=(Prod.fst (AB A₀ jE));((List.length (n::asT (List (List aF)) (Prod.fst g)::b::aC (List (List aF)))<=1000000/\∀ (a:List (List aF)),a ∈ n::asT (List (List aF)) (Prod.fst g)::b::aC (List (List aF))->iF a)/\True)/\ifB (!fA (n::asT (List (List aF)) (Prod.fst g)::b::aC (List (List aF)))==0) (True/\aC (List Rat)=Prod.fst (FM n A₂ b)/\True/\1=Prod.fst jP/\True) ((asT Int 0<=0/\0<aA (List.length n)/\(((aA (List.length n) != aA bJ)==false)=true->((aA (List.length n) != aA bJ)==false)=true/\True)/\(((aA (List.length n) != aA bJ)==false)=true->((aA (List.length n) != aA bJ)==false)=true/\True)/\(((aA (List.length n) != aA bJ)==false)=true->((aA (List.length n) != aA bJ)==false)=true/\True)/\(((aA (List.length n) != aA bJ)==false)=true->((aA (List.length n) != aA bJ)==false)=true/\((aA (List.length n) != aA bJ)==false)=true/\True)/\((aA (List.length n) != aA bJ)=false->((aA (List.length n) != aA bJ)==false)=true)/\(((bif aA (List.length n) != aA bJ then true else aA (List.length A₂) != aA (List.length n))==false)=true->((bif aA (List.length n) != aA bJ then true else aA (List.length A₂) != aA (List.length n))==false)=true/\True)/\(((bif aA (List.length n) != aA bJ then true else aA (List.length A₂) != aA (List.length n))==false)=true->((bif aA (List.length n) != aA bJ then true else aA (List.length A₂) != aA (List.length n))==false)=true/\True)/\(((bif aA (List.length n) != aA bJ then true else aA (List.length A₂) != aA (List.length n))==false)=true->((bif aA (List.length n) != aA bJ then true else aA (List.length A₂) != aA (List.length n))==false)=true/\asT Int 0<=0/\0<aA (List.length A₂)/\True)/\(((bif aA (List.length n) != aA bJ then true else aA (List.length A₂) != aA (List.length n))==false)=true->((bif aA (List.length n) != aA bJ then true else aA (List.length A₂) != aA (List.length n))==false)=true/\True)/\(((bif aA (List.length n) != aA bJ then true else aA (List.length A₂) != aA (List.length n))==false)=true->((bif aA (List.length n) != aA bJ then true else aA (List.length A₂) != aA (List.length n))==false)=true/\True)/\(((bif aA (List.length n) != aA bJ then true else aA (List.length A₂) != aA (List.length n))==false)=true->((bif aA (List.length n) != aA bJ then true else aA (List.length A₂) != aA (List.length n))==false)=true/\((bif aA (List.length n) != aA bJ then true else aA (List.length A₂) != aA (List.length n))==false)=true/\((bif aA (List.length n) != aA bJ then true else aA (List.length A₂) != aA (List.length n))==false)=true/\0<List.length b/\True)/\(((bif aA (List.length n) != aA bJ then true else aA (List.length A₂) != aA (List.length n))==false)=true->((bif aA (List.length n) != aA bJ then true else aA (List.length A₂) != aA (List.length n))==false)=true/\True)/\((bif aA (List.length n) != aA bJ then true else aA (List.length A₂) != aA (List.length n))=false->((bif aA (List.length n) != aA bJ then true else aA (List.length A₂) != aA (List.length n))==false)=true)/\True)/\ifB (bif bif aA (List.length n) != aA bJ then true else aA (List.length A₂) != aA (List.length n) then true else !qW b (aA (List.length n)) (aA (List.length (List.getD A₂ 0 (aC aF))))) (True/\aC (List Rat)=Prod.fst (FM n A₂ b)/\True/\4=Prod.fst jP/\True) ((dO (fun(x:Ty.den iQ)=>aV (dO (fun(x:Ty.den (Ty.lf Lf.dD))=>aV ((aF.ok x=true)::aC Prop)) x::aC Prop)) n/\dO (fun(x:Ty.den iQ)=>aV (dO (fun(x:Ty.den (Ty.lf Lf.dD))=>aV ((aF.ok x=true)::aC Prop)) x::aC Prop)) A₂/\a5X eH A₀/\True)/\ifB (!wX eH A₀) (True/\aC (List Rat)=Prod.fst (FM n A₂ b)/\True/\12=Prod.fst jP/\True) ((dO (fun(x:Ty.den iQ)=>aV (dO (fun(x:Ty.den (Ty.lf Lf.dD))=>aV ((aF.ok x=true)::aC Prop)) x::aC Prop)) A₂/\dO (fun(x:Ty.den iQ)=>aV (dO (fun(x:Ty.den (Ty.lf Lf.dD))=>aV ((aF.ok x=true)::aC Prop)) x::aC Prop)) b/\ZK A₀ jE/\True)/\ifB (!Prod.fst (Prod.snd (AB A₀ jE))) (True/\aC (List Rat)=Prod.fst (FM n A₂ b)/\True/\14=Prod.fst jP/\True) ((dO (fun(x:Ty.den iQ)=>aV (dO (fun(x:Ty.den (Ty.lf Lf.dD))=>aV ((aF.ok x=true)::aC Prop)) x::aC Prop)) A₂/\okM A₀/\True)/\(dO (fun(x:Ty.den iQ)=>aV (dO (fun(x:Ty.den (Ty.lf Lf.dD))=>aV ((aF.ok x=true)::aC Prop)) x::aC Prop)) A₂/\(okM A₀/\okM iU/\wdM A₀=List.length iU/\szM A₀ 1000000/\szM iU 1000000)/\True)/\(dO (fun(x:Ty.den iQ)=>aV (dO (fun(x:Ty.den (Ty.lf Lf.dD))=>aV ((aF.ok x=true)::aC Prop)) x::aC Prop)) n/\(okM eH/\okM dU/\List.length eH=List.length dU/\wdM eH=wdM dU)/\True)/\((okM A₁/\wdM A₁=List.length A₁/\DI (List.length A₁) (List.length A₁+List.length A₁) (jV (List.length A₁) (ent A₁) idm) (List.length A₁))/\True)/\(b0M qY (Prod.fst (rE A₁))/\True)/\True/\mulM (mulM qY (Prod.fst (rE A₁))) (trM qY)=Prod.fst (FM n A₂ b)/\True/\0=Prod.fst jP/\True))))) (by kernel_rfl) ?_
 try simp only[bG,decide_eq_true_eq,decide_eq_false_iff_not]
 try dsimp only[Ty.den,Lf.den,asT] at *
 try simp only[NT,NS,trF,NU]
 have hZ:(⟨false,0,[],[]⟩:aF)=cZ:=rfl
 try dsimp only[aA,asT,aB,aC,Ty.den,Lf.den] at *
 try simp only[hZ,Int.toNat_natCast,bG,decide_eq_true_eq,decide_eq_false_iff_not,true_and,and_true,aH,nameAt,aW,aU,bK,rowAt,List.length_set,List.length_range]
 try simp only[rC,List.all_cons,List.all_nil,Bool.and_true,Bool.not_eq_true',Bool.not_eq_false',beq_iff_eq,bne_iff_ne,ne_eq,Bool.and_eq_true,Bool.and_eq_false_imp,beq_eq_false_iff_ne,bne_eq_false_iff_eq,Int.natCast_inj,imp_self,implies_true,and_self,true_and,and_true,mX,Bool.or_eq_true,Bool.or_eq_false_iff,List.length_cons,List.length_nil]
 try simp only[wdF,rQ,uY]
 have hp:smK 100 n/\smK 100 g.1/\smK 100 b:=hp
 obtain⟨g,u2⟩:=g
 obtain⟨pn,pg,pb⟩:=hp
 dsimp only at pg ⊢
 refine⟨⟨by omega,three pn.1 pg.1 pb.1⟩,fun h=>?_,fun h=>?_⟩
 ·unfold FM;rw[if_neg (fun hh=>h hh.1 hh.2.1 hh.2.2)];exact⟨rfl,rfl⟩
 ·have h0:=h
  obtain⟨cn,cg,cb⟩:=h
  obtain⟨hn,n7,wn7,nC⟩:=pn.at cn
  obtain⟨hg,g7,wg7,gC⟩:=pg.at cg
  obtain⟨hb,b7,wb7,bC⟩:=pb.at cb
  have n0:=hn.2.2.1
  have g0:=hg.2.2.1
  have b0:=hb.2.2.1
  refine⟨⟨by omega,by omega,fun h=>⟨h,by omega,by omega⟩,fun h=>⟨h,h,h,by omega⟩⟩,fun h=>?_,fun h=>?_⟩
  ·unfold FM;rw[if_pos h0,if_neg (by omega)];exact⟨rfl,rfl⟩
  ·have h1:=h
   obtain⟨⟨e1,e2⟩,e3,e4⟩:=h
   have hN:isM (mq n) n.length n.length:=by rw[<-e1] at hn;exact hn
   have hP:ZK (mq g) (mq b):=a5g pg pb cg cb (by omega) e4
   have F:=b4J hP
   have on:=vO (nG cn).2
   have og:=vO (nG cg).2
   have ob:=vO (nG cb).2
   refine⟨⟨on,og,a4x pn pg (by omega) cn cg e1 e2⟩,fun h3=>?_,fun h3=>⟨⟨og,ob,hP⟩,fun h4=>?_,fun h4=>?_⟩⟩
   ·unfold FM;rw[if_pos h0,if_pos h1,if_neg (by rw[h3];decide)];exact⟨rfl,rfl⟩
   ·unfold FM;rw[if_pos h0,if_pos h1,if_pos h3,if_neg (by rw[a9r h4];decide)];exact⟨rfl,rfl⟩
   ·obtain⟨hR,hT⟩:=a9s h4
    have hg:isM (mq g) n.length (wdM g):=by rw[e2] at hg;exact hg
    have t1:=hg.trp
    have t2:=gC.trp hg
    have m1:=hg.mul t1
    have m2:=gC.mul t2 hg t1
    have a1:isM (a6m (mq n) (mq g)) n.length n.length:=a1y (c:=0) hN
    have a2:=b1V hN hg wg7 nC gC
    have i1:=a1.inv
    have i2:=a2.inv a1
    have h7:2 ^ n.length*(310+2)<=128*312:=Nat.mul_le_mul (a3s n7) (Nat.le_refl _)
    rw[hT];dsimp only
    rw[show NK (mq n) (mulM (mq g) (trM (mq g)))=a6m (mq n) (mq g) from rfl,b4m (a9b hN hg h3)];dsimp only
    have s1:isM (sM (mq g) (mq b)) n.length n.length:=by have:=F.s1;rwa [pV,e2] at this
    refine⟨⟨og,gC.ok hg (by omega)⟩,⟨og,gC.ok hg (by omega),t2.ok t1 (by omega),hg.wd.trans t1.len.symm,gC.sz (by omega),t2.sz (by omega)⟩,⟨on,nC.ok hN (by omega),m2.ok m1 (by omega),hN.len.trans m1.len.symm,hN.wd.trans m1.wd.symm⟩,⟨a2.ok a1 (by omega),a1.wd.trans a1.len.symm,?_⟩,?_,?_⟩
    ·rw[a1.len]
     exact OJ (a2.NQ a1) (by omega) (by omega)
    ·unfold b0M;rw[s1.len]
     exact⟨s1,i1,n7,F.s2.mono (by omega),i2.mono (by omega)⟩
    ·unfold FM;rw[if_pos h0,if_pos h1,if_pos h3,if_pos hR];exact⟨rfl,rfl⟩
def b8B:Ctr:=⟨[tQ,tQ],[tQ,tI],fun x=>s19 x.1 x.2.1/\(show Rat from x.2.1)≠0,fun x=>((show Rat from x.1) / (show Rat from x.2.1),(0:Int),())⟩
theorem b0Q {f:FuncId} (h:∀ (v u:Value) (x y:Rat) (w:World),RQ w v x->RQ w u y->rsz x<=190000000->rsz y<=190000000->y≠0->Calls Tryz.prog f #[v,u] w (GQC (x / y) 0 w)):aT Tryz.prog f b8B:=by
 intro F w vs x hF hvs hp
 obtain⟨v,vs',rfl,h1,u,vs'',rfl,h2,h3⟩:=hvs
 have h3:vs''=[]:=h3
 subst h3
 refine(h v u x.1 x.2.1 w (uT h1) (uT h2) hp.1.1 hp.1.2 hp.2).mono ?_
 rintro e w' ⟨r,rfl,hr,hb⟩
 exact⟨_,rfl,⟨[_,_],rfl,_,_,rfl,a5z hr,_,_,rfl,a2n _,rfl⟩,hb⟩
theorem b9Z:aT Tryz.prog 71 (cVal 999999999):=(a4k fun v ok q w h hn=>qV v ok q w h hn)
theorem b8c:aT Tryz.prog 32 (b8L s19 (fun x y=>decide (x=y))):=(b0R fun v u x y w a b h=>a6M v u x y w a b h.1 h.2)
theorem b0G:aT Tryz.prog 42 (cIQ iO (fun i=>(i:Rat))):=(a7v fun x w h=>MV x w h.1 h.2)
theorem b8d:aT Tryz.prog 45 (cQ2 s19 (·*·)):=(PS fun v u x y w a b h=>a6F v u x y w a b h.1 h.2)
theorem b8e:aT Tryz.prog 43 (cQ2 s19 (·-·)):=(PS fun v u x y w a b h=>WU v u x y w a b h.1 h.2)
theorem b8f:aT Tryz.prog 72 (cQI (fun x=>rsz x<=190000000) (fun x=>sgn x.num)):=(a7x fun v x w h hl=>TD v x w h (Nat.le_trans hl (by omega)))
theorem b8g:aT Tryz.prog 95 b8B:=(b0Q fun v u x y w a b l1 l2 hy=>a9B v u x y w a b l1 l2 hy)
theorem b8h:aT Tryz.prog 56 (cQ1 (fun x=>rsz x<=190000000) (fun x=>-x)):=(a7w fun v x w a h=>WR v x w a (by omega))
def szL (l:LQ'):Prop:=l.length<=1000/\∀ q ∈ l,rsz q<=100000000
def a5r (q:aF):Prop:=q.n<=999999999/\q.m<=999999999
def IY (l:LR):Prop:=l.length<=1000000/\∀ q ∈ l,a5r q
def okL (l:LR):Bool:=!l.any (fun q=>!q.ok)
theorem KD {α:Type} {xs:List α} {i:Nat} {d:α} (hi:i<xs.length):xs.getD i d ∈ xs:=by
 rw[List.getD_eq_getElem?_getD,List.getElem?_eq_getElem hi];exact List.getElem_mem hi
theorem TM {α:Type} {xs ys:List α} {i:Nat} {d:α} (hi:i<xs.length) (hy:i<ys.length) (h:xs.take i=ys.take i) (h2:xs.getD i d=ys.getD i d):xs.take (i+1)=ys.take (i+1):=by
 rw[List.take_add_one,List.take_add_one,h]
 rw[List.getD_eq_getElem?_getD,List.getElem?_eq_getElem hi,List.getD_eq_getElem?_getD,List.getElem?_eq_getElem hy] at h2
 rw[List.getElem?_eq_getElem hi,List.getElem?_eq_getElem hy]
 have h2:xs[i]=ys[i]:=h2
 rw[h2]
def b8U:Ctr:=⟨[.list tR],[tB],fun x=>IY x.1,fun x=>(okL x.1,())⟩
theorem a6N:aT Tryz.prog 29 b8U:=by
 refine bT (nil0.ad b9Z) ⟨[],[],[]⟩ Tryz.func29 rfl (by decide) (fun x=>[.inv {k:Nat // k<=(show LR from x.1).length/\((show LR from x.1).take k).any (fun q=>!q.ok)=false} (fun k=>[(3,.val tI (k.1:Int))]) (fun k=>[]) (fun k=>(show LR from x.1).length-k.1) ⟨0,by omega,rfl⟩ (fun _=>[])]) (fun x hp=>?_)
 obtain⟨x,u⟩:=x
 change List aF at x
 refine bZ ((asT Int 0=0/\True)/\∀ (i:{ k:Nat // k<=List.length x/\(List.any (List.take k x) fun(q:aF)=>!aF.ok q)=false }),let A₀:=(List.getD x (Int.toNat (aA (aB i))) { ok:=false,x:=0,g:=aC Nat,h:=aC Nat });asT Bool true=true/\ifB (decide (aA (aB i)<aA (List.length x))) ((0<=aA (aB i)/\aA (aB i)<aA (List.length x)/\(aF.n A₀<=999999999/\aF.m A₀<=999999999)/\True)/\ifB (!aF.ok A₀) (True/\false=okL x/\True) (∃ (i':{ k:Nat // k<=List.length x/\(List.any (List.take k x) fun(q:aF)=>!aF.ok q)=false }),List.length x-aB i'<List.length x-aB i/\IntKind.wrap IntKind.i64 (aA (aB i)+1)=aA (aB i')/\True)) (True/\true=okL x/\True)) (by kernel_rfl) ?_
 have hZ:(⟨false,0,[],[]⟩:aF)=cZ:=rfl
 dsimp only[aA,asT,aB,aC,Ty.den,Lf.den] at *
 simp only[hZ,Int.toNat_natCast,bG,decide_eq_true_eq,decide_eq_false_iff_not,true_and,and_true,aH,nameAt,aW,aU,bK,rowAt,List.length_set,List.length_range]
 have hp:IY x:=hp
 obtain⟨hl,hb⟩:=hp
 refine fun i=>⟨fun h1=>?_,fun h1=>?_⟩
 ·have hi:i.1<x.length:=by omega
  have hs:a5r (x.getD i.1 cZ):=fD hb hi
  refine⟨⟨by omega,h1,hs.1,hs.2⟩,fun h2=>?_,fun h2=>⟨⟨i.1+1,by omega,?_⟩,by simp only;omega,by rw[bH (by omega) (by omega)];rfl⟩⟩
  ·unfold okL
   rw[List.any_eq_true.mpr ⟨x.getD i.1 cZ,KD hi,h2⟩];rfl
  ·rw[mM (d:=cZ) hi,i.2.2,h2];rfl
 ·have h3:=i.2.2
  rw[List.take_of_length_le (by omega)] at h3
  unfold okL;rw[h3];rfl
def xR (a:MR):Prop:=a.length<=1000000/\∀ r ∈ a,IY r
theorem a7G (a:MR):fP a=bif (decide (a.length<1) || decide (a.length > 64) || decide (wdM a<1) || decide (wdM a > 64) || a.any (badR (wdM a))) then 1 else 0:=by
 unfold fP
 by_cases h1:a.length<1
 ·rw[if_neg (by omega),decide_eq_true h1];rfl
 ·by_cases h2:a.length > 64
  ·rw[if_neg (by omega),decide_eq_true h2];simp
  ·by_cases h3:wdM a<1
   ·rw[if_neg (by omega),decide_eq_true h3];simp
   ·by_cases h4:wdM a > 64
    ·rw[if_neg (by omega),decide_eq_true h4];simp
    ·rw[decide_eq_false h1,decide_eq_false h2,decide_eq_false h3,decide_eq_false h4]
     cases h5:a.any (badR (wdM a))
     ·rw[if_pos ⟨by omega,by omega,by omega,by omega,rfl⟩];rfl
     ·rw[if_neg (fun h=>Bool.noConfusion h.2.2.2.2)];rfl
def b8O:Ctr:=⟨[tMR],[tI],fun x=>xR x.1,fun x=>(fP x.1,())⟩
theorem a9A:aT Tryz.prog 25 b8O:=by
 refine bT (nil0.ad a6N) ⟨[],[],[]⟩ Tryz.func25 rfl (by decide) (fun x=>[.inv {k:Nat // k<=(show MR from x.1).length/\((show MR from x.1).take k).any (badR (wdM (show MR from x.1)))=false} (fun k=>[(3,.val tI (k.1:Int))]) (fun k=>[]) (fun k=>(show MR from x.1).length-k.1) ⟨0,by omega,rfl⟩ (fun _=>[])]) (fun x hp=>?_)
 obtain⟨a,u⟩:=x
 change List (List aF) at a
 refine bZ (let A₂:=(List.length (List.getD a 0 (aC aF)));let bJ:=(aA (List.length a) > 64);let A₀:=(bif bif decide (aA (List.length a)<1) then true else decide bJ then true else decide (aA A₂<1));let A₁:=(bif decide (aA (List.length a)<1) then true else decide bJ);(((decide (aA (List.length a)<1)==false)=true->(decide (aA (List.length a)<1)==false)=true/\True)/\((decide (aA (List.length a)<1)==false)=true->(decide (aA (List.length a)<1)==false)=true/\True)/\(decide (aA (List.length a)<1)=false->(decide (aA (List.length a)<1)==false)=true)/\((A₁==false)=true->(A₁==false)=true/\asT Int 0<=0/\0<aA (List.length a)/\True)/\((A₁==false)=true->(A₁==false)=true/\True)/\((A₁==false)=true->(A₁==false)=true/\True)/\((A₁==false)=true->(A₁==false)=true/\True)/\(A₁=false->(A₁==false)=true)/\((A₀==false)=true->(A₀==false)=true/\asT Int 0<=0/\0<aA (List.length a)/\True)/\((A₀==false)=true->(A₀==false)=true/\True)/\((A₀==false)=true->(A₀==false)=true/\True)/\((A₀==false)=true->(A₀==false)=true/\True)/\(A₀=false->(A₀==false)=true)/\True)/\ifB (bif bif bif decide (aA (List.length a)<1) then true else decide bJ then true else decide (aA A₂<1) then true else decide (aA A₂ > 64)) (True/\1=fP a/\True) ((asT Int 0=0/\True)/\∀ (i:{ k:Nat // k<=List.length a/\List.any (List.take k a) (badR (wdM a))=false }),let eH:=(List.getD a (Int.toNat (aA (aB i))) (aC aF));let dU:=(List.length eH);asT Bool true=true/\ifB (decide (aA (aB i)<aA (List.length a))) ((0<=aA (aB i)/\aA (aB i)<aA (List.length a)/\asT Int 0<=0/\0<aA (List.length a)/\(((aA dU != aA A₂)==false)=true->((aA dU != aA A₂)==false)=true/\((aA dU != aA A₂)==false)=true/\0<=aA (aB i)/\aA (aB i)<aA (List.length a)/\True)/\(((aA dU != aA A₂)==false)=true->((aA dU != aA A₂)==false)=true/\True)/\(((aA dU != aA A₂)==false)=true->((aA dU != aA A₂)==false)=true/\IY eH/\True)/\(((aA dU != aA A₂)==false)=true->((aA dU != aA A₂)==false)=true/\True)/\((aA dU != aA A₂)=false->((aA dU != aA A₂)==false)=true)/\True)/\ifB (bif aA dU != aA A₂ then true else !okL eH) (True/\1=fP a/\True) (∃ (i':{ k:Nat // k<=List.length a/\List.any (List.take k a) (badR (wdM a))=false }),List.length a-aB i'<List.length a-aB i/\IntKind.wrap IntKind.i64 (aA (aB i)+1)=aA (aB i')/\True)) (True/\0=fP a/\True))) (by kernel_rfl) ?_
 have hZ:(⟨false,0,[],[]⟩:aF)=cZ:=rfl
 dsimp only[aA,asT,aB,aC,Ty.den,Lf.den] at *
 simp only[hZ,Int.toNat_natCast,bG,decide_eq_true_eq,decide_eq_false_iff_not,true_and,and_true,aH,nameAt,aW,aU,bK,rowAt,List.length_set,List.length_range]
 have hp:xR a:=hp
 obtain⟨hl,hb⟩:=hp
 have eL:∀ n:Nat,decide ((n:Int)<1)=decide (n<1):=fun n=>decide_eq_decide.mpr (by omega)
 have eG:∀ n:Nat,decide ((n:Int) > 64)=decide (n > 64):=fun n=>decide_eq_decide.mpr (by omega)
 have f0:¬ (a.length:Int)<1↔decide (a.length<1)=false:=by rw[decide_eq_false_iff_not];omega
 have f1:decide (a.length<1)=false->0<(a.length:Int):=fun h=>by have:=of_decide_eq_false h;omega
 have f2:=a7G a
 simp only[eL,eG,f0]
 have hw:(a.getD 0 []).length=wdM a:=rfl
 rw[hw]
 generalize decide (a.length<1)=b1 at *
 generalize decide (a.length > 64)=b2 at *
 generalize decide (wdM a<1)=b3 at *
 generalize decide (wdM a > 64)=b4 at *
 refine⟨?_,fun h=>?_,fun h i=>?_⟩
 ·clear f0 f2;revert f1;cases b1<;>cases b2<;>cases b3<;>simp
 ·have h9:(b1 || b2 || b3 || b4)=true:=by revert h;cases b1<;>cases b2<;>cases b3<;>cases b4<;>simp
  rw[f2,h9];rfl
 ·have h9:(b1 || b2 || b3 || b4)=false/\b1=false:=by revert h;cases b1<;>cases b2<;>cases b3<;>cases b4<;>simp
  rw[h9.1,Bool.false_or] at f2
  have f1:=f1 h9.2
  refine⟨fun h1=>?_,fun h1=>?_⟩
  ·have hi:i.1<a.length:=by omega
   have hs:IY (a.getD i.1 []):=fD hb hi
   rw[a1i]
   have hbad:(bif !((a.getD i.1 []).length==wdM a) then true else !okL (a.getD i.1 []))=badR (wdM a) (a.getD i.1 []):=by
    unfold badR okL;cases (a.getD i.1 []).length==wdM a<;>simp
   rw[hbad]
   refine⟨⟨by omega,h1,Int.le_refl 0,f1,fun h=>⟨h,h,by omega,h1⟩,fun h=>h,fun h=>⟨h,hs⟩,fun h=>h,fun h=>by rw[h];rfl⟩,fun h2=>?_,fun h2=>⟨⟨i.1+1,by omega,?_⟩,by simp only;omega,by rw[bH (by omega) (by omega)];rfl⟩⟩
   ·rw[f2,List.any_eq_true.mpr ⟨a.getD i.1 [],KD hi,h2⟩];rfl
   ·rw[mM (d:=[]) hi,i.2.2,h2];rfl
  ·have h3:=i.2.2
   rw[List.take_of_length_le (by omega)] at h3
   rw[f2,h3];rfl
def c0I:Ctr:=⟨[.list tQ,.list tQ],[tB],fun x=>szL x.1/\szL x.2.1,fun x=>(decide ((show LQ' from x.1)=(show LQ' from x.2.1)),())⟩
theorem a1S:aT Tryz.prog 23 c0I:=by
 refine bT (nil0.ad b8c) ⟨[],[],[]⟩ Tryz.func23 rfl (by decide) (fun x=>[.inv {k:Nat // k<=(show LQ' from x.1).length/\(show LQ' from x.1).take k=(show LQ' from x.2.1).take k} (fun k=>[(5,.val tI (k.1:Int))]) (fun k=>[]) (fun k=>(show LQ' from x.1).length-k.1) ⟨0,by omega,rfl⟩ (fun _=>[])]) (fun x hp=>?_)
 obtain⟨x,y,u⟩:=x
 change List Rat at x
 change List Rat at y
 refine bZ (ifB (aA (List.length x) != aA (List.length y)) (True/\false=decide (x=y)/\True) ((asT Int 0=0/\True)/\∀ (i:{ k:Nat // k<=List.length x/\List.take k x=List.take k y }),asT Bool true=true/\ifB (decide (aA (aB i)<aA (List.length x))) ((0<=aA (aB i)/\aA (aB i)<aA (List.length x)/\0<=aA (aB i)/\aA (aB i)<aA (List.length y)/\s19 (List.getD x (Int.toNat (aA (aB i))) 0) (List.getD y (Int.toNat (aA (aB i))) 0)/\True)/\ifB (!decide (List.getD x (Int.toNat (aA (aB i))) 0=List.getD y (Int.toNat (aA (aB i))) 0)) (True/\false=decide (x=y)/\True) (∃ (i':{ k:Nat // k<=List.length x/\List.take k x=List.take k y }),List.length x-aB i'<List.length x-aB i/\IntKind.wrap IntKind.i64 (aA (aB i)+1)=aA (aB i')/\True)) (True/\true=decide (x=y)/\True))) (by kernel_rfl) ?_
 have hZ:(⟨false,0,[],[]⟩:aF)=cZ:=rfl
 dsimp only[aA,asT,aB,aC,Ty.den,Lf.den] at *
 simp only[hZ,Int.toNat_natCast,bG,decide_eq_true_eq,decide_eq_false_iff_not,true_and,and_true,aH,nameAt,aW,aU,bK,rowAt,List.length_set,List.length_range]
 have hp:szL x/\szL y:=hp
 obtain⟨⟨q1,q2⟩,q3,q4⟩:=hp
 refine⟨fun h=>?_,fun h i=>⟨fun h1=>?_,fun h1=>?_⟩⟩
 ·have h:(x.length:Int)≠y.length:=by simpa using h
  exact(decide_eq_false (fun e=>h (by rw[e]))).symm
 ·have hl:x.length=y.length:=by
   have:(x.length:Int)=y.length:=by simpa using h
   omega
  have hi:i.1<x.length:=by omega
  have z1:rsz (x.getD i.1 0)<=100000000:=fD q2 hi
  have z2:rsz (y.getD i.1 0)<=100000000:=fD q4 (by omega)
  refine⟨⟨by omega,by omega,by omega,by omega,⟨by omega,by omega⟩⟩,fun h2=>?_,fun h2=>⟨⟨i.1+1,by omega,?_⟩,by simp only;omega,by rw[bH (by omega) (by omega)];rfl⟩⟩
  ·have h2:x.getD i.1 0≠y.getD i.1 0:=by simpa using h2
   exact(decide_eq_false (fun e=>h2 (congrArg (fun l=>l.getD i.1 0) e))).symm
  ·have h2:x.getD i.1 0=y.getD i.1 0:=by simpa using h2
   exact TM hi (by omega) i.2.2 h2
 ·have hl:x.length=y.length:=by
   have:(x.length:Int)=y.length:=by simpa using h
   omega
  have h3:=i.2.2
  rw[List.take_of_length_le (by omega),List.take_of_length_le (by omega)] at h3
  exact(decide_eq_true h3).symm
def xX (a:MQ):Prop:=a.length<=1000/\∀ r ∈ a,szL r
def c0J:Ctr:=⟨[tM,tM],[tB],fun x=>xX x.1/\xX x.2.1,fun x=>(decide ((show MQ from x.1)=(show MQ from x.2.1)),())⟩
theorem TF:aT Tryz.prog 15 c0J:=by
 refine bT (nil0.ad a1S) ⟨[],[],[]⟩ Tryz.func15 rfl (by decide) (fun x=>[.inv {k:Nat // k<=(show MQ from x.1).length/\(show MQ from x.1).take k=(show MQ from x.2.1).take k} (fun k=>[(5,.val tI (k.1:Int))]) (fun k=>[]) (fun k=>(show MQ from x.1).length-k.1) ⟨0,by omega,rfl⟩ (fun _=>[])]) (fun x hp=>?_)
 obtain⟨x,y,u⟩:=x
 change List (List Rat) at x
 change List (List Rat) at y
 refine bZ (ifB (aA (List.length x) != aA (List.length y)) (True/\false=decide (x=y)/\True) ((asT Int 0=0/\True)/\∀ (i:{ k:Nat // k<=List.length x/\List.take k x=List.take k y }),asT Bool true=true/\ifB (decide (aA (aB i)<aA (List.length x))) ((0<=aA (aB i)/\aA (aB i)<aA (List.length x)/\0<=aA (aB i)/\aA (aB i)<aA (List.length y)/\(szL (List.getD x (Int.toNat (aA (aB i))) (aC Rat))/\szL (List.getD y (Int.toNat (aA (aB i))) (aC Rat)))/\True)/\ifB (!decide (List.getD x (Int.toNat (aA (aB i))) (aC Rat)=List.getD y (Int.toNat (aA (aB i))) (aC Rat))) (True/\false=decide (x=y)/\True) (∃ (i':{ k:Nat // k<=List.length x/\List.take k x=List.take k y }),List.length x-aB i'<List.length x-aB i/\IntKind.wrap IntKind.i64 (aA (aB i)+1)=aA (aB i')/\True)) (True/\true=decide (x=y)/\True))) (by kernel_rfl) ?_
 have hZ:(⟨false,0,[],[]⟩:aF)=cZ:=rfl
 dsimp only[aA,asT,aB,aC,Ty.den,Lf.den] at *
 simp only[hZ,Int.toNat_natCast,bG,decide_eq_true_eq,decide_eq_false_iff_not,true_and,and_true,aH,nameAt,aW,aU,bK,rowAt,List.length_set,List.length_range]
 have hp:xX x/\xX y:=hp
 obtain⟨⟨q1,q2⟩,q3,q4⟩:=hp
 refine⟨fun h=>?_,fun h i=>⟨fun h1=>?_,fun h1=>?_⟩⟩
 ·have h:(x.length:Int)≠y.length:=by simpa using h
  exact(decide_eq_false (fun e=>h (by rw[e]))).symm
 ·have hl:x.length=y.length:=by
   have:(x.length:Int)=y.length:=by simpa using h
   omega
  have hi:i.1<x.length:=by omega
  skip
  refine⟨⟨by omega,by omega,by omega,by omega,fD q2 hi,fD q4 (by omega)⟩,fun h2=>?_,fun h2=>⟨⟨i.1+1,by omega,?_⟩,by simp only;omega,by rw[bH (by omega) (by omega)];rfl⟩⟩
  ·have h2:x.getD i.1 []≠y.getD i.1 []:=by simpa using h2
   exact(decide_eq_false (fun e=>h2 (congrArg (fun l=>l.getD i.1 []) e))).symm
  ·have h2:x.getD i.1 []=y.getD i.1 []:=by simpa using h2
   exact TM hi (by omega) i.2.2 h2
 ·have hl:x.length=y.length:=by
   have:(x.length:Int)=y.length:=by simpa using h
   omega
  have h3:=i.2.2
  rw[List.take_of_length_le (by omega),List.take_of_length_le (by omega)] at h3
  exact(decide_eq_true h3).symm
theorem TG:aT Tryz.prog 55 (cIQ iO (fun i=>(i:Rat))):=by
 refine bT (nil0.ad b0G) ⟨[2],[],[]⟩ Tryz.func55 rfl (by decide) (fun x=>[]) (fun x hp=>?_)
 obtain⟨n,u⟩:=x
 change Int at n
 refine bZ ((iO n/\True)/\True/\bY n=bY n/\True) (by kernel_rfl) ?_
 have hZ:(⟨false,0,[],[]⟩:aF)=cZ:=rfl
 dsimp only[aA,asT,aB,aC,Ty.den,Lf.den] at *
 simp only[hZ,Int.toNat_natCast,bG,decide_eq_true_eq,decide_eq_false_iff_not,true_and,and_true,aH,nameAt,aW,aU,bK,rowAt,List.length_set,List.length_range]
 exact hp
abbrev LKq:LK:=.mat 32 64 tQ
def a7e (n:Nat):List Rat:=List.replicate n 0
def FC (R C:Nat):MQ:=tab R C fun _ _=>0
def c1m:yT:=.mk LKq [tI,tI] (fun x=>0<=(show Int from x.1)/\(show Int from x.1)<=1000/\0<=(show Int from x.2.1)/\(show Int from x.2.1)<=1000) (fun x=>FC (show Int from x.1).toNat (show Int from x.2.1).toNat)
theorem a9V:NOk Tryz.prog 41 c1m:=by
 refine pW (nil0.ad TG) ⟨[],[],[(9,tQ),(27,tQ)]⟩ Tryz.func41 rfl (by decide) (fun x=>[.inv {k:Nat // k<=(show Int from x.1).toNat} (fun k=>[(6,.val tI (k.1:Int)),(5,.own 9 0),(9,.any),(28,.any)]) (fun k=>[(9,.mat 32 64 tQ none (FC k.1 (show Int from x.2.1).toNat) 0)]) (fun k=>(show Int from x.1).toNat-k.1) ⟨0,by omega⟩ (fun k=>[.inv {q:Nat // q<=(show Int from x.2.1).toNat} (fun q=>[(8,.val tI (q.1:Int)),(7,.own 15 0),(15,.any),(24,.any)]) (fun q=>[(9,.mat 32 64 tQ none (FC k.1 (show Int from x.2.1).toNat) 0),(15,.row 64 tQ (a7e q.1) 0)]) (fun q=>(show Int from x.2.1).toNat-q.1) ⟨0,by omega⟩ (fun _=>[])])]) (fun x hp=>?_)
 obtain⟨m,n,u⟩:=x
 change Int at m
 change Int at n
 refine bZ ((asT Int 0=0/\asT (List (List Rat)) (aC (List Rat))=aC (List Rat)/\True)/\∀ (i:{ k:Nat // k<=Int.toNat m }),asT Bool true=true/\ifB (decide (aA (aB i)<m)) ((asT Int 0=0/\FC (aB i) (Int.toNat n)=FC (aB i) (Int.toNat n)/\asT (List Rat) (aC Rat)=aC Rat/\True)/\∀ (i_1:{ q:Nat // q<=Int.toNat n }),asT Bool true=true/\ifB (decide (aA (aB i_1)<n)) ((iO 0/\List.length (a7e (aB i_1))+List.length (bY 0::aC Rat)<=1000000000/\True)/\∃ (i':{ q:Nat // q<=Int.toNat n }),Int.toNat n-aB i'<Int.toNat n-aB i_1/\IntKind.wrap IntKind.i64 (aA (aB i_1)+1)=aA (aB i')/\FC (aB i) (Int.toNat n)=FC (aB i) (Int.toNat n)/\a7e (aB i_1)++bY 0::aC Rat=a7e (aB i')/\True) ((aH none (FC (aB i) (Int.toNat n))+1<=1000000000/\True)/\∃ (i':{ k:Nat // k<=Int.toNat m }),Int.toNat m-aB i'<Int.toNat m-aB i/\IntKind.wrap IntKind.i64 (aA (aB i)+1)=aA (aB i')/\FC (aB i) (Int.toNat n)++a7e (aB i_1)::aC (List Rat)=FC (aB i') (Int.toNat n)/\True)) (FC (Int.toNat m) (Int.toNat n)=FC (aB i) (Int.toNat n))) (by kernel_rfl) ?_
 have hZ:(⟨false,0,[],[]⟩:aF)=cZ:=rfl
 dsimp only[aA,asT,aB,aC,Ty.den,Lf.den] at *
 simp only[hZ,Int.toNat_natCast,bG,decide_eq_true_eq,decide_eq_false_iff_not,true_and,and_true,aH,nameAt,aW,aU,bK,rowAt,List.length_set,List.length_range]
 have hp:0<=m/\m<=1000/\0<=n/\n<=1000:=hp
 obtain⟨m0,m1,n0,n1⟩:=hp
 refine fun i=>⟨fun h1 q=>⟨fun h2=>⟨⟨by unfold iO;omega,by simp[a7e];have:=q.2;omega⟩,⟨q.1+1,by omega⟩,by simp only;omega,by rw[bH (by omega) (by omega)];rfl,?_⟩,fun h2=>⟨by show (FC _ _).length+1<=_;unfold FC;rw[bK];have:=i.2;omega,⟨i.1+1,by omega⟩,by simp only;omega,by rw[bH (by omega) (by omega)];rfl,?_⟩⟩,fun h1=>?_⟩
 ·show List.replicate q.1 0++[((0:Int):Rat)]=List.replicate (q.1+1) 0
  rw[List.replicate_succ'];rfl
 ·have hq:q.1=n.toNat:=by have:=q.2;omega
  rw[hq]
  show tab i.1 n.toNat (fun _ _=>0)++[List.replicate n.toNat 0]=tab (i.1+1) n.toNat (fun _ _=>0)
  unfold tab
  rw[List.range_succ]
  simp
  apply List.ext_getElem<;>simp
 ·have hi:i.1=m.toNat:=by have:=i.2;omega
  rw[hi]
def b9K:yT:=.mk LKq [tM] (fun x=>(show MQ from x.1).length<=1000/\∀ r ∈ (show MQ from x.1),r.length<=1000) (fun x=>x.1)
theorem b2l:NOk Tryz.prog 64 b9K:=by
 refine pW nil0 ⟨[],[],[(5,tQ),(19,tQ)]⟩ Tryz.func64 rfl (by decide) (fun x=>[.inv {k:Nat // k<=(show MQ from x.1).length} (fun k=>[(4,.val tI (k.1:Int)),(3,.own 5 0),(5,.any),(20,.any)]) (fun k=>[(5,.mat 32 64 tQ none ((show MQ from x.1).take k.1) 0)]) (fun k=>(show MQ from x.1).length-k.1) ⟨0,by omega⟩ (fun _=>[])]) (fun x hp=>?_)
 obtain⟨a,u⟩:=x
 change List (List Rat) at a
 refine bZ ((asT Int 0=0/\asT (List (List Rat)) (aC (List Rat))=aC (List Rat)/\True)/\∀ (i:{ k:Nat // k<=List.length a }),asT Bool true=true/\ifB (decide (aA (aB i)<aA (List.length a))) ((0<=aA (aB i)/\aA (aB i)<aA (List.length a)/\List.length (aC Rat)+List.length (List.getD a (Int.toNat (aA (aB i))) (aC Rat))<=1000000000/\aH none (List.take (aB i) a)+1<=1000000000/\True)/\∃ (i':{ k:Nat // k<=List.length a }),List.length a-aB i'<List.length a-aB i/\IntKind.wrap IntKind.i64 (aA (aB i)+1)=aA (aB i')/\List.take (aB i) a++(aC Rat++List.getD a (Int.toNat (aA (aB i))) (aC Rat))::aC (List Rat)=List.take (aB i') a/\True) (a=List.take (aB i) a)) (by kernel_rfl) ?_
 have hZ:(⟨false,0,[],[]⟩:aF)=cZ:=rfl
 dsimp only[aA,asT,aB,aC,Ty.den,Lf.den] at *
 simp only[hZ,Int.toNat_natCast,bG,decide_eq_true_eq,decide_eq_false_iff_not,true_and,and_true,aH,nameAt,aW,aU,bK,rowAt,List.length_set,List.length_range]
 have hp:a.length<=1000/\∀ r ∈ a,r.length<=1000:=hp
 obtain⟨h1,h2⟩:=hp
 refine fun i=>⟨fun h3=>?_,fun h3=>?_⟩
 ·have hi:i.1<a.length:=by omega
  have hr:(a.getD i.1 []).length<=1000:=fD h2 hi
  refine⟨⟨by omega,by omega,by show 0+(a.getD i.1 []).length<=_;omega,by rw[List.length_take];omega⟩,⟨i.1+1,by omega⟩,by simp only;omega,by rw[bH (by omega) (by omega)];rfl,?_⟩
  rw[List.take_add_one,List.getD_eq_getElem?_getD,List.getElem?_eq_getElem hi];simp
 ·rw[List.take_of_length_le (by omega)]
end Go.Proofs.YtgplhbhfdgempaaGreat
