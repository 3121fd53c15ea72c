/-
  Lemmas for the theorem vinliers_holds, part 31 of 32.
-/
import Derived.Test.YtbkocjmmbkifjaaGreatQi30
namespace Go.Proofs.YtbkocjmmbkifjaaGreat
open Go Go.RowKit
set_option maxRecDepth 100000
set_option maxHeartbeats 4000000
set_option linter.unusedVariables false
set_option linter.unusedSimpArgs false
theorem a8e (a b:Int):fK (a*b)=fK a*fK b:=xw a b
theorem a9J {f:MQ} (hf:m33 100 f) (p:dQ):FU f p=uS f p:=by
 obtain⟨a,b,c,d,e,g,i,j,k,rfl⟩:=hf.form
 obtain⟨⟨x,y,_⟩,⟨u,v,_⟩,_⟩:=p
 change 0+fK (u*x)*a+fK (u*y)*b+fK (u*1)*c+fK (v*x)*d+fK (v*y)*e+fK (v*1)*g+fK (1*x)*i+fK (1*y)*j+fK (1*1)*k=0+fK u*(0+a*fK x+b*fK y+c*fK 1)+fK v*(0+d*fK x+e*fK y+g*fK 1)+fK 1*(0+i*fK x+j*fK y+k*fK 1)
 simp only[a8e]
 have h1:fK 1=1:=rfl
 rw[h1]
 grind
theorem MF {f:MQ} (hf:m33 100 f) (p:DX) {i:Nat} (hi:i<3):(mvL f (fP p)).getD i 0=fE (f.getD i []) (fP p) 3:=b3o hf.1 hi
theorem a9Y {f:MQ} (hf:m33 100 f) (p:dQ):a1z f p=xX f p:=by
 have e:QY f p=qE f p:=by
  unfold QY qE
  rw[MF hf p.1 (i:=0) (by omega),MF hf p.1 (i:=1) (by omega),MF hf.tr p.2.1 (i:=0) (by omega),MF hf.tr p.2.1 (i:=1) (by omega)]
 unfold a1z xX a6x TF
 rw[e,a9J hf]
def lq8 (l:LR):LQ':=List.map (fun q:aF=>q.x) l
def mq8 (a:MR):MQ:=List.map (fun r:LR=>lq8 r) a
theorem a4W {f:MR} (hs:JO f) (h:oZ f=true):m33 100 (mq8 f)/\∀ r ∈ f,∀ q ∈ r,q.ok=true:=by
 rw[ZR,aj,aj,ay] at h
 obtain⟨⟨h1,h2⟩,_⟩:=h
 have h3:∀ r ∈ f,r.length=3/\∀ q ∈ r,q.ok=true:=fun r hr=>vG.mp (uz.mp h2 r hr)
 have hm:isM (mq8 f) 3 3:=⟨by unfold mq8;rw[Bf];exact h1,fun r hr=>by
  obtain⟨s,hs,rfl⟩:=uq.mp hr
  unfold lq8;rw[Bf];exact(h3 s hs).1,by omega,by omega,by omega,by omega⟩
 refine⟨⟨hm,fun i hi j hj=>?_⟩,fun r hr=>(h3 r hr).2⟩
 rw[hm.len] at hi
 rw[hm.wd] at hj
 have hr:f.getD i [] ∈ f:=mM (by omega)
 have hl:=(h3 _ hr).1
 have hq:(f.getD i []).getD j cZ ∈ f.getD i []:=mM (by omega)
 have e:ent (mq8 f) i j=((f.getD i []).getD j cZ).x:=by
  show ((mq8 f).getD i []).getD j 0=_
  unfold mq8 lq8
  rw[dh (l:=List.map _ f),vk,dn (by omega),dh (l:=f),dn (by omega)]
  have hl2:(f[i]'(by omega)).length=3:=by rw[dh,dn (by omega)] at hl;exact hl
  show (List.map (fun q:aF=>q.x) f[i]).getD j 0=(f[i].getD j cZ).x
  rw[dh,vk,dh,dn (by omega)];rfl
 rw[e]
 exact iq (((hs.2 _ hr).2 _ hq).2.2 ((h3 _ hr).2 _ hq)) (by omega)
def inB (f:MQ) (q:Rat) (p:dQ):Bool:=decide ((xX f p).2.1=0)&&decide (BF (xX f p).1.x q<=0)
def inP (f:MQ) (q:Rat) (l:List dQ) (k:Nat):List Int:=((List.range k).filter fun i=>inB f q (l.getD i vY)).map fun i:Nat=>(i:Int)
theorem a9Z {f:MQ} (hf:m33 100 f) {p:dQ} (h1:cdP p.1) (h2:cdP p.2.1):rsz (xX f p).1.x<=20000/\((xX f p).2.1=0->(xX f p).1.ok=true):=by
 unfold xX
 by_cases h0:TF f p=0
 ·rw[jq h0]
  exact⟨by show rsz 0<=_;rw[show rsz 0=1 by decide +kernel];omega,fun h=>absurd h (by decide)⟩
 ·rw[jk h0]
  refine⟨?_,fun _=>rfl⟩
  show rsz (uS f p*uS f p / TF f p)<=_
  have b1:rsz (uS f p)<=4000:=iq (LU (A:=2) (B:=1000) fun j hj=>⟨bF (GN h2) (by rw[nX];exact hj),bF (CZ hf h1) (by rw[qQ hf];exact hj)⟩) (by omega)
  have s4:∀ q ∈ qE f p,rsz q<=1000:=fun q hq=>by
   have sa:=CZ hf h1
   have sb:=CZ hf.tr h2
   have la:=qQ hf p.1
   have lb:=qQ hf.tr p.2.1
   simp only[qE,qj,Df,or_false] at hq
   rcases hq with rfl|rfl|rfl|rfl
   ·exact bF sa (by omega)
   ·exact bF sa (by omega)
   ·exact bF sb (by omega)
   ·exact bF sb (by omega)
  have b2:rsz (TF f p)<=9000:=iq (LU (A:=1000) (B:=1000) fun j hj=>⟨bF s4 hj,bF s4 hj⟩) (by omega)
  have b3:=b2p (uS f p*uS f p) (TF f p) h0
  have b4:=nT (uS f p) (uS f p)
  omega
theorem LV {n:Int} (h:nZ n=false):cdI n:=by
 unfold nZ at h
 rw[ji,au,au] at h
 exact⟨by omega,by omega⟩
theorem a9A {l:List dQ} (h:vP l=0):∀ p ∈ l,cdP p.1/\cdP p.2.1:=fun p hp=>by
 have h1:l.any EJ=false:=by
  unfold vP at h
  cases e:l.any EJ
  ·rfl
  ·rw[e] at h;exact absurd h (by decide)
 have h2:EJ p=false:=by
  have:=Bc.mp h1 p hp
  simpa using this
 unfold EJ at h2
 simp only[List.any_cons,List.any_nil,Bool.or_false,ji] at h2
 exact⟨⟨LV h2.1,LV h2.2.1⟩,LV h2.2.2.1,LV h2.2.2.2⟩
theorem EW (f:MQ) (q:Rat) (l:List dQ) (k:Nat):inP f q l (k+1)=inP f q l k++(if inB f q (l.getD k vY)=true then [(k:Int)] else []):=by
 unfold inP
 rw[Dn,List.filter_append,List.map_append]
 congr 1
 by_cases h:inB f q (l.getD k vY)=true
 ·rw[Dw,List.filter_nil,jq h,jq h];rfl
 ·rw[Dw,List.filter_nil,jk h,jk h];rfl
theorem MG (f:MQ) (q:Rat) (l:List dQ) (k:Nat):(inP f q l k).length<=k:=by
 unfold inP
 rw[Bf]
 exact iq (List.length_filter_le _ _) (by simp)
def rY (f:MR) (l:List dQ) (q:aF):List Int × Int × Unit :=
 if l.length > 64 then ([],3,()) else if (!oZ f || !q.ok)=true then ([],1,()) else if vP l≠0 then ([],2,()) else if sgn q.x.num<0 then ([],2,()) else (inP (mq8 f) q.x l l.length,0,())
noncomputable def c0j:Ctr:=⟨[tMR,.list KR,tR],[.list tI,tI],fun x=>JO x.1/\smQ x.2.2.1,fun x=>rY x.1 x.2.1 x.2.2.1⟩
theorem b1q:aT Tryz.prog 45 c0j:=by
 refine bY ((((((nil0.ad b3w).ad b8g).ad b0t).ad b2I).ad a6c).ad b2x) ⟨[11,12],[],[]⟩ Tryz.func45 rfl (by decide) (fun x=>[.inv {k:Nat // k<=(show List dQ from x.2.1).length} (fun k=>[(35,.val tI (k.1:Int)),(9,.own 56 0),(56,.any)]) (fun k=>[(56,.row 3 tI (inP (mq8 x.1) (show aF from x.2.2.1).x x.2.1 k.1) 0)]) (fun k=>(show List dQ from x.2.1).length-k.1) ⟨0,by omega⟩ (fun _=>[])]) (fun x hp=>?_)
 obtain⟨f,l,q,u⟩:=x
 change List (List aF) at f
 change List dQ at l
 change aF at q
 refine dM (let A₀:=(rY f l q).2;ifB (decide (aB l.length > 64)) (True/\aP Int=Prod.fst (rY f l q)/\True/\3=Prod.fst A₀/\True) ((JO f/\(((!oZ f)==false)=true->((!oZ f)==false)=true/\(aF.n q<=1000000000/\aF.m q<=1000000000)/\True)/\(((!oZ f)==false)=true->((!oZ f)==false)=true/\True)/\((!oZ f)=false->((!oZ f)==false)=true)/\True)/\ifB (bif !oZ f then true else !aF.ok q) (True/\aP Int=Prod.fst (rY f l q)/\True/\1=Prod.fst A₀/\True) ((List.length l<=1000000/\True)/\ifB (vP l != 0) (True/\aP Int=Prod.fst (rY f l q)/\True/\vP l=Prod.fst A₀/\True) ((aF.ok q=true/\rsz (aF.x q)<=1000000000/\True)/\ifB (decide (sgn (Rat.num (aF.x q))<0)) (True/\aP Int=Prod.fst (rY f l q)/\True/\2=Prod.fst A₀/\True) ((asT Int 0=0/\(True/\asT (List Int) (aP Int)=aP Int)/\(asT (List Int) (aP Int)=aP Int/\0=0/\asT Bool true=true)/\True)/\∀ (i:{ k:Nat // k<=List.length l }),let A₁:=(List.getD l (aB (aA i)).toNat vY);let fO:=(xX (mq8 f) A₁).1;let jX:=(xX (mq8 f) A₁).2;let A₂:=((Prod.fst jX==0)==true);asT Bool true=true/\ifB (decide (aB (aA i)<aB l.length)) ((0<=aB (aA i)/\aB (aA i)<aB l.length/\True)/\(qO (fun(x:Ty.den (Ty.list (Ty.lf Lf.iZ)))=>dR (qO (fun(x:Ty.den (Ty.lf Lf.iZ))=>dR ((aF.ok x=true)::aP Cd)) x::aP Cd)) f/\(m33 100 (mq8 f)/\cdP (Prod.fst A₁.1,Prod.fst A₁.1.2,())/\cdP (Prod.fst A₁.2.1,Prod.fst A₁.2.1.2,()))/\True)/\((A₂=true->A₂=true/\A₂=true/\aF.ok fO=true/\aF.ok q=true/\s44 (aF.x fO) (aF.x q)/\True)/\(A₂=true->A₂=true/\True)/\((Prod.fst jX==0)=true->A₂=true)/\True)/\ifB (bif Prod.fst jX==0 then decide (BF (aF.x fO) (aF.x q)<=0) else false) ((List.length (inP (mq8 f) (aF.x q) l (aA i))+List.length (aB (aA i)::aP Int)<=1000000000/\True)/\∃ (i':{ k:Nat // k<=List.length l }),List.length l-aA i'<List.length l-aA i/\IntKind.wrap IntKind.i64 (aB (aA i)+1)=aB (aA i')/\inP (mq8 f) (aF.x q) l (aA i)++aB (aA i)::aP Int=inP (mq8 f) (aF.x q) l (aA i')/\True) (∃ (i':{ k:Nat // k<=List.length l }),List.length l-aA i'<List.length l-aA i/\IntKind.wrap IntKind.i64 (aB (aA i)+1)=aB (aA i')/\inP (mq8 f) (aF.x q) l (aA i)=inP (mq8 f) (aF.x q) l (aA i')/\True)) (True/\inP (mq8 f) (aF.x q) l (aA i)=Prod.fst (rY f l q)/\True/\0=Prod.fst A₀/\True)))))) (by kernel_rfl) ?_
 have hZ:(⟨false,0,[],[]⟩:aF)=cZ:=rfl
 try simp only[aQ,ay,au]
 try dsimp only[aB,asT,aA,aP,Ty.den,Lf.den] at *
 try simp only[hZ,Int.toNat_natCast,aQ,ay,au,og,ny,jg,jf]
 try simp only[iH,iG,List.all_cons,List.all_nil,qh,jc,jr,je,qo,ne_eq,aj,jo,jm,jv,oh,yw,qp,yx,og,ny,lg,ji,List.length_cons,List.length_nil]
 have hp2:JO f/\smQ q:=hp
 have hs:=hp2.1
 have hq:=hp2.2
 refine⟨fun h=>?_,fun h=>⟨⟨hs,fun h1=>⟨h1,by have:=hq.1;omega,by have:=hq.2.1;omega⟩⟩,fun h1=>?_,fun h1=>⟨by omega,fun h2=>?_,fun h2=>⟨⟨h1.2,by have:=hq.2.2 h1.2;omega⟩,fun h3=>?_,fun h3 i=>⟨fun h4=>?_,fun h4=>?_⟩⟩⟩⟩⟩
 ·unfold rY;rw[jq (by omega)];exact⟨rfl,rfl⟩
 ·unfold rY;rw[jk (by omega),jq (by rcases h1 with h1|h1<;>rw[h1]<;>simp)];exact⟨rfl,rfl⟩
 ·unfold rY;rw[jk (by omega),jk (by rw[h1.1,h1.2];decide),jq h2]
  refine⟨rfl,?_⟩
  show vP l=2
  revert h2;unfold vP;cases l.any EJ<;>simp
 ·unfold rY;rw[jk (by omega),jk (by rw[h1.1,h1.2];decide),jk (by rw[h2];decide),jq h3];exact⟨rfl,rfl⟩
 ·have hi:i.1<l.length:=by omega
  have hm:=a4W hs h1.1
  have hc:=a9A h2 _ (mM (d:=vY) hi)
  have hz:=a9Z hm.1 hc.1 hc.2
  have hqs:=hq.2.2 h1.2
  refine⟨⟨by omega,h4⟩,⟨mZ.mpr fun r hr=>⟨mZ.mpr fun q hq=>⟨hm.2 r hr q hq,trivial⟩,trivial⟩,hm.1,hc.1,hc.2⟩,fun h5=>⟨h5,h5,hz.2 h5,h1.2,⟨by omega,by omega⟩⟩,fun h5=>⟨by have:=MG (mq8 f) q.x l i.1;omega,⟨i.1+1,by omega⟩,by simp only;omega,by rw[cO (by omega) (by omega)];rfl,?_⟩,fun h5=>⟨⟨i.1+1,by omega⟩,by simp only;omega,by rw[cO (by omega) (by omega)];rfl,?_⟩⟩
  ·show _=inP (mq8 f) q.x l (i.1+1)
   rw[EW,jq (by unfold inB;rw[h5.1,h5.2];rfl)]
  ·show _=inP (mq8 f) q.x l (i.1+1)
   rw[EW,jk (fun h6=>by
    unfold inB at h6
    rw[aj,ay] at h6
    have h7:=h5 h6.1
    rw[h7] at h6
    exact absurd h6.2 (by decide)),zo]
 ·rw[show i.1=l.length by have:=i.2;omega]
  unfold rY;rw[jk (by omega),jk (by rw[h1.1,h1.2];decide),jk (by rw[h2];decide),jk h3];exact⟨rfl,rfl⟩
section
set_option maxRecDepth 20000
theorem lV (t:Ty) (x:t.den):fQ t t x=some x:=by unfold fQ;rw[dif_pos rfl]
def a8q (R R':Rho):K->K
 | .val t x=>.val t x
 | .nil=>.nil
 | .ptr r o=>if (aO R r).yU&&(aO R' r).yU then .ptr r o else .any
 | .own r v=>if zG v (aO R r)&&zG 0 (aO R' r) then .own r 0 else .any
 | _=>.any
theorem a8r {R R':Rho} (k:K):leK R R' k (a8q R R' k):=by
 cases k<;>try exact trivial
 ·exact lV _ _
 ·rename_i r o
  show leK R R' _ (if _ then _ else _)
  split
  ·rename_i h
   rw[aj] at h
   exact⟨rfl,rfl,Res.qY h.1,Res.qY h.2⟩
  ·trivial
 ·rename_i r v
  show leK R R' _ (if _ then _ else _)
  split
  ·rename_i h
   rw[aj] at h
   exact⟨rfl,rfl,sJ h.1,sJ h.2⟩
  ·trivial
def keepR:Res->Res
 | .jY _=>.none
 | .mat e e2 t (some l) xss v=>if l.Nodup then .mat e e2 t none (l.map fun i=>xss.getD i []) 0 else .mat e e2 t (some l) xss 0
 | x=>a9u x
theorem a8s {R R':Rho} (x:Res):leR R R' x (keepR x):=by
 cases x with
 | none=>trivial
 | gone=>trivial
 | jY k=>trivial
 | box ps =>
  show leP ps ps
  induction ps with
  | nil=>trivial
  | cons p ps ih=>exact⟨lV _ _,ih⟩
 | row e t xs v=>exact⟨rfl,rfl,lV _ _⟩
 | fro t xs v=>exact⟨rfl,lV _ _⟩
 | mat e e2 t ids xss v =>
  cases ids
  ·exact⟨rfl,rfl,rfl,rfl,lV _ _⟩
  ·rename_i l
   show leR R R' _ (if _ then _ else _)
   split
   ·rename_i h
    exact⟨rfl,rfl,rfl,h,lV _ _⟩
   ·exact⟨rfl,rfl,rfl,rfl,lV _ _⟩
def GL (R:Rho):List Nat->Rho
 | []=>[]
 | r::k=>(r,keepR (aO R r))::GL R k
theorem TV (R:Rho) (r:Nat):∀ k,aO (GL R k) r=keepR (aO R r)\/aO (GL R k) r=.none
 | []=>.inr rfl
 | q::k=>by
  simp only[GL,aO]
  split
  ·rename_i e;subst e;exact .inl rfl
  ·exact TV R r k
def VU (G:Gam) (R R':Rho):List Nat->Gam
 | []=>[]
 | s::k=>(s,a8q R R' (aV G s))::VU G R R' k
theorem TU (G:Gam) (R R':Rho) (s:Nat):∀ k,aV (VU G R R' k) s=a8q R R' (aV G s)\/aV (VU G R R' k) s=.any
 | []=>.inr rfl
 | q::k=>by
  simp only[VU,aV]
  split
  ·rename_i e;subst e;exact .inl rfl
  ·exact TU G R R' s k
def b0n (G:Gam) (k:List Nat):List Nat:=k.flatMap fun s=>(aV G s).res
section
variable {B:Book} {W:World} {base:Fix}
theorem b2E {G:Gam} {R:Rho} {a:Act} {w:World} {k zs:List Nat} (h:St B W base G R a w):St B W base (VU G R (GL R zs) k) (GL R zs) a w :=
 b3k h (fun s=>.inl (by
  rcases TU G R (GL R zs) s k with e|e<;>rw[e]
  ·exact a8r _
  ·cases aV G s<;>trivial)) fun r=>by
  rcases TV R r zs with e|e<;>rw[e]
  ·exact a8s _
  ·cases aO R r<;>trivial
abbrev XS:Type:=Exit × Gam × Rho
def evL (F:Gam->Rho->Option XS) (k:List Nat):Nat->Gam->Rho->Option XS
 | 0,_,_=>none
 | n+1,G,R=>match F G R with
  | some (.normal,G',R')=>evL F k n (VU G' R' (GL R' (b0n G' k)) k) (GL R' (b0n G' k))
  | x=>x
def WR (l:List Cd):Bool:=match a0a l with
 | .isTrue _=>true
 | .isFalse _=>false
theorem WS {l:List Cd} (h:WR l=true):dR l:=by
 unfold WR at h
 split at h
 ·assumption
 ·cases h
def a7v (G:Gam) (R:Rho) (s:Nat):Gam × Rho:=match qJ (aO R) (aV G s) with
 | some (p,l)=>((s,.val p.t p.x)::G,aft R l)
 | none=>(G,R)
def a7w (G:Gam) (R:Rho):List Nat->Gam × Rho
 | []=>(G,R)
 | s::l=>a7w (a7v G R s).1 (a7v G R s).2 l
theorem b1d {G:Gam} {R:Rho} {s:Nat} {a:Act} {w:World} (h:St B W base G R a w):St B W base (a7v G R s).1 (a7v G R s).2 a w:=by
 unfold a7v
 split
 ·rename_i p l hp
  obtain⟨E,h0,h1,h2⟩:=h
  have hp2:uK (aO R) none (aV G s)=some (p,l):=by
   cases hk:aV G s<;>rw[hk] at hp<;>first|exact hp|cases hp
  obtain⟨E',m1,m2,m3⟩:=lQ hp2 h1 (h2.wf s) (h2.holds s)
  refine⟨E',m2.fix.trans h0,by rw[nN];exact m1,h2.size,h2.defers,fun q=>?_,fun q=>?_,fun q hq=>by rw[m2.par];exact h2.par q hq⟩
  ·simp only[aV,nN]
   split
   ·trivial
   ·exact m2.wf _ (h2.wf q)
  ·simp only[aV,nN]
   split
   ·rename_i e;subst e;exact m3
   ·exact m2.holds _ _ (h2.wf q) (h2.holds q)
 ·exact h
theorem a3M {a:Act} {w:World}:∀ {l:List Nat} {G:Gam} {R:Rho},St B W base G R a w->St B W base (a7w G R l).1 (a7w G R l).2 a w
 | [],_,_,h=>h
 | s::l,_,_,h=>a3M (l:=l) (b1d (s:=s) h)
def b3r (ops:Array Oper):List Nat:=ops.toList.flatMap fun o=>tmpsOf o.op
inductive Kp where
 | mk (k:List Nat) (sub:List Kp)
def ev (B:Book) (N:Nat):Code->List Kp->Gam->Rho->Option XS
 | .skip,_,G,R=>some (.normal,G,R)
 | .label _,_,G,R=>some (.normal,G,R)
 | .exit i,_,G,R=>some (.exit i,G,R)
 | .ret,_,G,R=>some (.ret,G,R)
 | .region _ ops draw,_,G,R=>match iU B ops draw G R with
  | some (vc,G',R')=>if WR vc then some (.normal,G',R') else none
  | none=>match iU B ops draw (a7w G R (b3r ops)).1 (a7w G R (b3r ops)).2 with
   | some (vc,G',R')=>if WR vc then some (.normal,G',R') else none
   | none=>none
 | .seq a b,A,G,R=>match ev B N a (A.take (nl a)) G R with
  | some (.normal,G',R')=>ev B N b (A.drop (nl a)) G' R'
  | x=>x
 | .cond c t e,A,G,R=>match opK (aV G) c with
  | .val .bool b=>match (b:Bool) with
   | true=>ev B N t (A.take (nl t)) G R
   | false=>ev B N e (A.drop (nl t)) G R
  | _=>none
 | .block i c,A,G,R=>match ev B N c A G R with
  | some (.exit j,G',R')=>if j=i then some (.normal,G',R') else some (.exit j,G',R')
  | x=>x
 | .loop c,A,G,R=>match A with
  | .mk k sub::_=>evL (ev B N c sub) k N G R
  | []=>none
 | _,_,_,_=>none
def PX (B:Book) (W:World) (base:Fix) (x:XS) (e:Exit) (a:Act) (w:World):Prop:=e=x.1/\St B W base x.2.1 x.2.2 a w
theorem a7q (hB:B.Ok) (hm:B.P.follows .mixedOrders=true) {N:Nat}:∀ (c:Code) {A:List Kp} {G:Gam} {R:Rho} {x:XS} {a:Act} {w:World},ev B N c A G R=some x->St B W base G R a w->c.wp B.P (PX B W base x) a w:=by
 intro c
 induction c with
 | skip=>intro A G R x a w h hs;cases h;exact wp_skip ⟨rfl,hs⟩
 | label l=>intro A G R x a w h hs;cases h;exact wp_label ⟨rfl,hs⟩
 | exit i=>intro A G R x a w h hs;cases h;exact wp_exit ⟨rfl,hs⟩
 | ret=>intro A G R x a w h hs;cases h;exact wp_ret ⟨rfl,hs⟩
 | region id ops draw =>
  intro A G R x a w h hs
  simp only[ev] at h
  have key:∀ {G R vc G' R'},iU B ops draw G R=some (vc,G',R')->(if WR vc then some (Exit.normal,G',R') else none)=some x->St B W base G R a w->(Code.region id ops draw).wp B.P (PX B W base x) a w:=fun {G R vc G' R'} hr h hs=>by
   split at h<;>try(cases h;done)
   rename_i hv
   cases h
   refine Az (FV (id:=id) hB hm (Q:=fun e G2 R2=>e=.normal/\G2=G'/\R2=R') hr (WS hv) ⟨rfl,rfl,rfl⟩ hs) (fun e a' w' hp=>?_)
   obtain⟨G2,R2,⟨rfl,rfl,rfl⟩,k2⟩:=hp
   exact⟨rfl,k2⟩
  split at h
  ·rename_i hr
   exact key hr h hs
  ·split at h<;>try(cases h;done)
   rename_i hr
   exact key hr h (a3M hs)
 | seq p q ihp ihq =>
  intro A G R x a w h hs
  simp only[ev] at h
  split at h
  ·rename_i G' R' h1
   refine wp_seq (Az (ihp h1 hs) (fun e a' w' hp=>?_))
   obtain⟨rfl,k2⟩:=hp
   exact ihq h k2
  ·rename_i hn
   refine wp_seq (Az (ihp h hs) (fun e a' w' hp=>?_))
   obtain⟨rfl,k2⟩:=hp
   obtain⟨e,G',R'⟩:=x
   cases e with
   | normal=>exact absurd h (hn _ _)
   | _=>exact⟨rfl,k2⟩
 | cond c t e iht ihe =>
  intro A G R x a w h hs
  simp only[ev] at h
  split at h<;>try(cases h;done)
  rename_i b hk
  have hs2:=hs
  obtain⟨E,h0,h1,h2⟩:=hs2
  have hv:=(FH h2).2 c
  rw[hk] at hv
  refine wp_cond_split (nV hv) (fun hb=>?_) (fun hb=>?_)
  ·subst hb;exact iht h hs
  ·subst hb;exact ihe h hs
 | block id c ih =>
  intro A G R x a w h hs
  simp only[ev] at h
  refine wp_block ?_
  split at h
  ·rename_i j G' R' h1
   refine Az (ih h1 hs) (fun e a' w' hp=>?_)
   obtain⟨rfl,k2⟩:=hp
   simp only[Exit.inBlock]
   split at h
   ·rename_i e;cases h;rw[jq e];exact⟨rfl,k2⟩
   ·rename_i e;cases h;rw[jk e];exact⟨rfl,k2⟩
  ·rename_i hn
   refine Az (ih h hs) (fun e a' w' hp=>?_)
   obtain⟨rfl,k2⟩:=hp
   obtain⟨e,G',R'⟩:=x
   cases e with
   | exit j=>exact absurd h (hn _ _ _)
   | _=>exact⟨rfl,k2⟩
 | loop c ih =>
  intro A G R x a w h hs
  simp only[ev] at h
  split at h<;>try(cases h;done)
  rename_i k sub rest
  refine wp_loop_rounds N ?_
  have key:∀ n G R a w,evL (ev B N c sub) k n G R=some x->St B W base G R a w->Code.rounds B.P c (PX B W base x) n a w:=by
   intro n
   induction n with
   | zero=>intro G R a w h _;cases h
   | succ n ihn =>
    intro G R a w h hs
    rw[rounds_succ]
    simp only[evL] at h
    split at h
    ·rename_i G' R' h1
     refine Az (ih h1 hs) (fun e a' w' hp=>?_)
     obtain⟨rfl,k2⟩:=hp
     exact ihn _ _ _ _ h (b2E k2)
    ·rename_i hn
     refine Az (ih h hs) (fun e a' w' hp=>?_)
     obtain⟨rfl,k2⟩:=hp
     obtain⟨e,G',R'⟩:=x
     cases e with
     | normal=>exact absurd h (hn _ _)
     | _=>exact⟨rfl,k2⟩
  exact key N G R a w h hs
 | scope c ih=>intro A G R x a w h hs;cases h
 | goto l=>intro A G R x a w h hs;cases h
 | rangeFunc f ps x y _ _=>intro A G R x a w h hs;cases h
 | refuse s=>intro A G R x a w h hs;cases h
def a0r (B:Book) (G:Nat->K):(Nat->Res)->(ts:List Ty)->List ResultVar->Option (List Cd × (nest ts).den)
 | _,[],[]=>some ([],())
 | ρ,t::ts,r::rs=>match JK B G ρ t r with
  | some (p,l)=>match jT p.t t,a0r B G (after ρ l) ts rs with
   | some q,some (vc,y)=>some (q.c p.x++vc,(q.f p.x,y))
   | _,_=>none
  | none=>none
 | _,_,_=>none
theorem a0s {G:Nat->K}:∀ {ts:List Ty} {rs:List ResultVar} {ρ:Nat->Res} {vc:List Cd} {y:(nest ts).den},a0r B G ρ ts rs=some (vc,y)->dR vc->SY B G ρ ts rs y
 | [],[],_,_,_,_,_=>trivial
 | t::ts,r::rs,ρ,vc,y,h,hv=>by
  simp only[a0r] at h
  split at h<;>try(cases h;done)
  rename_i p l h1
  split at h<;>try(cases h;done)
  rename_i q vc2 y2 h2 h3
  cases h
  obtain⟨v1,v2⟩:=dD.1 hv
  simp only[SY,h1,h2]
  exact⟨v1,trivial,a0s h3 v2⟩
 | [],_::_,_,_,_,h,_=>by cases h
 | _::_,[],_,_,_,h,_=>by cases h
def b4O (B:Book) (ts:List Ty) (rs:List ResultVar):Option XS->Option (nest ts).den
 | some (.normal,G,R)=>match a0r B (aV G) (aO R) ts rs with
  | some (vc,y)=>if WR vc then some y else none
  | none=>none
 | some (.ret,G,R)=>match a0r B (aV G) (aO R) ts rs with
  | some (vc,y)=>if WR vc then some y else none
  | none=>none
 | _=>none
theorem b1T {ts:List Ty} {rs:List ResultVar} {x:Option XS} {y:(nest ts).den} (h:b4O B ts rs x=some y):∃ z,x=some z/\a6h B ts rs y z.1 z.2.1 z.2.2:=by
 unfold b4O at h
 split at h<;>try(cases h;done)
 all_goals
  split at h<;>try(cases h;done)
  rename_i vc y2 h2
  split at h<;>try(cases h;done)
  rename_i hv
  cases h
  exact⟨_,rfl,a0s h2 (WS hv)⟩
def b3l:(k:LK)->Nat->Res->Option k.ty.den
 | .row e t,v,.row e' t' xs v'=>if e'==e&&gv v'==gv v then fQ (.list t') (.list t) xs else none
 | .mat e e2 t,v,.mat e' e2' t' none xss v'=>if e'==e&&e2'==e2&&gv v'==gv v then fQ (.list (.list t')) (.list (.list t)) xss else none
 | _,_,_=>none
theorem a8B {k:LK} {v:Nat} {x:Res} {y:k.ty.den} (h:b3l k v x=some y):lkP k y v x:=by
 cases k<;>cases x<;>try(cases h;done)
 ·rename_i e t e' t' xs v'
  have h:(if (e'==e&&gv v'==gv v)=true then fQ (.list t') (.list t) xs else none)=some y:=h
  by_cases hb:(e'==e&&gv v'==gv v)=true
  ·rw[jq hb] at h
   simp only[lkP,h,hb,Ce]
  ·rw[jk hb] at h;cases h
 ·rename_i e e2 t e' e2' t' ids xss v'
  cases ids<;>try(cases h;done)
  have h:(if (e'==e&&e2'==e2&&gv v'==gv v)=true then fQ (.list (.list t')) (.list (.list t)) xss else none)=some y:=h
  by_cases hb:(e'==e&&e2'==e2&&gv v'==gv v)=true
  ·rw[jq hb] at h
   simp only[lkP,h,hb,Ce]
  ·rw[jk hb] at h;cases h
def lkK (k:LK) (ρ:Nat->Res) (only:Option Nat):K->Option k.ty.den
 | .own r v=>if only.all (fun q=>q==r) then b3l k v (ρ r) else none
 | _=>none
theorem a8C {k:LK} {ρ:Nat->Res} {o:Option Nat} {x:K} {y:k.ty.den} (h:lkK k ρ o x=some y):lkG k y ρ o x:=by
 cases x<;>try(cases h;done)
 simp only[lkK] at h
 split at h<;>try(cases h;done)
 rename_i ho
 simp only[lkG,ho,Ce]
 exact a8B h
def a9d (k:LK) (G:Gam) (R:Rho):List ResultVar->Option k.ty.den
 | [.tmp s]=>lkK k (aO R) none (aV G s)
 | _=>none
theorem a9e {k:LK} {G:Gam} {R:Rho} {y:k.ty.den}:∀ {rs:List ResultVar},a9d k G R rs=some y->mkP k y (aV G) (aO R) rs
 | [.tmp s],h=>a8C h
 | [],h=>by cases h
 | [.cell _ _],h=>by cases h
 | a::_::_,h=>by cases a<;>cases h
def b4M (k:LK) (rs:List ResultVar):Option XS->Option k.ty.den
 | some (.normal,G,R)=>a9d k G R rs
 | some (.ret,G,R)=>a9d k G R rs
 | _=>none
theorem b1R {k:LK} {rs:List ResultVar} {x:Option XS} {y:k.ty.den} (h:b4M k rs x=some y):∃ z,x=some z/\b2f k y rs z.1 z.2.1 z.2.2:=by
 unfold b4M at h
 split at h<;>first|(cases h;done)|exact⟨_,rfl,a9e h⟩
def IG (B:Book) (k:LK) (G:Nat->K):(Nat->Res)->(ts:List Ty)->List ResultVar->Option (List Cd × k.ty.den × (nest ts).den)
 | ρ,[],[]=>(lkK k ρ (some 0) (G 0)).map fun o=>([],o,())
 | ρ,t::ts,r::rs=>match JK B G ρ t r with
  | some (p,l)=>match jT p.t t,IG B k G (after ρ l) ts rs with
   | some q,some (vc,o,y)=>some (q.c p.x++vc,o,(q.f p.x,y))
   | _,_=>none
  | none=>none
 | _,_,_=>none
theorem TP {k:LK} {G:Nat->K} {o:k.ty.den}:∀ {ts:List Ty} {rs:List ResultVar} {ρ:Nat->Res} {vc:List Cd} {y:(nest ts).den},IG B k G ρ ts rs=some (vc,o,y)->dR vc->SX B k o G ρ ts rs y
 | [],[],ρ,vc,y,h,_=>by
  simp only[IG,ig,bf] at h
  obtain⟨o',h1,_,rfl,_⟩:=h
  exact a8C h1
 | t::ts,r::rs,ρ,vc,y,h,hv=>by
  simp only[IG] at h
  split at h<;>try(cases h;done)
  rename_i p l h1
  split at h<;>try(cases h;done)
  rename_i q vc2 o2 y2 h2 h3
  cases h
  obtain⟨v1,v2⟩:=dD.1 hv
  simp only[SX,h1,h2]
  exact⟨v1,trivial,TP h3 v2⟩
 | [],_::_,_,_,_,h,_=>by cases h
 | _::_,[],_,_,_,h,_=>by cases h
def b4N (B:Book) (k:LK) (ts:List Ty) (rs:List ResultVar):Option XS->Option (k.ty.den × (nest ts).den)
 | some (.normal,G,R)=>match IG B k (aV G) (aO R) ts rs with
  | some (vc,y)=>if WR vc then some y else none
  | none=>none
 | some (.ret,G,R)=>match IG B k (aV G) (aO R) ts rs with
  | some (vc,y)=>if WR vc then some y else none
  | none=>none
 | _=>none
theorem b1S {k:LK} {ts:List Ty} {rs:List ResultVar} {x:Option XS} {y:k.ty.den × (nest ts).den} (h:b4N B k ts rs x=some y):∃ z,x=some z/\b9G B k y.1 ts rs y.2 z.1 z.2.1 z.2.2:=by
 unfold b4N at h
 split at h<;>try(cases h;done)
 all_goals
  split at h<;>try(cases h;done)
  rename_i vc y2 h2
  split at h<;>try(cases h;done)
  rename_i hv
  cases h
  exact⟨_,rfl,TP h2 (WS hv)⟩
end
def a2M (B:Book) (code:Code) (fn:Func) (k:List Kp) (ts rs:List Ty) (x:(nest ts).den):Option (nest rs).den:=b4O B rs fn.results.toList (ev B 10000 code k (rH 0 ts x) [])
def b3L (B:Book) (code:Code) (fn:Func) (k:List Kp) (ts rs:List Ty):Ctr:=⟨ts,rs,fun x=>(a2M B code fn k ts rs x).isSome=true,fun x=>(a2M B code fn k ts rs x).getD (nest rs).zero⟩
theorem a3C {B:Book} (hB:B.Ok) (hm:B.P.follows .mixedOrders=true) {f:FuncId} {fn:Func} {code:Code} {k:List Kp} {ts rs:List Ty} (hf:B.P.funcs[f]?=some fn) (hb:fn.body=some code) (hN:fn.ntmps=B.N) (hkeep:B.keep=fun _=>false) (hargs:ts.length<=fn.ntmps):aT B.P f (b3L B code fn k ts rs) :=
 a3D hf hb hN hkeep hargs fun x hp W base a w hs=>by
  have hp:(a2M B code fn k ts rs x).isSome=true:=hp
  obtain⟨y,hy⟩:=Aq.1 hp
  obtain⟨z,h1,h2⟩:=b1T hy
  refine Az (a7q hB hm code h1 hs) fun e a' w' hq=>?_
  obtain⟨rfl,k⟩:=hq
  refine⟨z.2.1,z.2.2,?_,k⟩
  show a6h B rs fn.results.toList ((a2M B code fn _ ts rs x).getD (nest rs).zero) _ _ _
  rw[hy]
  exact h2
def runM (B:Book) (code:Code) (fn:Func) (ks:List Kp) (k:LK) (ts:List Ty) (x:(nest ts).den):Option k.ty.den:=b4M k fn.results.toList (ev B 10000 code ks (rH 0 ts x) [])
def b8R (B:Book) (code:Code) (fn:Func) (ks:List Kp) (k:LK) (ts:List Ty):mX:=.mk k ts (fun x=>(runM B code fn ks k ts x).isSome=true) (fun x=>(runM B code fn ks k ts x).getD k.ty.zero)
theorem b0T {B:Book} (hB:B.Ok) (hm:B.P.follows .mixedOrders=true) {f:FuncId} {fn:Func} {code:Code} {ks:List Kp} {k:LK} {ts:List Ty} (hf:B.P.funcs[f]?=some fn) (hb:fn.body=some code) (hN:fn.ntmps=B.N) (hkeep:B.keep=fun _=>false) (hargs:ts.length<=fn.ntmps):NOk B.P f (b8R B code fn ks k ts) :=
 a4h hf hb hN hkeep hargs fun x hp W base a w hs=>by
  obtain⟨y,hy⟩:=Aq.1 hp
  obtain⟨z,h1,h2⟩:=b1R hy
  refine Az (a7q hB hm code h1 hs) fun e a' w' hq=>?_
  obtain⟨rfl,j⟩:=hq
  refine⟨z.2.1,z.2.2,?_,j⟩
  rw[hy]
  exact h2
def runN (B:Book) (code:Code) (fn:Func) (ks:List Kp) (k:LK) (ts rs:List Ty) (x:k.ty.den) (y:(nest ts).den):Option (k.ty.den × (nest rs).den):=b4N B k rs fn.results.toList (ev B 10000 code ks ((0,.own 0 0)::rH 1 ts y) [(0,k.res x 0)])
def b8S (B:Book) (code:Code) (fn:Func) (ks:List Kp) (k:LK) (ts rs:List Ty):mX:=.chg k ts rs (fun x y=>(runN B code fn ks k ts rs x y).isSome=true) (fun x y=>((runN B code fn ks k ts rs x y).getD (x,(nest rs).zero)).1) (fun x y=>((runN B code fn ks k ts rs x y).getD (x,(nest rs).zero)).2)
theorem b0U {B:Book} (hB:B.Ok) (hm:B.P.follows .mixedOrders=true) {f:FuncId} {fn:Func} {code:Code} {ks:List Kp} {k:LK} {ts rs:List Ty} (hf:B.P.funcs[f]?=some fn) (hb:fn.body=some code) (hN:fn.ntmps=B.N) (hkeep:B.keep=fun s=>s==0) (hargs:ts.length+1<=fn.ntmps):NOk B.P f (b8S B code fn ks k ts rs) :=
 a8U hf hb hN hkeep hargs fun x y hp W base a w hs=>by
  obtain⟨r,hy⟩:=Aq.1 hp
  obtain⟨z,h1,h2⟩:=b1S hy
  refine Az (a7q hB hm code h1 hs) fun e a' w' hq=>?_
  obtain⟨rfl,j⟩:=hq
  refine⟨z.2.1,z.2.2,?_,j⟩
  rw[hy]
  exact h2
structure Sx where
 kb:List Nat:=[]
 mt:List (Nat × Ty):=[]
 k:List Kp:=[]
 caps:List TypeId:=[]
 new:Option LK:=none
 chg:Option LK:=none
def allocs:Code->List Nat
 | .region _ ops _=>ops.toList.filterMap fun o=>match o.op with
  | .alloc _=>o.dst
  | _=>none
 | .seq a b=>allocs a++allocs b
 | .cond _ a b=>allocs a++allocs b
 | .block _ c=>allocs c
 | .loop c=>allocs c
 | _=>[]
noncomputable def tyX (t:TypeId):Option Ty:=match Tryz.prog.underlying t with
 | some (.pointer e)=>(ZL (.lf .rat) 8 e).map .ref
 | _=>ZL (.lf .rat) 8 t
def a6K (caps:FuncId->List Ty):Option Ty->At->Option Ty
 | some t,_=>some t
 | none,.ty t=>some t
 | none,.fn g=>some (.clo g (nest (caps g)))
 | none,.no=>none
noncomputable def a5g (caps:FuncId->List Ty):List TypeId->List Ty->List At->Option (List Ty)
 | _,_,[]=>some []
 | p::ps,cs,a::ats=>match a6K caps (tyX p) a,a5g caps ps cs ats with
  | some t,some ts=>some (t::ts)
  | _,_=>none
 | [],c::cs,a::ats=>match a6K caps (some c) a,a5g caps [] cs ats with
  | some t,some ts=>some (t::ts)
  | _,_=>none
 | [],[],a::ats=>match a6K caps none a,a5g caps [] [] ats with
  | some t,some ts=>some (t::ts)
  | _,_=>none
noncomputable def resT:List TypeId->Option (List Ty)
 | []=>some []
 | t::ts=>match ZL (.lf .rat) 8 t,resT ts with
  | some u,some us=>some (u::us)
  | _,_=>none
abbrev CsX:Type:=FuncId->List At->List Ctr
abbrev NsX:Type:=FuncId->List At->List mX
noncomputable def JY (C:CsX) (D:NsX) (N:Nat) (h:Hint) (kp:Nat->Bool):Book:=⟨Tryz.prog,C,told h D,N,kp⟩
noncomputable def Sx.cps (s:Sx):List Ty:=s.caps.map fun t=>.ref ((ZL (.lf .rat) 8 t).getD .unit)
def Sx.hint (s:Sx) (code:Code):Hint:=⟨allocs code,s.kb,s.mt⟩
section
variable (C:CsX) (D:NsX) (sg:FuncId->Sx) (g:FuncId) (fn:Func) (code:Code) (ats:List At)
noncomputable def xC:List Ctr:=match a5g (fun g=>(sg g).cps) fn.params.toList (sg g).cps ats,resT fn.resultTypes.toList with
 | some ts,some rs=>if ts.length<=fn.ntmps then [b3L (JY C D fn.ntmps ((sg g).hint code) fun _=>false) code fn (sg g).k ts rs] else []
 | _,_=>[]
noncomputable def xM:List mX:=match (sg g).new,a5g (fun g=>(sg g).cps) fn.params.toList (sg g).cps ats with
 | some k,some ts=>if ts.length<=fn.ntmps then [b8R (JY C D fn.ntmps ((sg g).hint code) fun _=>false) code fn (sg g).k k ts] else []
 | _,_=>[]
noncomputable def xN:List mX:=match (sg g).chg,a5g (fun g=>(sg g).cps) fn.params.toList.tail (sg g).cps ats.tail,resT fn.resultTypes.toList with
 | some k,some ts,some rs=>if ts.length+1<=fn.ntmps then [b8S (JY C D fn.ntmps ((sg g).hint code) fun s=>s==0) code fn (sg g).k k ts rs] else []
 | _,_,_=>[]
end
noncomputable def a4X {α:Type} (g:FuncId) (F:Func->Code->List α):List α:=match Tryz.prog.funcs[g]? with
 | none=>[]
 | some fn=>match fn.body with
  | none=>[]
  | some code=>F fn code
theorem WA {α:Type} {g:FuncId} {F:Func->Code->List α} {c:α} (h:c ∈ a4X g F):∃ fn code,Tryz.prog.funcs[g]?=some fn/\fn.body=some code/\c ∈ F fn code:=by
 unfold a4X at h
 split at h<;>try(cases h;done)
 rename_i fn hf
 split at h<;>try(cases h;done)
 rename_i code hb
 exact⟨fn,code,hf,hb,h⟩
noncomputable def exB (L:Lib) (sg:FuncId->Sx):Nat->CsX × NsX
 | 0=>(fun g _=>BP L.l g,fun g _=>BP L.n g)
 | n+1=>(fun g ats=>BP L.l g++a4X g fun fn code=>xC (exB L sg n).1 (exB L sg n).2 sg g fn code ats,
  fun g ats=>BP L.n g++a4X g fun fn code=>xM (exB L sg n).1 (exB L sg n).2 sg g fn code ats++xN (exB L sg n).1 (exB L sg n).2 sg g fn code ats)
theorem a7s (L:Lib) (sg:FuncId->Sx):∀ n,(∀ g ats,∀ c ∈ (exB L sg n).1 g ats,aT Tryz.prog g c)/\∀ g ats,∀ c ∈ (exB L sg n).2 g ats,NOk Tryz.prog g c
 | 0=>⟨fun g _ c h=>L.ok (g,c) (mJ h),fun g _ c h=>L.okn (g,c) (mJ h)⟩
 | n+1=>by
  obtain⟨h1,h2⟩:=a7s L sg n
  refine⟨fun g ats c h=>?_,fun g ats c h=>?_⟩
  ·rcases tu.1 h with h|h
   ·exact L.ok (g,c) (mJ h)
   ·obtain⟨fn,code,hf,hb,h⟩:=WA h
    unfold xC at h
    split at h<;>try(cases h;done)
    split at h<;>try(cases h;done)
    rename_i hl
    rw[uj.1 h]
    exact a3C (B:=JY _ _ _ _ _) ⟨h1,h2⟩ mixed hf hb rfl rfl hl
  ·rcases tu.1 h with h|h
   ·exact L.okn (g,c) (mJ h)
   ·obtain⟨fn,code,hf,hb,h⟩:=WA h
    rcases tu.1 h with h|h
    ·unfold xM at h
     split at h<;>try(cases h;done)
     split at h<;>try(cases h;done)
     rename_i hl
     rw[uj.1 h]
     exact b0T (B:=JY _ _ _ _ _) ⟨h1,h2⟩ mixed hf hb rfl rfl hl
    ·unfold xN at h
     split at h<;>try(cases h;done)
     split at h<;>try(cases h;done)
     rename_i hl
     rw[uj.1 h]
     exact b0U (B:=JY _ _ _ _ _) ⟨h1,h2⟩ mixed hf hb rfl rfl hl
noncomputable def a5B (L:Lib) (sg:FuncId->Sx) (n:Nat) (g:FuncId) (ts rs:List Ty) (x:(nest ts).den):Option (nest rs).den:=match Tryz.prog.funcs[g]? with
 | none=>none
 | some fn=>match fn.body with
  | none=>none
  | some code=>if ts.length<=fn.ntmps then a2M (JY (exB L sg n).1 (exB L sg n).2 fn.ntmps ((sg g).hint code) fun _=>false) code fn (sg g).k ts rs x else none
theorem a3J {L:Lib} {sg:FuncId->Sx} {n:Nat} {g:FuncId} {ts rs:List Ty} {pre:(nest ts).den->Prop} {f:(nest ts).den->(nest rs).den} (h:∀ x,pre x->a5B L sg n g ts rs x=some (f x)):aT Tryz.prog g ⟨ts,rs,pre,f⟩:=by
 intro F w vs x a b hp
 have h1:=h x hp
 unfold a5B at h1
 split at h1<;>first|(cases h1;done)|skip
 rename_i fn hf
 split at h1<;>first|(cases h1;done)|skip
 rename_i code hb
 split at h1<;>first|(cases h1;done)|skip
 rename_i hl
 have t:=a3C (B:=JY (exB L sg n).1 (exB L sg n).2 fn.ntmps ((sg g).hint code) fun _=>false) (a7s L sg n) mixed hf hb rfl rfl hl (k:=(sg g).k) (rs:=rs) F w vs x a b (by show (a2M _ _ _ _ _ _ x).isSome=true;rw[h1];rfl)
 rw[show (b3L _ code fn (sg g).k ts rs).fn x=f x by show (a2M _ _ _ _ _ _ x).getD _=_;rw[h1];rfl] at t
 exact t
end
deriving instance DecidableEq for WM
deriving instance DecidableEq for aF
def Lf.deq:(l:Lf)->DecidableEq l.den
 | .rat=>inferInstanceAs (DecidableEq Rat)
 | .big=>inferInstanceAs (DecidableEq Int)
 | .iZ=>inferInstanceAs (DecidableEq aF)
 | .FN=>inferInstanceAs (DecidableEq WM)
 | .str=>inferInstanceAs (DecidableEq ByteArray)
 | .grp=>inferInstanceAs (DecidableEq (List Nat))
 | .gsl=>inferInstanceAs (DecidableEq (List Nat))
 | .LC=>inferInstanceAs (DecidableEq Nat)
 | .esl=>inferInstanceAs (DecidableEq Unit)
def Ty.deq:(t:Ty)->DecidableEq t.den
 | .bool=>inferInstanceAs (DecidableEq Bool)
 | .int _=>inferInstanceAs (DecidableEq Int)
 | .lf l=>l.deq
 | .list t=>letI:DecidableEq t.den:=t.deq
  inferInstanceAs (DecidableEq (List t.den))
 | .arr _ t=>letI:DecidableEq t.den:=t.deq
  inferInstanceAs (DecidableEq (List t.den))
 | .pair a b=>letI:DecidableEq a.den:=a.deq
  letI:DecidableEq b.den:=b.deq
  inferInstanceAs (DecidableEq (a.den × b.den))
 | .unit=>inferInstanceAs (DecidableEq Unit)
 | .ref t=>t.deq
 | .clo _ t=>t.deq
 | .nls t=>letI:DecidableEq t.den:=t.deq
  inferInstanceAs (DecidableEq (Option (List t.den)))
def PO {ts rs:List Ty} (x:(nest ts).den):List ((nest ts).den × (nest rs).den)->Option (nest rs).den
 | []=>none
 | p::l=>match (nest ts).deq x p.1 with
  | .isTrue _=>some p.2
  | .isFalse _=>PO x l
def a1U (ts rs:List Ty) (l:List ((nest ts).den × (nest rs).den)):Ctr:=⟨ts,rs,fun x=>(PO x l).isSome=true,fun x=>(PO x l).getD (nest rs).zero⟩
theorem UJ {ts rs:List Ty} {x:(nest ts).den} {y:(nest rs).den}:∀ {l:List ((nest ts).den × (nest rs).den)},PO x l=some y->(x,y) ∈ l
 | [],h=>by cases h
 | p::l,h=>by
  simp only[PO] at h
  split at h
  ·rename_i e _
   cases h
   rw[e];exact jl ..
  ·exact iy _ (UJ h)
theorem XJ {P:Program} {f:FuncId} {args res:List Ty} {pre:(nest args).den->Prop} {fn:(nest args).den->(nest res).den} {d d':∀ x,Dc (pre x)} (h:aT P f (@Ctr.mk args res pre fn d)):aT P f (@Ctr.mk args res pre fn d'):=fun F w vs x a b c=>h F w vs x a b c
theorem a7r {L:Lib} {sg:FuncId->Sx} {n:Nat} {g:FuncId} {ts rs:List Ty} {l:List ((nest ts).den × (nest rs).den)} (h:∀ p ∈ l,a5B L sg n g ts rs p.1=some p.2) (x:(nest ts).den) (hx:(PO x l).isSome=true):a5B L sg n g ts rs x=some ((PO x l).getD (nest rs).zero):=by
 obtain⟨y,hy⟩:=Aq.1 hx
 have h2:=h (x,y) (UJ hy)
 generalize a5B L sg n g ts rs x=e at h2 ⊢
 rw[hy]
 exact h2
theorem zT {L:Lib} {sg:FuncId->Sx} {n:Nat} {g:FuncId} {ts rs:List Ty} {l:List ((nest ts).den × (nest rs).den)} (h:∀ p ∈ l,a5B L sg n g ts rs p.1=some p.2):aT Tryz.prog g (a1U ts rs l):=by
 exact XJ (a3J (a7r h))
def b3m:List (Nat × Sx)->FuncId->Sx
 | [],_=>{}
 | (f,s)::l,g=>if g=f then s else b3m l g
def a2j:Nat->Nat->Nat->Nat
 | 0,_,r=>r
 | f+1,n,r=>if (r+n / r) / 2<r then a2j f n ((r+n / r) / 2) else r
def isq (n:Nat):Nat:=a2j n n n
theorem JG {n r s:Nat} (hr:1<=r) (hs:s*s<=n):s<=(r+n / r) / 2:=by
 have h1:n<(n / r+1)*r:=by rw[uw];exact Nat.lt_mul_div_succ n hr
 rw[Nat.le_div_iff_mul_le (by omega)]
 generalize n / r=q at *
 rcases Aa (r+q) (s*2) with h|h
 ·exfalso
  have h2:r+q+1<=2*s:=by omega
  have h3:(r+q+1)*(r+q+1)<=(2*s)*(2*s):=vw h2 h2
  have h4:4*((q+1)*r)<=(r+q+1)*(r+q+1):=by
   have:(4:Int)*((q+1)*r)<=(r+q+1)*(r+q+1):=by
    have h5:(0:Int)<=((r:Int)-(q+1))*((r:Int)-(q+1)):=by
     rcases Int.le_total 0 ((r:Int)-(q+1)) with h|h
     ·exact Int.mul_nonneg h h
     ·exact Int.mul_nonneg_of_nonpos_of_nonpos h h
    grind
   exact_mod_cast this
  grind
 ·exact h
theorem UO {n r:Nat} (hr:1<=r):n<((r+n / r) / 2+1)*((r+n / r) / 2+1):=by
 rcases Aa n (((r+n / r) / 2+1)*((r+n / r) / 2+1)) with h|h
 ·exact h
 ·have:=JG hr h;omega
theorem PZ {n r:Nat} (hr:1<=r) (h:¬ (r+n / r) / 2<r):r*r<=n:=by
 have h1:r<=n / r:=by omega
 exact(Nat.le_div_iff_mul_le hr).1 h1
theorem UF:∀ (f n r:Nat),1<=n->1<=r->r<=f->n<(r+1)*(r+1)->a2j f n r*a2j f n r<=n/\n<(a2j f n r+1)*(a2j f n r+1)
 | 0,n,r,_,h1,h2,_=>by omega
 | f+1,n,r,hn,h1,h2,h3=>by
  simp only[a2j]
  split
  ·rename_i h
   exact UF f n _ hn (JG h1 (by omega)) (by omega) (UO h1)
  ·rename_i h
   exact⟨PZ h1 h,h3⟩
theorem a8f {n:Nat} (h:1<=n):isq n*isq n<=n/\n<(isq n+1)*(isq n+1):=UF n n n h h (ak n) (by
 have:n*1<=n*n:=zf n h
 have:(n+1)*(n+1)=n*n+2*n+1:=by grind
 omega)
theorem b3u {a b n:Nat} (h1:a*a<=n) (h2:n<(b+1)*(b+1)):a<=b:=by
 rcases Aa b a with h|h
 ·have:=vw (show b+1<=a from h) (show b+1<=a from h);omega
 ·exact h
theorem b4p {n r:Nat} (h:1<=n) (h1:r*r<=n) (h2:n<(r+1)*(r+1)):r=isq n:=by
 obtain⟨h3,h4⟩:=a8f h
 have:=b3u h1 h4
 have:=b3u h3 h2
 omega
theorem a2J (M:Nat):Canon (List.replicate M 0++[1]):=by
 refine⟨fun g hg=>?_,by simp⟩
 rcases tu.1 hg with hg|hg
 ·rw[(Di.1 hg).2];exact gV
 ·rw[uj.1 hg,bI];decide
theorem a2K {x:Int} {G:List Nat} {L M:Nat} (h1:val G=x.natAbs) (h2:Canon G) (h3:G.length=L) (h4:((L:Int)+1) / 2=(M:Int)):Hid (x.natAbs<(val (List.replicate M 0++[1])+1)*(val (List.replicate M 0++[1])+1)):=by
 unfold Hid
 have h5:=mG h2.1
 rw[h1,h3] at h5
 have h6:BB ^ L<=BB ^ (M+M):=yc gV (by omega)
 rw[Dj] at h6
 rw[val_append,JU,Am,bP,show val ([]:List Nat)=0 from rfl]
 generalize BB ^ M=B at *
 rw[show 0+B*(1+BB*0)=B by simp]
 have:B*B<=(B+1)*(B+1):=vw (by omega) (by omega)
 omega
theorem a9E (p:Option Addr) (n c:Nat) (x:Int) (w:World) (hv:Raw w (.agg #[.bool false,.slice p n c]) x) (h1:1<=x) (hl:isz x<=400000000) :
  Calls Tryz.prog 181 #[.agg #[.bool false,.slice p n c]] w (fun e w'=>∃ r,e=.returned (.tuple #[r,.int .i64 0])/\bW w' r (isq x.natAbs:Nat)/\Below w.heap.size w w'):=by
 obtain⟨i0,hi,hz0,hz1,hz2⟩:=zh gB
 have hlx:(dig x.natAbs).length<=400000000:=hl
 clear hl
 have aZ:Below w.heap.size w w:=bg _ _
 go_enter Tryz.func181,Tryz.ntmps181
 go_wp2_with fail
 obtain⟨hA1,b0,c0⟩:=bx2 w rfl [.bool false,.slice p n c] 45 [.bool false,.slice none 0 0] 45
 have d0:=(hv.below hA1)
 (with_reducible refine(dJ _ (x) _ d0).mono ?_)
 rintro e w1 ⟨s1,rfl,hs1,hb1⟩
 obtain⟨p1,c1,rfl,SG,XZ⟩:=hs1.form
 have bT:=(b0.to hb1)
 have dA:=(c0.to hb1)
 have a0:=(Below.tr (Below.tr aZ hA1) hb1)
 have ha0:=hs1
 have hq0:=bT
 have hq1:=dA
 have hB0:=a0
 have hc0:=hq0.cs2
 have hL:0<(dig x.natAbs).length:=oq.2 (fun e=>by have:=aH x.natAbs;rw[e] at this;simp[val] at this;omega)
 have hD:=bn (aY x.natAbs)
 have hN:=bn (aH x.natAbs)
 generalize hG:dig x.natAbs=G at *
 obtain⟨L,hLe⟩:∃ L,G.length=L:=⟨_,rfl⟩
 rw[hLe] at hlx hL ha0 ⊢
 have hne:((L:Int)==0)=false:=by simp;omega
 obtain⟨M,hM⟩:∃ M:Nat,((L:Int)+1) / 2=M:=⟨(L+1) / 2,by omega⟩
 clear b0 c0 d0 bT dA a0 hs1 SG hA1 hb1 aZ hv
 have c1A:=hB0.size
 go_wp2_with (at_make;refine Cm _ rfl _ _ 43 rfl w.heap.size 148 i0 (.int .u32 0) 1 jw hi hz0 hz1 _ _ _ _ M rfl rfl (by omega) (by omega) (by rw[hz2];omega) (by unfold maxLen;omega) (by omega) ?_)
 intro w4 hq4 XW
 rw[iE] at hq4
 have hz4:w1.heap.size<=w4.heap.size:=XW.size
 have hb4:w1.heap.size<w4.heap.size:=(hq4.lt _ rfl).2
 go_wp2_with (at_builtin;refine wpList_append_lies rfl _ _ 43 rfl w.heap.size 148 i0 (.int .u32 0) 1 4 jw hi hz0 hz1 hz2 rfl (by decide) _ _ _ rfl (hq4.alloc _) ⟨w4.heap.size,0,none⟩ 1 1 [.int .u32 (((1:Nat)):Int)] rfl rfl (cell_one_new _ _ _) (by simp[Value.oneCell']) (by omega) (by unfold maxLen;omega) (by omega) (by simp;omega) ?_)
 intro gu' cu' w3 hu3 a0I hgx hgl
 have hB4:Below w.heap.size w w4:=hB0.grown XW (by omega) (fun k e=>by cases e)
 have hB3:Below w.heap.size w w3:=(hB4.alloc (by omega) _).grown a0I (by simp;omega) (fun k e=>by simp[Value.ownBlock] at e;omega)
 have hC4:Below w1.heap.size w1 w4:=(bg _ _).grown XW (by omega) (fun k e=>by cases e)
 have hC3:Below w1.heap.size w1 w3:=(hC4.alloc (by omega) _).grown a0I (by simp;omega) (fun k e=>by simp[Value.ownBlock] at e;omega)
 have ha3:=ha0.below hC3
 have hq3:=hq1.to hC3
 have hR3:Rd w3 (.slice (some ⟨gu',0,none⟩) (List.replicate M 0++[1]).length cu') (List.replicate M 0++[1]):=Rd.bU (by rw[dw,Am,EC];exact hu3)
 have hcan:Canon (List.replicate M 0++[1]):=a2J M
 have hval:Hid (x.natAbs<(val (List.replicate M 0++[1])+1)*(val (List.replicate M 0++[1])+1)):=a2K hN.out hD.out hLe hM
 have hlen:(List.replicate M 0++[1]).length<=400000000:=by simp;omega
 have hnn:List.replicate M 0++[1]≠[]:=by simp
 have hl0:=bn (show M+1=(List.replicate M 0++[1]).length by simp)
 generalize List.replicate M 0++[1]=l0 at *
 clear hu3 a0I hgx hgl XW hq4 hB4 hC4 hC3 hB0 hq0 hc0 hq1 hz4 hb4 hne hM
 go_wp2_with fail
 go_loopg [5,3,6,7,8,9,26,27,28,29,30,31,32,33,34,35,36,37,38,39,40,41,42,43,44,45] (val l0) (fun k r _ _ _ _ _ _ _ _ _ _ _ _ _ _ _ _ _ _ _ _ _ _ _ _ _ wr=>∃ (l:List Nat) (pr:Option Addr) (cr:Nat),r=.slice pr l.length cr/\Rd wr (.slice pr l.length cr) l/\Rd wr (.slice p1 L c1) G/\Canon l/\l≠[]/\l.length<=400000000/\Hid (x.natAbs<(val l+1)*(val l+1))/\Hid (k=val l)/\Bx wr (w.heap.size+1) [.bool false,.slice none 0 0]/\Below w.heap.size w wr)
 case atStart=>exact⟨l0,some ⟨gu',0,none⟩,cu',by rw[hl0.out],hR3,ha3,hcan,hnn,hlen,hval,rfl,hq3,hB3⟩
 case round =>
  obtain⟨l,pr,cr,rfl,hr,hg,ca,hnl,ll,hs,hk,hq,hB⟩:=hrel
  have hzB:=hB.size
  have hR1:0<val l:=ca.pos hnl
  have HQ:Hid ((dig (val G / val l)).length<=400000000):=by
   unfold Hid
   have:=aJ (Ad (val G) (val l))
   rw[dN hD.out,hLe] at this;omega
  have HS:Hid ((dig (val l+val G / val l)).length<=2000000000):=by
   unfold Hid
   have h3:=wM ((val l:Nat):Int) ((val G / val l:Nat):Int)
   have h4:isz ((val l:Nat):Int)=l.length:=by show (dig (val l)).length=_;rw[dN ca]
   have h5:isz ((val G / val l:Nat):Int)<=400000000:=HQ.out
   have h6:isz (((val l:Nat):Int)+((val G / val l:Nat):Int))=(dig (val l+val G / val l)).length:=rfl
   omega
  go_wp2_with fail
  refine(pX _ _ _ _ _ hg hr hD.out ca (by omega) hnl).mono ?_
  rintro e wa ⟨sq,sr,rfl,hqa,hra,hba⟩
  obtain⟨pq,cq,rfl,_,_⟩:=hqa.form
  obtain⟨pz,cz,rfl,_,_⟩:=hra.form
  have hr2:=hr.below hba
  have hg2:=hg.below hba
  have hq2:=hq.to hba
  have hB2:=Below.tr hB hba
  clear hr hg hq hB hba hra
  go_wp2_with fail
  refine(QE _ _ _ _ _ hr2 hqa ca.1 (bH _) (by omega) (by have:=HQ.out;omega)).mono ?_
  rintro e wb ⟨sv,rfl,hown,hbb⟩
  have hsa:=Rd.bU hown
  obtain⟨ps,cs,rfl,_,_⟩:=hsa.form
  have hr3:=hr2.below hbb
  have hg3:=hg2.below hbb
  have hq3:=hq2.to hbb
  have hB3:=Below.tr hB2 hbb
  clear hr2 hg2 hq2 hB2 hbb hown hqa
  go_wp2_with fail
  obtain⟨S,hS⟩:∃ S,val l+val (dig (val G / val l))=S:=⟨_,rfl⟩
  have HSv:Hid (val l+val G / val l=S):=by unfold Hid;rw[<-hS,aH]
  rw[HSv.out] at HS
  rw[hS] at hsa ⊢
  clear hS
  refine(short_any _ (dig S) 2 _ hsa (bH _) (by omega) (by omega) HS.out).mono ?_
  rintro e wc ⟨sn,rfl,hown,hbc⟩
  rw[aH] at hown
  obtain⟨T,hT⟩:∃ T,S / 2=T:=⟨_,rfl⟩
  rw[hT] at hown
  have hna:=Rd.bU hown
  obtain⟨pn,cn,rfl,_,_⟩:=hna.form
  have hr4:=hr3.below hbc
  have hg4:=hg3.below hbc
  have hq4:=hq3.to hbc
  have hB4:=Below.tr hB3 hbc
  clear hr3 hg3 hq3 hB3 hbc hown hsa
  have HT:Hid (S / 2=T):=hT
  clear hT
  by_cases hlt:T<val l
  ·go_wp2_with fail
   have hcmp:=iW _ _ _ _ _ hna hr4 (aY _) ca
   rw[aH,show dF (T:Int) (val l:Int)=-1 from jq (by omega)] at hcmp
   refine hcmp.mono ?_
   rintro e wd ⟨rfl,hbd⟩
   have hn5:=hna.below hbd
   have hg5:=hg4.below hbd
   have hq5:=hq4.to hbd
   have hB5:=Below.tr hB4 hbd
   clear hr4 hg4 hq4 hB4 hna hbd hcmp
   go_wp2_with fail
   go_roundg (T)
   case rel =>
    have hTq:x.natAbs<(T+1)*(T+1):=by
     have:=UO (n:=val G) (r:=val l) (by omega)
     rw[HSv.out,HT.out,hN.out] at this;exact this
    have hT1:1<=T:=by
     have:=JG (n:=val G) (r:=val l) (s:=1) (by omega) (by rw[hN.out];omega)
     rw[HSv.out,HT.out] at this;exact this
    exact⟨dig T,pn,cn,rfl,hn5,hg5,aY _,fun e=>by have:=aH T;rw[e] at this;simp[val] at this;omega,by have:=aJ (Dy hlt);rw[dN ca] at this;omega,by unfold Hid;rw[aH];exact hTq,by unfold Hid;rw[aH],hq5,hB5⟩
   case measure=>rw[hk.out];exact hlt
  ·go_wp2_with fail
   have hcmp:=iW _ _ _ _ _ hna hr4 (aY _) ca
   obtain⟨z,hz,hz0⟩:∃ z:Int,dF (T:Int) (val l:Int)=z/\0<=z:=by
    unfold dF
    rw[jk (by omega)]
    split
    ·exact⟨1,rfl,by omega⟩
    ·exact⟨0,rfl,by omega⟩
   rw[aH,hz] at hcmp
   refine hcmp.mono ?_
   rintro e wd ⟨rfl,hbd⟩
   have hr5:=hr4.below hbd
   have hq5:=hq4.to hbd
   have hB5:=Below.tr hB4 hbd
   clear hr4 hg4 hq4 hB4 hna hbd hcmp hz
   go_wp2_with fail
   refine(gI _ _ _ _ hr5 ca.1).mono ?_
   have HX:Hid (sg false (val l)=((isq x.natAbs:Nat):Int)):=by
    have h2:=PZ (n:=val G) (r:=val l) (by omega) (by rw[HSv.out,HT.out];exact hlt)
    rw[hN.out] at h2
    show ((val l:Nat):Int)=_
    rw[b4p (by omega) h2 hs.out]
   rintro e we ⟨rv,rfl,hrv,hbe⟩
   obtain⟨g2,p2,n2,c2,rfl⟩:=hrv.form
   have hq6:=hq5.to hbe
   obtain⟨k0,k1,k2,k3⟩:=hq6.cf2
   have hB6:=Below.tr hB5 hbe
   go_wp2_with fail
   exact iw (v:=.tuple #[.agg #[.bool g2,.slice p2 n2 c2],.int .i64 0]) (by simp[results,Tryz.results181,go_sem,k0,k1,k2,k3]) rfl ⟨_,rfl,dG (hrv.aG hq6 rfl rfl (.bool g2) (.slice p2 n2 c2)) HX.out,(Below.aG hB6 (b:=w.heap.size+1) (by omega) (.bool g2) (.slice p2 n2 c2))⟩
def b2O:Ctr:=⟨[tZ],[tZ,tI],fun x=>(1:Int)<=(show Int from x.1)/\isz x.1<=400000000,fun x=>(((isq (show Int from x.1).natAbs:Nat):Int),(0:Int),())⟩
theorem a9D:aT Tryz.prog 181 b2O:=by
 intro F w vs x hF hvs hp
 obtain⟨v,vs',rfl,h1,h3⟩:=hvs
 have h3:vs'=[]:=h3
 subst h3
 have hr:=pO h1
 have hw:=hr.raw
 obtain⟨s,e1,h2⟩:=hr
 obtain⟨p,c,rfl,_,_⟩:=h2.form
 rw[show decide ((show Int from x.1)<0)=false from tq (by have:=hp.1;omega)] at e1
 subst e1
 refine(a9E p _ c x.1 w hw hp.1 hp.2).mono ?_
 rintro e w' ⟨r,rfl,h4,hb⟩
 exact⟨_,rfl,⟨[_,_],rfl,_,_,rfl,VX h4,_,_,rfl,uI _,rfl⟩,hb⟩
set_option maxHeartbeats 1000000
noncomputable def LZc:Lib:=LZb.b8n 151 b2M a7B
noncomputable def LZd:Lib:=((((LZc
 ).add 182 (b8P dF) (b0N fun v u x y w h1 h2=>wF v u x y w h1 h2)
 ).add 181 b2O a9D
 ).add 143 (cIQ gX (fun i=>(i:Rat))) (WZ fun x w h=>zA x w h.1 h.2)
 ).add 121 (b8K s19 (fun x y=>decide (x=y))) (b0I fun v u x y w a b h=>a6r v u x y w a b h.1 h.2)
set_option maxHeartbeats 4000000
abbrev c0Z:Ty:=.pair tI (.pair tI .unit)
abbrev VP:Ty:=.pair tI (.pair tI (.pair tI (.pair tI .unit)))
abbrev b9I:Ty:=.pair tI (.pair tI (.pair tI .unit))
abbrev b0g:Ty:=.pair b9I (.pair VP (.pair tI (.pair c0Z .unit)))
def sta (x:Int):b0g.den:=((x,(0:Int),(0:Int),()),((1:Int),(0:Int),(0:Int),(0:Int),()),(64:Int),((0:Int),(0:Int),()),())
def f0:List (List Rat):=[[0,0,0],[0,0,1],[0,-1,0]]
abbrev b0f:Ty:=.pair VP (.pair (.arr 3 tZ) .unit)
def b1W (t:VP.den) (a b c:Int):b0f.den:=(t,[a,b,c],())
def pB:VP.den:=((0:Int),(1:Int),(0:Int),(0:Int),())
def pA:VP.den:=((1:Int),(0:Int),(0:Int),(0:Int),())
def c0C:List b0f.den:=[b1W pB 1 0 0,b1W pB (-1) 0 0,b1W pA 1 0 0,b1W pA (-1) 0 0]
def mR0:List (List Rat):=[[1,0,0],[0,-1,0],[0,0,-1]]
def mS0:List (List Rat):=[[1,0,0],[0,1,0],[0,0,1]]
abbrev LKk:LK:=.mat 39 47 tR
def sg0:FuncId->Sx:=b3m [(170,{ k:=[.mk [1,2,6,15,16,17] []] }),(169,{ k:=[.mk [2,3,5,6,20,21] [.mk [2,3,5,6,7,8,20,21] [],.mk [2,3,5,6,7,9,20,21] []]] }),(245,{ k:=[.mk [0,1,6,8] []],chg:=some (.row 47 tR) }),(244,{ new:=some LKk }),(276,{ caps:=[32] }),(184,{ k:=[.mk [1,2,6,7,13,14] [.mk [1,2,6,7,8,13,14,26,27] []]],mt:=[(11,tR)],new:=some LKk }),(242,{ caps:=[32] }),(211,{ k:=[.mk [0,1,4,7,8] []] }),(166,{ k:=[.mk [0,1,4,7,8] []] }),(185,{ caps:=[47,32] }),(273,{ caps:=[32] }),(64,{ k:=[.mk [0,4,7,8,9] []] }),(232,{ caps:=[32,32] }),(233,{ k:=[.mk [1,4,5,9,10,11] []] }),(230,{ k:=[.mk [2,6,7,8] []] }),(63,{ k:=[.mk [0,2,3,9,10,11] [],.mk [2,6,25,26,27] []] }),(56,{ k:=[.mk [2,3,6,7] []] }),(117,{ k:=[.mk [4,5,6,16,17] []] }),(209,{ k:=[.mk [0,4,5,11,12] []] }),(286,{ k:=[.mk [1,4,5,8,9,10] []] }),(285,{ caps:=[32] }),(116,{ k:=[.mk [2,5,6,7] []] }),(218,{ k:=[.mk [0,1,4,7,8] []] }),(227,{ caps:=[143] }),(226,{ caps:=[143] }),(271,{ k:=[.mk [0,1,4,7,8] []] }),(62,{ k:=[.mk [2,3,7,8,9] []] }),(149,{ k:=[.mk [0,2,3,22,23,24] [],.mk [2,3,10,11,12,44,45,46] [],.mk [2,10,11,79,80,81] []] }),(59,{ k:=[.mk [0,2,8,9,10] [],.mk [2,19,20,21] []] }),(21,{ k:=[.mk [2,3,23,24,25,135,136,137] []] }),(98,{ k:=[.mk [2,3,72,73,74] []] }),(198,{ k:=[.mk [1,2,3,4,14,15] [],.mk [2,3,4,7,23,24] []] }),(258,{ k:=[.mk [1,2,3,4,5,16,17] [],.mk [2,3,4,8,33,34] []] }),(197,{ k:=[.mk [2,5,6] []] }),(196,{ caps:=[32] }),(195,{ caps:=[32] }),(194,{ k:=[.mk [1,3,4,8,9] []],caps:=[32] }),(193,{ k:=[.mk [0,2,25,26,27] [.mk [0,2,7,25,26,27,32,33,34] []]] }),(189,{ caps:=[32,32] }),(188,{ caps:=[32,32] }),(93,{ k:=[.mk [0,2,3,11] [.mk [0,2,3,4,5,11,14] []]] }),(86,{ k:=[.mk [2,3,4,7,29] [.mk [2,3,4,7,8,9,29,32] [],.mk [2,3,4,7,12,13,29,60,61,62] []]] }),(159,{ k:=[.mk [0,1,4,5] []] }),(72,{ k:=[.mk [1,2,6,15,16,17] []] }),(154,{ kb:=[6] }),(237,{ caps:=[32,3] }),(236,{ k:=[.mk [0,4,5,12,13] [.mk [0,4,5,6,7,8,12,13] [],.mk [0,4,5,6,7,9,10,12,13] [],.mk [0,4,5,6,7,12,13,89,90] []]],chg:=some LKk }),(235,{ new:=some LKk }),(274,{ caps:=[32,32] }),(61,{ k:=[.mk [1,2,3,10,128,129] [.mk [1,2,3,10,13,128,129,132,133] []]] }),(146,{ k:=[.mk [2,9,10] []] })]
end Go.Proofs.YtbkocjmmbkifjaaGreat
