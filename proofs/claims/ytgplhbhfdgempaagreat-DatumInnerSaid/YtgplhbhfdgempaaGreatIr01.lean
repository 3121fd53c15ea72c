/-
  Lemmas for the theorem vinner_holds, part 1 of 2.
-/
import Derived.Test.YtgplhbhfdgempaaGreatDb01
import Derived.Test.YtgplhbhfdgempaaGreatDb02
import Derived.Test.YtgplhbhfdgempaaGreatDb03
import Derived.Test.YtgplhbhfdgempaaGreatDb04
import Derived.Test.YtgplhbhfdgempaaGreatDb05
import Derived.Test.YtgplhbhfdgempaaGreatDb06
import Derived.Test.YtgplhbhfdgempaaGreatDb07
import Derived.Test.YtgplhbhfdgempaaGreatDb08
import Derived.Test.YtgplhbhfdgempaaGreatDb09
import Derived.Test.YtgplhbhfdgempaaGreatDb10
import Derived.Test.YtgplhbhfdgempaaGreatDb11
import Derived.Test.YtgplhbhfdgempaaGreatDb12
import Derived.Test.YtgplhbhfdgempaaGreatDb13
import Derived.Test.YtgplhbhfdgempaaGreatDb14
import Derived.Test.YtgplhbhfdgempaaGreatDb15
import Derived.Test.YtgplhbhfdgempaaGreatDb16
import Derived.Test.YtgplhbhfdgempaaGreatDb17
import Derived.Test.YtgplhbhfdgempaaGreatDb18
import Derived.Test.YtgplhbhfdgempaaGreatDb19
import Derived.Test.YtgplhbhfdgempaaGreatDb20
import Derived.Test.YtgplhbhfdgempaaGreatDb21
import Derived.Test.YtgplhbhfdgempaaGreatDb22
import Derived.Test.YtgplhbhfdgempaaGreatDb23
import Derived.Test.YtgplhbhfdgempaaGreatDb24
import Derived.Test.YtgplhbhfdgempaaGreatDb25
import Derived.Test.YtgplhbhfdgempaaGreatDb26
import Derived.Test.YtgplhbhfdgempaaGreatDb27
import Derived.Test.YtgplhbhfdgempaaGreatDb28
import Derived.Test.YtgplhbhfdgempaaGreatDb29
import Derived.Test.YtgplhbhfdgempaaGreatDb30
import Derived.Test.YtgplhbhfdgempaaGreatDb31
import Derived.Test.YtgplhbhfdgempaaGreatDb32
import Derived.Test.YtgplhbhfdgempaaGreatDb33
import Derived.Test.YtgplhbhfdgempaaGreatDb34
import Derived.Test.YtgplhbhfdgempaaGreatDb35
import Derived.Test.YtgplhbhfdgempaaGreatDb36
import Derived.Test.YtgplhbhfdgempaaGreatDb37
namespace Go.Proofs.YtgplhbhfdgempaaGreat
open Go Go.RowKit
set_option linter.unusedSimpArgs false
set_option linter.unusedVariables false
set_option maxRecDepth 20000
theorem Bx.f8 {w:World} {b:Nat} {u0 u1 u2 u3 u4 u5 u6 u7 u8:Value} {cs:List Value} (h:Bx w b (u0::u1::u2::u3::u4::u5::u6::u7::u8::cs)):w.frozen? ⟨b,8,none⟩=false:=(h.2 8 u8 rfl).2
theorem oL.mvr {n:Nat} {a x:Mt} (H:oL n a x) (u:Nat->Rat) {i:Nat} (h:i<n):mv n a (mv n x u) i=u i:=by
 rw[<-yX,wI (b:=idm) (fun c hc=>H.r i h c hc),a0d h]
theorem a6d {N c:Nat} (g b w:Mt) (x:Nat->Rat) {i:Nat} (hi:i<N):mv N (uT c g b w) x i=x i-mv c g (mv c w (mv N (tr b) x)) i:=by
 have h1:mv N (uT c g b w) x i=mv N idm x i-mv N (mm c g (mm c w (tr b))) x i:=congrFun (congrFun (a7B N idm (mm c g (mm c w (tr b))) (fun k _=>x k)) i) 0
 rw[h1,a0d hi,yX]
 have:mv N (mm c w (tr b)) x=mv c w (mv N (tr b) x):=Ah fun s=>yX c N w (tr b) x s
 rw[this]
section
section
variable {N:Nat} {n g b w q k s I J:Mt}
end
theorem a3t {N c:Nat} {g w:Mt} (mk:Nat->Bool) (hw:oL c (bg N (fun i s=>if mk i then g i s else 0) g) w) (x t:Nat->Rat) :
  sm N (fun i=>if mk i then mv N (uT c g (fun i s=>if mk i then g i s else 0) w) x i*mv N (uT c g (fun i s=>if mk i then g i s else 0) w) x i else 0) <=
  sm N (fun i=>if mk i then (x i-mv c g t i)*(x i-mv c g t i) else 0):=by
 generalize hb:(fun i s=>if mk i then g i s else 0)=b at *
 generalize hz:mv c w (mv N (tr b) x)=z
 generalize hy:mv N (uT c g b w) x=y
 have h0:∀ i,i<N->y i=x i-mv c g z i:=fun i hi=>by rw[<-hy,<-hz];exact a6d g b w x hi
 have h1:∀ s,s<c->mv N (tr b) y s=0:=fun s hs=>by
  rw[uH h0,KI,<-yX]
  have:=hw.mvr (mv N (tr b) x) hs
  rw[hz] at this;unfold bg at this;rw[this];grind
 have h2:dt N y (mv c b (fun s=>z s-t s))=0:=by
  rw[b0N];exact kP c fun s hs=>by rw[h1 s hs];grind
 have h3:sm N (fun i=>if mk i then (x i-mv c g t i)*(x i-mv c g t i) else 0)=sm N (fun i=>if mk i then y i*y i else 0)+sm N (fun i=>if mk i then mv c g (fun s=>z s-t s) i*mv c g (fun s=>z s-t s) i else 0)+2*dt N y (mv c b (fun s=>z s-t s)):=by
  unfold dt
  rw[<-KO,<-wO,<-wO]
  refine fG N fun i hi=>?_
  have hbi:mv c b (fun s=>z s-t s) i=if mk i then mv c g (fun s=>z s-t s) i else 0:=by
   rw[<-hb]
   by_cases hm:mk i
   ·rw[eY hm];exact wI fun s _=>by simp only[eY hm]
   ·rw[dw hm];exact kP c fun s _=>by simp only[dw hm];grind
  rw[hbi,KI]
  have:=h0 i hi
  split
  ·rw[this];grind
  ·grind
 rw[h3,h2]
 have h4:=QD (f:=fun i=>if mk i then mv c g (fun s=>z s-t s) i*mv c g (fun s=>z s-t s) i else 0) N (fun i _=>by
  split
  ·exact sq_nonneg _
  ·grind)
 grind
end
theorem qAOz (a:MQ) (x:List Rat):(mvL a x).length=a.length:=by simp[mvL]
theorem a0c {a:MQ} {R C:Nat} (h:isM a R C) {x:List Rat} {i:Nat} (hi:i<R):lv (mvL a x) i=mv C (ent a) (lv x) i:=by
 unfold mvL;rw[h.len,h.wd];exact gG hi
theorem a8b {g b:MQ} {N c:Nat} (hg:isM g N c) (hb:isM b N c) {x:List Rat} {i:Nat} (hi:i<N):lv (mvL (sM g b) x) i=mv N (uT c (ent g) (ent b) (ent (oN (bgM g b)))) (lv x) i:=by
 rw[a0c (QB hg) hi];exact wI fun k hk=>b5E hg hb hi hk
set_option maxRecDepth 100000
set_option maxHeartbeats 1000000
def CV (g b:MR) (x:LR):LQ' × Int × Unit :=
 if (bW g=0/\bW b=0)/\okR x=true then
  if (b.length=g.length/\wdM b=wdM g)/\x.length=g.length then
   if kR (bgM (mq g) (mq b))=true then (mvL (sM (mq g) (mq b)) (lq x),0,()) else ([],14,())
  else ([],4,())
 else ([],1,())
def c2e:Ctr:=⟨[.pair tMR .unit,tMR,.list tR],[.list tQ,tI],fun x=>smK 100 x.1.1/\smK 100 x.2.1/\smL 500000 x.2.2.1,fun x=>CV x.1.1 x.2.1 x.2.2.1⟩
theorem b0O:aY Tryz.prog 35 c2e:=by
 refine bH (((((nil0.ad a2D).ad yH).ad a2P).ad OJ).ad LM) ⟨[],[],[]⟩ Tryz.func35 rfl (by decide) (fun x=>[]) (fun x hp=>?_)
 obtain⟨g,b,x,u⟩:=x
 change List (List aF) × Unit at g
 change List (List aF) at b
 change List aF at x
 refine bP (let A₂:=(asT (List (List aF)) g.1);let dB:=(Ty.list (Ty.lf Lf.aU));let aV:=(List.map (fun(xs:Ty.den dB)=>List.map (fun(x:Ty.den (Ty.lf Lf.aU))=>aF.x x) xs) A₂);let aP:=(List.map (fun(xs:Ty.den dB)=>List.map (fun(x:Ty.den (Ty.lf Lf.aU))=>aF.x x) xs) b);let A₁:=(AV aV aP);let dO:=(CV A₂ b x).2;let eH:=(List.map (fun(x:Ty.den (Ty.lf Lf.aU))=>aF.x x) x);let dU:=(aA (List.getD A₂ 0 (aC aF)).length);let A₀:=(!rE b (aA A₂.length) dU);((List.length (asT (List (List aF)) g.1::b::aC (List (List aF)))<=1000000/\∀ (a:List (List aF)),a ∈ asT (List (List aF)) g.1::b::aC (List (List aF))->iM a)/\(((!gW (asT (List (List aF)) g.1::b::aC (List (List aF)))==0)==false)=true->((!gW (asT (List (List aF)) g.1::b::aC (List (List aF)))==0)==false)=true/\sV x/\True)/\(((!gW (asT (List (List aF)) g.1::b::aC (List (List aF)))==0)==false)=true->((!gW (asT (List (List aF)) g.1::b::aC (List (List aF)))==0)==false)=true/\True)/\((!gW (asT (List (List aF)) g.1::b::aC (List (List aF)))==0)=false->((!gW (asT (List (List aF)) g.1::b::aC (List (List aF)))==0)==false)=true)/\True)/\ifB (bif !gW (asT (List (List aF)) g.1::b::aC (List (List aF)))==0 then true else !okR x) (True/\aC Rat=Prod.fst (CV A₂ b x)/\True/\1=Prod.fst dO/\True) ((asT Int 0<=0/\0<aA A₂.length/\0<List.length b/\((A₀==false)=true->(A₀==false)=true/\True)/\((A₀==false)=true->(A₀==false)=true/\True)/\((A₀==false)=true->(A₀==false)=true/\True)/\((A₀==false)=true->(A₀==false)=true/\(A₀==false)=true/\True)/\(A₀=false->(A₀==false)=true)/\True)/\ifB (bif !rE b (aA A₂.length) dU then true else aA x.length != aA A₂.length) (True/\aC Rat=Prod.fst (CV A₂ b x)/\True/\4=Prod.fst dO/\True) ((bY (fun(x:Ty.den dB)=>aW (bY (fun(x:Ty.den (Ty.lf Lf.aU))=>aW ((aF.ok x=true)::aC Prop)) x::aC Prop)) A₂/\bY (fun(x:Ty.den dB)=>aW (bY (fun(x:Ty.den (Ty.lf Lf.aU))=>aW ((aF.ok x=true)::aC Prop)) x::aC Prop)) b/\yZ aV aP/\True)/\ifB (!Prod.fst A₁.2) (True/\aC Rat=Prod.fst (CV A₂ b x)/\True/\14=Prod.fst dO/\True) ((bY (fun(x:Ty.den (Ty.lf Lf.aU))=>aW ((aF.ok x=true)::aC Prop)) x/\(okM A₁.1/\szM A₁.1 1000000/\List.length eH=wdM A₁.1/\∀ (q:Rat),q ∈ List.map (fun(x:Ty.den (Ty.lf Lf.aU))=>aF.x x) x->rsz q<=1000000)/\True)/\True/\mvL A₁.1 eH=Prod.fst (CV A₂ b x)/\True/\0=Prod.fst dO/\True)))) (by kernel_rfl) ?_
 try simp only[aJ,dh,bn]
 try dsimp only[Ty.den,Lf.den,asT] at *
 try simp only[uF,uD,trF,uG]
 have hZ:(⟨false,0,[],[]⟩:aF)=bV:=rfl
 try dsimp only[aA,asT,aB,aC,Ty.den,Lf.den] at *
 try simp only[hZ,Int.toNat_natCast,aJ,dh,bn,mg,mW,aH,nameAt,aX,aN,aZ,rowAt,iw,gJ]
 try simp only[jK,List.all_cons,List.all_nil,yx,nI,qw,jd,uy,ne_eq,ak,qg,nS,tC,xk,imp_self,AO,and_self,mg,mW,iD,qZ,qO,List.length_cons,List.length_nil]
 try simp only[wdF,iT,jA]
 have hp:smK 100 g.1/\smK 100 b/\smL 500000 x:=hp
 obtain⟨g,u2⟩:=g
 obtain⟨pg,pb,pr⟩:=hp
 dsimp only at pg ⊢
 refine⟨⟨⟨by omega,two pg.1 pb.1⟩,fun h=>⟨h,pr.1⟩⟩,fun h=>?_,fun h=>?_⟩
 ·unfold CV;rw[dw (fun hh=>h.elim (fun h1=>h1 hh.1.1 hh.1.2) (fun h1=>by rw[h1] at hh;exact absurd hh.2 (by decide)))];exact⟨rfl,rfl⟩
 ·have h0:=h
  obtain⟨⟨cg,cb⟩,cr⟩:=h
  obtain⟨hg,g7,wg7,gC⟩:=pg.at cg
  obtain⟨hb,b7,wb7,bC⟩:=pb.at cb
  have g0:=hg.2.2.1
  have b0:=hb.2.2.1
  refine⟨⟨by omega,by omega,by omega⟩,fun h=>?_,fun h=>?_⟩
  ·unfold CV;rw[eY h0,dw (by omega)];exact⟨rfl,rfl⟩
  ·have h1:=h
   obtain⟨⟨e3,e4⟩,e5⟩:=h
   have hP:yZ (mq g) (mq b):=AU pg pb cg cb e3 e4
   have F:=a3S hP
   have og:=lG (gX cg).2
   have ob:=lG (gX cb).2
   refine⟨⟨og,ob,hP⟩,fun h4=>?_,fun h4=>?_⟩
   ·unfold CV;rw[eY h0,eY h1,dw (by rw[a1R h4];decide)];exact⟨rfl,rfl⟩
   ·obtain⟨hR,hT⟩:=a1S h4
    rw[hT];dsimp only
    refine⟨⟨a0R cr,F.s2.ok F.s1 (by omega),F.s2.sz (by omega),?_,fun q hq=>jc (pr.q cr q hq) (by omega)⟩,?_⟩
    ·rw[wG,F.s1.wd,kT,e5]
    ·unfold CV;rw[eY h0,eY h1,eY hR];exact⟨rfl,rfl⟩
theorem c1F:aY Tryz.prog 46 (b6V s19 CP):=(a6I fun v u x y w a b h=>JF v u x y w a b h.1 h.2)
def qjWz (x:LQ'):MQ:=tab x.length 1 fun i _=>lv x i
def b0k:Ctr:=⟨[.list tQ],[tM],fun x=>(show LQ' from x.1).length<=1000,fun x=>(qjWz x.1,())⟩
def b6Q:Ctr:=⟨[tM],[.list tQ],fun x=>(show MQ from x.1).length<=1000/\∀ r ∈ (show MQ from x.1),1<=r.length,fun x=>((List.range (show MQ from x.1).length).map (fun i=>ent x.1 i 0),())⟩
theorem WZ:aY Tryz.prog 74 b0k:=by
 refine bH nil0 ⟨[],[],[]⟩ Tryz.func74 rfl (by decide) (fun x=>[.inv {k:Nat // k<=(show LQ' from x.1).length} (fun k=>[(4,.val tI (k.1:Int)),(3,.own 5 0),(5,.any),(19,.any)]) (fun k=>[(5,.row 32 (.list tQ) ((qjWz (show LQ' from x.1)).take k.1) 0)]) (fun k=>(show LQ' from x.1).length-k.1) ⟨0,by omega⟩ (fun _=>[])]) (fun x hp=>?_)
 obtain⟨x,u⟩:=x
 change List Rat at x
 refine bP ((asT Int 0=0/\asT (List (List Rat)) (aC (List Rat))=aC (List Rat)/\True)/\∀ (i:{ k:Nat // k<=List.length x }),asT Bool true=true/\ifB (decide (aA (aB i)<aA x.length)) ((0<=aA (aB i)/\aA (aB i)<aA x.length/\List.length (List.take (aB i) (qjWz x))+List.length ((List.getD x (aA (aB i)).toNat 0::aC Rat)::aC (List Rat))<=1000000000/\True)/\∃ (i':{ k:Nat // k<=List.length x }),List.length x-aB i'<List.length x-aB i/\IntKind.wrap IntKind.i64 (aA (aB i)+1)=aA (aB i')/\List.take (aB i) (qjWz x)++(List.getD x (aA (aB i)).toNat 0::aC Rat)::aC (List Rat)=List.take (aB i') (qjWz x)/\True) (True/\List.take (aB i) (qjWz x)=qjWz x/\True)) (by kernel_rfl) ?_
 have hZ:(⟨false,0,[],[]⟩:aF)=bV:=rfl
 dsimp only[aA,asT,aB,aC,Ty.den,Lf.den] at *
 simp only[hZ,Int.toNat_natCast,aJ,dh,bn,mg,mW,aH,nameAt,aX,aN,aZ,rowAt,iw,gJ]
 have hp:x.length<=1000:=hp
 have hl:(qjWz x).length=x.length:=aZ
 refine fun i=>⟨fun h1=>?_,fun h1=>jG (by rw[hl];omega)⟩
 have hi:i.1<x.length:=by omega
 refine⟨⟨by omega,h1,by rw[jg];simp;omega⟩,⟨i.1+1,by omega⟩,by simp only;omega,by rw[bF (by omega) (by omega)];rfl,?_⟩
 rw[Ak]
 have:(qjWz x)[i.1]?=some [x.getD i.1 0]:=by
  unfold qjWz tab;simp[hi]
 rw[this];rfl
theorem a5U:aY Tryz.prog 73 b6Q:=by
 refine bH nil0 ⟨[],[],[]⟩ Tryz.func73 rfl (by decide) (fun x=>[.inv {k:Nat // k<=(show MQ from x.1).length} (fun k=>[(4,.val tI (k.1:Int)),(3,.own 5 0),(5,.any),(20,.any)]) (fun k=>[(5,.row 64 tQ ((List.range k.1).map (fun i=>ent (show MQ from x.1) i 0)) 0)]) (fun k=>(show MQ from x.1).length-k.1) ⟨0,by omega⟩ (fun _=>[])]) (fun x hp=>?_)
 obtain⟨a,u⟩:=x
 change List (List Rat) at a
 refine bP ((asT Int 0=0/\asT (List Rat) (aC Rat)=aC Rat/\True)/\∀ (i:{ k:Nat // k<=List.length a }),asT Bool true=true/\ifB (decide (aA (aB i)<aA a.length)) ((0<=aA (aB i)/\aA (aB i)<aA a.length/\asT Int 0<=0/\0<aA (List.getD a (aA (aB i)).toNat (aC Rat)).length/\List.length (List.map (fun(i:Nat)=>ent a i 0) (List.range (aB i)))+List.length (List.getD (List.getD a (aA (aB i)).toNat (aC Rat)) 0 0::aC Rat)<=1000000000/\True)/\∃ (i':{ k:Nat // k<=List.length a }),List.length a-aB i'<List.length a-aB i/\IntKind.wrap IntKind.i64 (aA (aB i)+1)=aA (aB i')/\List.map (fun(i:Nat)=>ent a i 0) (List.range (aB i))++List.getD (List.getD a (aA (aB i)).toNat (aC Rat)) 0 0::aC Rat=List.map (fun(i:Nat)=>ent a i 0) (List.range (aB i'))/\True) (True/\List.map (fun(i:Nat)=>ent a i 0) (List.range (aB i))=List.map (fun(i:Nat)=>ent a i 0) (List.range a.length)/\True)) (by kernel_rfl) ?_
 have hZ:(⟨false,0,[],[]⟩:aF)=bV:=rfl
 dsimp only[aA,asT,aB,aC,Ty.den,Lf.den] at *
 simp only[hZ,Int.toNat_natCast,aJ,dh,bn,mg,mW,aH,nameAt,aX,aN,aZ,rowAt,iw,gJ]
 have hp:a.length<=1000/\∀ r ∈ a,1<=r.length:=hp
 refine fun i=>⟨fun h1=>?_,fun h1=>by rw[show i.1=a.length by have:=i.2;omega]⟩
 have hi:i.1<a.length:=by omega
 have hr:1<=(a.getD i.1 []).length:=fA (p:=fun r:List Rat=>1<=r.length) hp.2 hi
 refine⟨⟨by omega,h1,qh 0,by omega,by simp;omega⟩,⟨i.1+1,by omega⟩,by simp only;omega,by rw[bF (by omega) (by omega)];rfl,?_⟩
 rw[Ae,List.map_append];rfl
def c4m:Ctr:=⟨[tM,.list tQ],[.list tQ],fun x=>okM x.1/\szM x.1 1000000/\(show LQ' from x.2.1).length=wdM (show MQ from x.1)/\∀ q ∈ (show LQ' from x.2.1),rsz q<=1000000,fun x=>(mvL x.1 x.2.1,())⟩
theorem a5O:aY Tryz.prog 31 c4m:=by
 refine bH (((nil0.ad zD).ad WZ).ad a5U) ⟨[],[],[]⟩ Tryz.func31 rfl (by decide) (fun x=>[]) (fun x hp=>?_)
 obtain⟨a,x,u⟩:=x
 change List (List Rat) at a
 change List Rat at x
 refine bP ((List.length x<=1000/\(okM a/\okM (qjWz x)/\wdM a=List.length (qjWz x)/\szM a 1000000/\szM (qjWz x) 1000000)/\(List.length (mulM a (qjWz x))<=1000/\∀ (r:List Rat),r ∈ mulM a (qjWz x)->1<=List.length r)/\True)/\True/\List.map (fun(i:Nat)=>ent (mulM a (qjWz x)) i 0) (List.range (mulM a (qjWz x)).length)=mvL a x/\True) (by kernel_rfl) ?_
 have hZ:(⟨false,0,[],[]⟩:aF)=bV:=rfl
 dsimp only[aA,asT,aB,aC,Ty.den,Lf.den] at *
 simp only[hZ,Int.toNat_natCast,aJ,dh,bn,mg,mW,aH,nameAt,aX,aN,aZ,rowAt,iw,gJ]
 have hp:okM a/\szM a 1000000/\x.length=wdM a/\∀ q ∈ x,rsz q<=1000000:=hp
 obtain⟨ha,sa,hx,sx⟩:=hp
 have q1:=ha.r64
 have q2:=ha.c64
 have q3:=ha.c1
 have hc:isM (qjWz x) x.length 1:=pV (by omega) (by omega) (by omega) (by omega)
 have ec:∀ k,k<x.length->ent (qjWz x) k 0=lv x k:=fun k hk=>kN hk (by omega)
 have sc:szM (qjWz x) 1000000:=fun k hk j hj=>by
  rw[hc.len] at hk
  rw[hc.wd] at hj
  rw[show j=0 by omega,ec k hk]
  exact fA sx hk
 have hc2:isM (qjWz x) (wdM a) 1:=by rw[<-hx];exact hc
 have hm:isM (mulM a (qjWz x)) a.length 1:=ha.1.mul hc2
 refine⟨⟨by omega,⟨ha,⟨hc.self,fun k hk j hj=>jc (sc k hk j hj) (by omega)⟩,by rw[hc.len];exact hx.symm,sa,sc⟩,by rw[hm.len];omega,fun r hr=>by rw[hm.2.1 r hr];omega⟩,?_⟩
 rw[hm.len]
 refine jf fun k hk=>?_
 have hk:=qN.mp hk
 show ent (mulM a (qjWz x)) k 0=mv (wdM a) (ent a) (lv x) k
 unfold mulM
 rw[hc.wd,kN hk (by omega),hc.len,hx]
 exact fG _ fun d hd=>by rw[ec d (by omega)]
def b0o:Ctr:=⟨[.list tR],[tB],fun x=>True,fun x=>(brL x.1 10,())⟩
theorem WJ:aY Tryz.prog 19 b0o:=by
 refine bH (nil0.ad a2k) ⟨[],[],[]⟩ Tryz.func19 rfl (by decide) (fun x=>[]) (fun x hp=>?_)
 obtain⟨x,u⟩:=x
 change List aF at x
 refine bP ((((∃ (m:Nat),10=aA m/\m<=1000)/\asT Int 6=6)/\True)/\True/\brL x 10=brL x 10/\True) (by kernel_rfl) ?_
 try simp only[aJ,dh,bn]
 try dsimp only[Ty.den,Lf.den,asT] at *
 try simp only[uF,uD,trF,uG]
 have hZ:(⟨false,0,[],[]⟩:aF)=bV:=rfl
 try dsimp only[aA,asT,aB,aC,Ty.den,Lf.den] at *
 try simp only[hZ,Int.toNat_natCast,aJ,dh,bn,mg,mW,aH,nameAt,aX,aN,aZ,rowAt,iw,gJ]
 try simp only[jK,List.all_cons,List.all_nil,yx,nI,qw,jd,uy,ne_eq,ak,qg,nS,tC,xk,imp_self,AO,and_self,mg,mW,iD,qZ,qO,List.length_cons,List.length_nil]
 try simp only[wdF,iT,jA]
 exact⟨10,rfl,by omega⟩
def gdL (l:LR):Prop:=∀ q ∈ l,a3h q
theorem a1M {a:MQ} {R C K L:Nat} (h:isM a R C) (ha:szM a K) {x:LQ'} (hx:∀ q ∈ x,rsz q<=L) (hl:x.length=C):∀ q ∈ mvL a x,rsz q<=C*(K+L+1)+1:=fun q hq=>by
 obtain⟨i,hi,rfl⟩:=Bc hq
 have hi2:i<R:=by rw[qAOz,h.len] at hi;exact hi
 have e:(mvL a x)[i]=mv C (ent a) (lv x) i:=by
  rw[<-a0c h hi2];unfold lv;rw[ay,dn hi];rfl
 rw[e]
 exact BK (K:=K+L) (f:=fun k=>ent a i k*lv x k) C (fun k hk=>by
  have y1:rsz (ent a i k)<=K:=ha i (by rw[h.len];exact hi2) k (by rw[h.wd];exact hk)
  have y2:rsz (lv x k)<=L:=hx _ (by unfold lv;rw[ay,dn (by omega)];exact jm _)
  have y3:=oI (ent a i k) (lv x k)
  show rsz (ent a i k*lv x k)<=_
  omega)
def b0I (g b:MR) (ls:List LR):Int :=
 if bW g=0/\bW b=0/\ls.any (fun l=>!okL l)=false then
  if g.length=b.length/\wdM g=wdM b then if ls.any (fun l=>l.length != g.length)=false then 0 else 4 else 4
 else 1
theorem TA {l:LR} (h:brL l 10=true) (g:gdL l):smL 1 l/\jO l/\l.length<=10:=by
 unfold brL at h
 rw[ak] at h
 have h1:l.length<=10:=oz h.1
 have h2:∀ q ∈ l,q.n<=1/\q.m<=1:=fun q hq=>vI (ql.mp h.2 q hq)
 exact⟨⟨⟨by omega,fun q hq=>⟨by have:=(h2 q hq).1;omega,by have:=(h2 q hq).2;omega⟩⟩,fun _ q hq=>g q hq 1 (aj 1) (h2 q hq).1 (h2 q hq).2⟩,⟨by omega,fun q hq=>⟨by have:=(h2 q hq).1;omega,by have:=(h2 q hq).2;omega⟩⟩,h1⟩
section
open Go Go.ChangeShapes Go.WideShapes Go.ChangeAt Go.RowKit Go.Joins
set_option maxRecDepth 100000 in
theorem OI {pre:(nest [(.pair (.list (.list (.lf .aU))) .unit),(.list .bool),(.arr 2 (.list (.lf .aU)))]).den->Prop} (h:aY Tryz.prog 8 ⟨[(.pair (.list (.list (.lf .aU))) .unit),(.list .bool),(.arr 2 (.list (.lf .aU)))],[.bool],pre,fun _=>(true,())⟩) (hp:∀ (x0:Ty.den (.pair (.list (.list (.lf .aU))) .unit)) (x1:Ty.den (.list .bool)) (x2:Ty.den (.arr 2 (.list (.lf .aU)))),good (.pair (.list (.list (.lf .aU))) .unit) x0->good (.list .bool) x1->good (.arr 2 (.list (.lf .aU))) x2->pre (x0,x1,x2,())):Rows.DatumInnerSaid:=by
 have lifted:∀ (os:Os) (started:os.Started) (H:Type) (enc:TypeId × Value->H),ReturnsInHanded {} Tryz.checked os 8 .any (Rows.datumInnerSpec.pre6 enc Tryz.prog Tryz.f8 Rows.datumInnerRow.domain false) (Rows.datumInnerSpec.post enc Tryz.prog Tryz.f8 false true false false):=by
  intro os started H enc
  refine returnsInHanded_of_change (C:=Tryz.checked) own started (by kernel_rfl) Tryz.func8
   (ChangeSpec.witness6 (enc:=enc) (C:=Tryz.checked) false ⟨#[],#[.agg #[.slice none 0 0],.slice none 0 0,.agg #[.slice none 0 0,.slice none 0 0]],[]⟩ 8 (by kernel_rfl) (by kernel_rfl) (by kernel_rfl) (by kernel_rfl)) ?_
  intro W base args ds gs before hval0 hW hcnd _
  have hval:∀ (j:Nat) t v,Tryz.f8.params[j]?=some t->args[j]?=some v->Value.okWide Tryz.prog W .any base t v:=hval0
  have hW':=hW
  obtain⟨p,q,hA0,hV,rfl,hfz,hnd⟩:=hW
  have hA:DataW.TrodAll enc Tryz.prog W 0 (fun _=>true) true Tryz.f8.params.toList args.toList ds p:=hA0
  rw[Tryz.params8] at hA hval
  obtain⟨v0,vs0,d0,ds0,p0,q0,hargs,rfl,rfl,h0,r0⟩:=trodAll_cons hA
  obtain⟨v1,vs1,d1,ds1,p1,q1,rfl,rfl,rfl,h1,r1⟩:=trodAll_cons r0
  obtain⟨v2,vs2,d2,ds2,p2,q2,rfl,rfl,rfl,h2,r2⟩:=trodAll_cons r1
  obtain⟨rfl,rfl,rfl⟩:=trodAll_nil r2
  obtain rfl:args=#[v0,v1,v2]:=by cases args;simp_all
  obtain⟨rfl,rfl⟩:=trodVars_none hV
  obtain⟨x0,k0,g0⟩:=DJ (t:=.pair (.list (.list (.lf .aU))) .unit) (by kernel_rfl) (hval 0 27 v0 rfl rfl) h0
  have l0:∀ x ∈ p0,x.block<W.heap.size:=fun x hx=>hW'.lt x (by simp[hx])
  obtain⟨x1,k1,g1⟩:=DJ (t:=.list .bool) (by kernel_rfl) (hval 1 75 v1 rfl rfl) h1
  have l1:∀ x ∈ p1,x.block<W.heap.size:=fun x hx=>hW'.lt x (by simp[hx])
  obtain⟨x2,k2,g2⟩:=DJ (t:=.arr 2 (.list (.lf .aU))) (by kernel_rfl) (hval 2 55 v2 rfl rfl) h2
  have l2:∀ x ∈ p2,x.block<W.heap.size:=fun x hx=>hW'.lt x (by simp[hx])
  refine(h (a0Q W) W [v0,v1,v2] (x0,x1,x2,()) (fun q hq=>hq) ⟨_,_,rfl,k0,_,_,rfl,k1,_,_,rfl,k2,rfl⟩ (hp x0 x1 x2 g0 g1 g2)).mono fun e W' ⟨v,he,hr,hg⟩=>?_
  subst he
  have hr:kM _ W' .bool v true:=hr
  rw[a4V hr]
  exact⟨_,rfl,_,_,_,[],_,[],hW',trodAll_cons_mk (shut_bool Tryz.underlying4 _) trodAll_mk0,(trodAll_cons_mk (Below.trod laidOut (by kernel_rfl) (oz (by kernel_rfl)) h0 hg l0) (trodAll_cons_mk (Below.trod laidOut (by kernel_rfl) (oz (by kernel_rfl)) h1 hg l1) (trodAll_cons_mk (Below.trod laidOut (by kernel_rfl) (oz (by kernel_rfl)) h2 hg l2) trodAll_mk0))),rfl,hg.frame _,fun h=>by cases h⟩
 exact OpenClaim.holds_of_wide 8 Tryz.f8 rfl rfl rfl rfl rfl rfl rfl ⟨rfl,rfl,rfl,rfl,rfl⟩ rfl rfl rfl rfl rfl (by kernel_rfl) Tryz.func8 (by kernel_rfl)
  (oz (by kernel_rfl)) (by unfold Func.isWrapper;first|(rw[eY (by decide +kernel)];kernel_rfl)|(rw[dw (by decide +kernel)];exact⟨rfl,rfl⟩))
  (fun os started H enc _=>lifted os started H enc)
end
theorem b7h {x:LR} (g:good (.list (.lf .aU)) x):gdL x:=fun q hq=>g.2 q hq
theorem c5s (r:LR):okL r=okR r:=rfl
theorem b6k (g b:MR) (r:LR):b0I g b [r]=if (bW g=0/\bW b=0)/\okR r=true then if (b.length=g.length/\wdM b=wdM g)/\r.length=g.length then 0 else 4 else 1:=by
 unfold b0I
 have e1:([r].any (fun l=>!okL l)=false)↔okR r=true:=by rw[<-c5s];simp
 have e2:([r].any (fun l=>l.length != g.length)=false)↔r.length=g.length:=by simp
 by_cases h0:(bW g=0/\bW b=0)/\okR r=true
 ·rw[eY ⟨h0.1.1,h0.1.2,e1.mpr h0.2⟩,eY h0]
  by_cases h1:b.length=g.length/\wdM b=wdM g
  ·rw[eY ⟨h1.1.symm,h1.2.symm⟩]
   by_cases h2:r.length=g.length
   ·rw[eY (e2.mpr h2),eY ⟨h1,h2⟩]
   ·rw[dw (fun h=>h2 (e2.mp h)),dw (fun h=>h2 h.2)]
  ·rw[dw (fun h=>h1 ⟨h.1.symm,h.2.symm⟩),dw (fun h=>h1 h.1)]
 ·rw[dw (fun h=>h0 ⟨⟨h.1,h.2.1⟩,e1.mp h.2.2⟩),dw h0]
theorem b5W (g b:MR) (r:LR):CV g b r=if b0I g b [r]=0 then if kR (bgM (mq g) (mq b))=true then (mvL (sM (mq g) (mq b)) (lq r),0,()) else ([],14,()) else ([],b0I g b [r],()):=by
 rw[b6k]
 unfold CV
 by_cases h0:(bW g=0/\bW b=0)/\okR r=true
 ·rw[eY h0,eY h0]
  by_cases h1:(b.length=g.length/\wdM b=wdM g)/\r.length=g.length
  ·rw[eY h1,eY h1,eY rfl]
  ·rw[dw h1,dw h1,dw (by decide)]
 ·rw[dw h0,dw h0,dw (by decide)]
def KC (g:MR) (m:List Bool) (i:Nat):LR:=if m.getD i false=true then g.getD i [] else (List.range (wdM g)).map fun _=>dS 0
def qtYz (g:MR) (m:List Bool) (k:Nat):MR:=(List.range k).map (KC g m)
def qmWz (a:MQ) (m:List Bool):MQ:=tab a.length (wdM a) fun i j=>if m.getD i false=true then ent a i j else 0
def qzZz (g:MR) (m:List Bool):MQ × Int × Unit :=
 if bW g=0 then
  if m.length=g.length then
   if kR (bgM (mq g) (qmWz (mq g) m))=true then (qmWz (mq g) m,0,()) else ([],14,())
  else ([],4,())
 else ([],1,())
theorem a3s (g:MR) (m:List Bool) (k:Nat):(qtYz g m k).length=k:=by unfold qtYz;simp
theorem ZW (g:MR) (m:List Bool) (k:Nat):qtYz g m (k+1)=qtYz g m k++[KC g m k]:=by unfold qtYz;rw[Ae,List.map_append];rfl
theorem a7w {α:Type} (P T:List α) (r:α):(P++[r]++T).length=P.length+1+T.length:=by simp;omega
theorem a7v {α:Type} {P T:List α} {r d:α} {k:Nat} (h:P.length=k):(P++[r]++T).getD k d=r:=by
 subst h;rw[yG,ay,List.getElem?_append_right (aj _),Nat.sub_self];rfl
theorem TB {α:Type} {P T:List α} {r r':α} {k:Nat} (h:P.length=k):(P++[r]++T).set k r'=P++[r']++T:=by
 subst h;rw[yG,yG,List.set_append_right _ _ (aj _),Nat.sub_self];rfl
theorem a4c {α:Type} (n:Nat) (x:α) (h:0<n):List.replicate n x=[x]++List.replicate (n-1) x:=by
 obtain⟨k,rfl⟩:∃ k,n=k+1:=⟨n-1,by omega⟩
 rfl
theorem b1J (q n:Nat) (h:q<n):((List.range q).map (fun j=>dS 0)++List.replicate (n-q) bV).set q (dS 0)=(List.range (q+1)).map (fun j=>dS 0)++List.replicate (n-(q+1)) bV:=by
 have h1:((List.range q).map (fun j=>dS 0)).length=q:=by simp
 rw[a4c (n-q) bV (by omega),<-yG,TB h1,Ae,List.map_append,show n-q-1=n-(q+1) by omega];rfl
theorem b7U {g:MR} {m:List Bool} {N C:Nat} (h:isM (mq g) N C):mq (qtYz g m N)=qmWz (mq g) m:=by
 unfold qmWz qtYz tab
 rw[h.len,h.wd]
 show List.map _ (List.map _ _)=_
 rw[List.map_map]
 refine jf fun i hi=>?_
 have hi:i<N:=qN.mp hi
 have hw:wdM g=C:=by rw[<-RF,h.wd]
 have hr:=h.row hi
 rw[KH] at hr
 show lq (KC g m i)=_
 unfold KC
 by_cases hm:m.getD i false=true
 ·rw[eY hm]
  simp only[eY hm]
  show _=List.map (fun j=>((mq g).getD i []).getD j 0) _
  rw[KH];exact(FK hr).symm
 ·rw[dw hm,hw]
  simp only[dw hm]
  unfold lq
  rw[List.map_map];rfl
theorem EN {a:MQ} {m:List Bool} {N C:Nat} (h:isM a N C):isM (qmWz a m) N C:=by
 unfold qmWz;rw[h.len,h.wd];exact pV h.2.2.1 h.2.2.2.1 h.2.2.2.2.1 h.2.2.2.2.2
theorem b1I {a:MQ} {m:List Bool} {N C:Nat} (h:isM a N C) {i j:Nat} (hi:i<N) (hj:j<C):ent (qmWz a m) i j=if m.getD i false=true then ent a i j else 0:=by
 unfold qmWz;rw[h.len,h.wd];exact kN hi hj
theorem a7d {a:MQ} {m:List Bool} {N C K:Nat} (h:isM a N C) (H:CdM a K):CdM (qmWz a m) K:=by
 unfold CdM at H ⊢
 rw[h.len,h.wd] at H
 rw[(EN h).len,(EN h).wd]
 obtain⟨D,h0,hD,hh⟩:=H
 refine⟨D,h0,hD,fun i hi j hj=>?_⟩
 rw[b1I h hi hj]
 split
 ·exact hh i hi j hj
 ·exact⟨0,by rw[Rat.zero_mul];rfl,by rw[EO];omega⟩
theorem a3r {a:MQ} {m:List Bool} {N C:Nat} (h:isM a N C) (h7:N<=7) (w7:C<=7) (H:CdM a 100):yZ a (qmWz a m):=by
 unfold yZ
 rw[h.len,h.wd]
 exact⟨h,EN h,h7,w7,H,a7d h H⟩
def c2a:Ctr:=⟨[.pair tMR .unit,.list tB],[tM,tI],fun x=>smK 100 x.1.1,fun x=>qzZz x.1.1 x.2.1⟩
theorem b0K:aY Tryz.prog 40 c2a:=by
 refine bH (((nil0.ad a4I).ad yH).ad LM) ⟨[],[],[(26,tR)]⟩ Tryz.func40 rfl (by decide) (fun x=>[.inv {k:Nat // k<=(show MR from x.1.1).length} (fun k=>[(30,.val tI (k.1:Int))]) (fun k=>[(26,.mat 32 64 tR none (qtYz (show MR from x.1.1) (show List Bool from x.2.1) k.1++List.replicate ((show MR from x.1.1).length-k.1) []) 0)]) (fun k=>(show MR from x.1.1).length-k.1) ⟨0,by omega⟩ (fun k=>[
   .inv {q:Nat // q<=wdM (show MR from x.1.1)} (fun q=>[(43,.val tI (q.1:Int)),(39,.any),(40,.any)]) (fun q=>[(26,.mat 32 64 tR none (qtYz (show MR from x.1.1) (show List Bool from x.2.1) k.1++[(List.range q.1).map (fun j=>dS 0)++List.replicate (wdM (show MR from x.1.1)-q.1) bV]++List.replicate ((show MR from x.1.1).length-k.1-1) []) 0)]) (fun q=>wdM (show MR from x.1.1)-q.1) ⟨0,by omega⟩ (fun _=>[])])]) (fun x hp=>?_)
 obtain⟨g,m,u⟩:=x
 change List (List aF) × Unit at g
 change List Bool at m
 refine bP (let A₀:=(asT (List (List aF)) g.1);let A₁:=(Ty.list (Ty.lf Lf.aU));let A₂:=(List.map (fun(xs:Ty.den A₁)=>List.map (fun(x:Ty.den (Ty.lf Lf.aU))=>aF.x x) xs) A₀);let aV:=(qzZz A₀ m).2;((List.length (asT (List (List aF)) g.1::aC (List (List aF)))<=1000000/\∀ (a:List (List aF)),a ∈ asT (List (List aF)) g.1::aC (List (List aF))->iM a)/\True)/\ifB (!gW (asT (List (List aF)) g.1::aC (List (List aF)))==0) (True/\aC (List Rat)=Prod.fst (qzZz A₀ m)/\True/\1=Prod.fst aV/\True) (ifB (aA m.length != aA A₀.length) (True/\aC (List Rat)=Prod.fst (qzZz A₀ m)/\True/\4=Prod.fst aV/\True) ((aA A₀.length=aA A₀.length/\0<=aA A₀.length/\aA A₀.length<=1000000000/\True)/\(asT Int 0=0/\List.replicate (aA A₀.length).toNat (aC aF)=List.replicate (List.length A₀-0) (aC aF)/\True)/\∀ (i:{ k:Nat // k<=List.length A₀ }),let aP:=(qtYz A₀ m (aB i)++List.replicate (List.length A₀-aB i) (aC aF));let dB:=(aA (aB i)).toNat;let dO:=(List.length A₀-aB i-1);let eH:=(List.getD A₀ dB (aC aF));let dU:=(List.map (fun(xs:Ty.den A₁)=>List.map (fun(x:Ty.den (Ty.lf Lf.aU))=>aF.x x) xs) aP);let dX:=(List.set (aX none aP) dB aP.length);asT Bool true=true/\ifB (decide (aA (aB i)<aA A₀.length)) ((0<=aA (aB i)/\aA (aB i)<aA A₀.length/\True)/\(aA eH.length=aA eH.length/\0<=aA eH.length/\aA eH.length<=1000000000/\0<=aA (aB i)/\aA (aB i)<aA (aH none aP)/\Int.toNat (aA (aB i))<aH none aP/\True)/\(asT Int 0=0/\List.Nodup dX/\List.map (fun(i_1:Nat)=>List.getD (qtYz A₀ m (aB i)++List.replicate (List.length A₀-aB i) (aC aF)++List.replicate (aA eH.length).toNat bV::aC (List aF)) i_1 (aC aF)) dX=qtYz A₀ m (aB i)++(List.map (fun(j:Nat)=>dS 0) (List.range 0)++List.replicate (wdM A₀-0) bV)::aC (List aF)++List.replicate dO (aC aF)/\True)/\∀ (i_1:{ q:Nat // q<=wdM A₀ }),let iG:=(List.map (fun(j:Nat)=>dS 0) (List.range (aB i_1))++List.replicate (wdM A₀-aB i_1) bV);let jQ:=(rowAt (qtYz A₀ m (aB i)++iG::aC (List aF)++List.replicate dO (aC aF)) (nameAt none dB));let tH:=(aH none (qtYz A₀ m (aB i)++iG::aC (List aF)++List.replicate dO (aC aF)));asT Bool true=true/\ifB (decide (aA (aB i_1)<aA eH.length)) ((0<=aA (aB i)/\aA (aB i)<aA tH/\Int.toNat (aA (aB i))<aH none (qtYz A₀ m (aB i)++iG::aC (List aF)++List.replicate dO (aC aF))/\gZ 0/\0<=aA (aB i_1)/\aA (aB i_1)<aA jQ.length/\Int.toNat (aA (aB i_1))<List.length jQ/\True)/\∃ (i':{ q:Nat // q<=wdM A₀ }),wdM A₀-aB i'<wdM A₀-aB i_1/\IntKind.wrap IntKind.i64 (aA (aB i_1)+1)=aA (aB i')/\List.set (qtYz A₀ m (aB i)++iG::aC (List aF)++List.replicate dO (aC aF)) (nameAt none dB) (List.set jQ (aA (aB i_1)).toNat (dS (dD 0)))=qtYz A₀ m (aB i)++(List.map (fun(j:Nat)=>dS 0) (List.range (aB i'))++List.replicate (wdM A₀-aB i') bV)::aC (List aF)++List.replicate dO (aC aF)/\True) ((0<=aA (aB i)/\aA (aB i)<aA m.length/\True)/\ifB (List.getD m dB false) ((0<=aA (aB i)/\aA (aB i)<aA tH/\Int.toNat (aA (aB i))<aH none (qtYz A₀ m (aB i)++iG::aC (List aF)++List.replicate dO (aC aF))/\List.length jQ=List.length eH/\0<List.length eH/\True)/\∃ (i':{ k:Nat // k<=List.length A₀ }),List.length A₀-aB i'<List.length A₀-aB i/\IntKind.wrap IntKind.i64 (aA (aB i)+1)=aA (aB i')/\List.set (qtYz A₀ m (aB i)++iG::aC (List aF)++List.replicate dO (aC aF)) (nameAt none dB) eH=qtYz A₀ m (aB i')++List.replicate (List.length A₀-aB i') (aC aF)/\True) (∃ (i':{ k:Nat // k<=List.length A₀ }),List.length A₀-aB i'<List.length A₀-aB i/\IntKind.wrap IntKind.i64 (aA (aB i)+1)=aA (aB i')/\qtYz A₀ m (aB i)++iG::aC (List aF)++List.replicate dO (aC aF)=qtYz A₀ m (aB i')++List.replicate (List.length A₀-aB i') (aC aF)/\True))) ((bY (fun(x:Ty.den A₁)=>aW (bY (fun(x:Ty.den (Ty.lf Lf.aU))=>aW ((aF.ok x=true)::aC Prop)) x::aC Prop)) A₀/\bY (fun(x:Ty.den A₁)=>aW (bY (fun(x:Ty.den (Ty.lf Lf.aU))=>aW ((aF.ok x=true)::aC Prop)) x::aC Prop)) aP/\yZ A₂ dU/\True)/\ifB (!Prod.fst (AV A₂ dU).2) (True/\aC (List Rat)=Prod.fst (qzZz A₀ m)/\True/\14=Prod.fst aV/\True) ((bY (fun(x:Ty.den A₁)=>aW (bY (fun(x:Ty.den (Ty.lf Lf.aU))=>aW ((aF.ok x=true)::aC Prop)) x::aC Prop)) aP/\True)/\List.map (fun(xs:Ty.den A₁)=>List.map (fun(x:Ty.den (Ty.lf Lf.aU))=>aF.x x) xs) aP=Prod.fst (qzZz A₀ m)/\True/\0=Prod.fst aV/\True))))) (by kernel_rfl) ?_
 try simp only[aJ,dh,bn]
 try dsimp only[Ty.den,Lf.den,asT] at *
 try simp only[uF,uD,trF,uG]
 have hZ:(⟨false,0,[],[]⟩:aF)=bV:=rfl
 try dsimp only[aA,asT,aB,aC,Ty.den,Lf.den] at *
 try simp only[hZ,Int.toNat_natCast,aJ,dh,bn,mg,mW,aH,nameAt,aX,aN,aZ,rowAt,iw,gJ]
 try simp only[jK,List.all_cons,List.all_nil,yx,nI,qw,jd,uy,ne_eq,ak,qg,nS,tC,xk,imp_self,AO,and_self,mg,mW,iD,qZ,qO,List.length_cons,List.length_nil]
 try simp only[wdF,iT,jA]
 have hp:smK 100 g.1:=hp
 obtain⟨g,u2⟩:=g
 dsimp only at hp ⊢
 refine⟨⟨by omega,fun a ha=>by rw[lN.mp ha];exact hp.1⟩,fun h=>?_,fun h=>⟨fun h2=>?_,fun h2=>?_⟩⟩
 ·unfold qzZz;rw[dw h];exact⟨rfl,rfl⟩
 ·unfold qzZz;rw[eY h,dw h2];exact⟨rfl,rfl⟩
 ·obtain⟨hM,h7,w7,hC⟩:=hp.at h
  have hok:=(gX h).2
  have c1:=hM.2.2.2.2.1
  have hrow:∀ i,i<g.length->(g.getD i []).length=wdM g:=fun i hi=>by
   have:=hM.row hi
   rwa [KH,wG] at this
  refine⟨⟨by omega,by omega⟩,rfl,fun i=>⟨fun h3=>?_,fun h3=>?_⟩⟩
  ·have hi:i.1<g.length:=by omega
   have hX:(qtYz g m i.1++List.replicate (g.length-i.1) []).length=g.length:=by rw[gy,a3s,uo];omega
   have hr:=hrow i.1 hi
   rw[hX,hr]
   have hl:=a3s g m i.1
   refine⟨⟨by omega,by omega⟩,⟨by omega,by omega,by omega,by omega,hi⟩,⟨a7s _ _,?_⟩,fun q=>⟨fun h4=>?_,fun h4=>?_⟩⟩
   ·have e3:=a3H (qtYz g m i.1++List.replicate (g.length-i.1) []) (List.replicate (wdM g) bV) (k:=i.1) (by rw[hX];exact hi)
    rw[hX] at e3
    rw[e3,a4c (g.length-i.1) [] (by omega),<-yG,TB hl];rfl
   ·have hq:q.1<wdM g:=by omega
    rw[a7w,a7v hl,TB hl]
    simp only[gy,ny,gJ,uo,hl]
    refine⟨⟨by omega,by omega,by omega,by unfold gZ;omega,by omega,by omega,by omega⟩,⟨q.1+1,by omega⟩,by simp only;omega,by rw[bF (by omega) (by omega)];rfl,?_⟩
    show qtYz g m i.1++[(List.map (fun j=>dS 0) (List.range q.1)++List.replicate (wdM g-q.1) bV).set q.1 (dS 0)]++_=_
    rw[b1J q.1 (wdM g) hq]
   ·have hq:q.1=wdM g:=by have:=q.2;omega
    rw[a7w,a7v hl]
    simp only[gy,ny,gJ,uo,hl,hq,Nat.sub_self,List.replicate_zero,yc]
    have hT:List.replicate (g.length-i.1-1) ([]:LR)=List.replicate (g.length-(i.1+1)) []:=by rw[Nat.sub_sub]
    refine⟨⟨by omega,by omega⟩,fun h5=>⟨⟨by omega,by omega,by omega,trivial,by omega⟩,⟨i.1+1,by omega⟩,by simp only;omega,by rw[bF (by omega) (by omega)];rfl,?_⟩,fun h5=>⟨⟨i.1+1,by omega⟩,by simp only;omega,by rw[bF (by omega) (by omega)];rfl,?_⟩⟩
    ·rw[TB hl,ZW,hT]
     unfold KC;rw[eY h5]
    ·rw[ZW,hT]
     unfold KC;rw[dw (by rw[h5];decide)]
  ·have hi:i.1=g.length:=by have:=i.2;omega
   rw[hi,Nat.sub_self,List.replicate_zero,yc,b7U hM]
   have og:=lG hok
   have oi:bY (fun x:List aF=>aW [bY (fun q:aF=>aW [q.ok=true]) x]) (qtYz g m g.length):=lG fun r hr q hq=>by
    obtain⟨k,hk,rfl⟩:=ni.mp hr
    have hk:k<g.length:=qN.mp hk
    unfold KC at hq
    split at hq
    ·exact hok _ (by rw[ay,dn hk];exact jm hk) q hq
    ·obtain⟨_,_,rfl⟩:=ni.mp hq;rfl
   refine⟨⟨og,oi,a3r hM h7 w7 hC⟩,fun h4=>?_,fun h4=>⟨oi,?_⟩⟩
   ·unfold qzZz;rw[eY h,eY h2,dw (by rw[a1R h4];decide)];exact⟨rfl,rfl⟩
   ·unfold qzZz;rw[eY h,eY h2,eY (a1S h4).1];exact⟨rfl,rfl⟩
end Go.Proofs.YtgplhbhfdgempaaGreat
