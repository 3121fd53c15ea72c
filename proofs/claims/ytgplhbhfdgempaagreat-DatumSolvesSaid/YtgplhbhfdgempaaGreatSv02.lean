/-
  DatumSolves: datum.Solve returns the solution of the normal equations in a datum, or the specified error, for all matrices of at most 7 rows and columns and all right sides of at most 10 numbers; no conditions.
-/
import Derived.Test.YtgplhbhfdgempaaGreatSv01
namespace Go.Proofs.YtgplhbhfdgempaaGreat
open Go Go.RowKit
set_option maxRecDepth 100000
set_option maxHeartbeats 1000000
set_option linter.unusedVariables false
set_option linter.unusedSimpArgs false
theorem b0x {a b c:MR}:gW [a,b,c]=0↔bW a=0/\bW b=0/\bW c=0:=by rw[a4X];simp
theorem two' {a b:MR} (ha:dV a) (hb:dV b):∀ x ∈ [a,b],dV x:=fun x h=>by
 rcases oq.mp h with rfl|h
 ·exact ha
 ·rw[lN.mp h];exact hb
theorem a6n {a b c:MR} (ha:dV a) (hb:dV b) (hc:dV c):∀ x ∈ [a,b,c],dV x:=fun x h=>by
 rcases oq.mp h with rfl|h
 ·exact ha
 ·exact two' hb hc x h
abbrev tFr:Ty:=.pair (.pair tMR .unit) (.pair tMR .unit)
def a8m (n b:MQ) (r:LQ'):Prop:=isM n n.length n.length/\isM b n.length (wdM b)/\n.length<=7/\wdM b<=7/\CdM n 100/\CdM b 100/\r.length=n.length/\∀ q ∈ r,rsz q<=1
def c4I:Ctr:=⟨[tM,tM,.list tQ],[.list tQ,tB],fun x=>a8m x.1 x.2.1 x.2.2.1,fun x=>qrDz (stM x.1 x.2.1) (stL x.2.2.1 (wdM (show MQ from x.2.1)))⟩
theorem b5I:aY Tryz.prog 22 c4I:=by
 refine bH ((((nil0.ad a2y).an a7S).ad NR).ad b2V) ⟨[],[],[]⟩ Tryz.func22 rfl (by decide) (fun x=>[.inv {k:Nat // k<=wdM (show MQ from x.2.1)} (fun k=>[(22,.val tI (k.1:Int)),(9,.own 15 0),(15,.any),(17,.any),(26,.any),(27,.any),(24,.any)]) (fun k=>[(15,.row 64 tQ ((show LQ' from x.2.2.1)++List.replicate k.1 0) 0),(11,.row 32 (.list tQ) (stM (show MQ from x.1) (show MQ from x.2.1)) 0)]) (fun k=>wdM (show MQ from x.2.1)-k.1) ⟨0,by omega⟩ (fun _=>[])]) (fun x hp=>?_)
 obtain⟨n,b,r,u⟩:=x
 change List (List Rat) at n
 change List (List Rat) at b
 change List Rat at r
 refine bP (((List.length n<=1000/\∀ (r:List Rat),r ∈ n->List.length r<=1000)/\okM b/\List.length n+List.length (trM b)<=1000000000/\True)/\(List.length (aC Rat)+List.length r<=1000000000/\True)/\(asT Int 0<=0/\0<aA b.length/\True)/\(asT Int 0=0/\aC Rat++r=r++List.replicate 0 0/\n++trM b=stM n b/\True)/\∀ (i:{ k:Nat // k<=wdM b }),asT Bool true=true/\ifB (decide (aA (aB i)<aA (List.getD b 0 (aC Rat)).length)) ((gZ 0/\List.length (r++List.replicate (aB i) 0)+List.length (dD 0::aC Rat)<=1000000000/\True)/\∃ (i':{ k:Nat // k<=wdM b }),wdM b-aB i'<wdM b-aB i/\IntKind.wrap IntKind.i64 (aA (aB i)+1)=aA (aB i')/\r++List.replicate (aB i) 0++dD 0::aC Rat=r++List.replicate (aB i') 0/\stM n b=stM n b/\True) (((okM (stM n b)/\wdM (stM n b)<=63/\List.length (r++List.replicate (aB i) 0)=List.length (stM n b)/\(∀ (q:Rat),q ∈ r++List.replicate (aB i) 0->rsz q<=10000000)/\AQ (stM n b).length (wdM (stM n b)+1) (gV (wdM (stM n b)) (ent (stM n b)) fun(i_1 x:Nat)=>lv (r++List.replicate (aB i) 0) i_1) (wdM (stM n b)+1))/\True)/\True/\Prod.fst (qrDz (stM n b) (r++List.replicate (aB i) 0))=Prod.fst (qrDz (stM n b) (stL r (wdM b)))/\True/\Prod.fst (qrDz (stM n b) (r++List.replicate (aB i) 0)).2=Prod.fst (qrDz (stM n b) (stL r (wdM b))).2/\True)) (by kernel_rfl) ?_
 try simp only[aJ,dh,bn]
 try dsimp only[Ty.den,Lf.den,asT] at *
 try simp only[uF,uD,trF,uG]
 have hZ:(⟨false,0,[],[]⟩:aF)=bV:=rfl
 try dsimp only[aA,asT,aB,aC,Ty.den,Lf.den] at *
 try simp only[hZ,Int.toNat_natCast,aJ,dh,bn,mg,mW,aH,nameAt,aX,aN,aZ,rowAt,iw,gJ]
 try simp only[jK,List.all_cons,List.all_nil,yx,nI,qw,jd,uy,ne_eq,ak,qg,nS,tC,xk,imp_self,AO,and_self,mg,mW,iD,qZ,qO,List.length_cons,List.length_nil]
 try simp only[wdF,iT,jA]
 have hp:a8m n b r:=hp
 obtain⟨hn,hb,n7,b7,nC,bC,hl,hs⟩:=hp
 have hb:isM b n.length (wdM b):=hb
 have n0:=hn.2.2.1
 have lb:b.length=n.length:=hb.len
 have t1:=hb.trp
 have hst:=a2p hn hb (by omega)
 have cst:=c1r hn hb (by omega) nC bC
 rw[t1.len]
 refine⟨⟨⟨by omega,fun r hr=>by rw[hn.2.1 r hr];omega⟩,bC.ok hb (by omega),by omega⟩,by omega,⟨by omega,by omega⟩,⟨by simp,rfl⟩,fun i=>⟨fun h1=>?_,fun h1=>?_⟩⟩
 ·refine⟨⟨by unfold gZ;omega,by rw[gy,uo];omega⟩,⟨i.1+1,by omega⟩,by simp only;omega,by rw[bF (by omega) (by omega)];rfl,?_⟩
  rw[yG,List.replicate_succ',show dD 0=0 from rfl]
 ·have hi:i.1=wdM b:=by have:=i.2;omega
  rw[hi,hst.len,hst.wd]
  refine⟨⟨cst.ok hst (by omega),by omega,by rw[gy,uo];omega,fun q hq=>?_,?_⟩,rfl,rfl⟩
  ·rcases qA.mp hq with hq|hq
   ·exact jc (hs q hq) (by omega)
   ·rw[(List.mem_replicate.mp hq).2];exact jc (show rsz 0<=1 by decide +kernel) (by omega)
  ·have H2:Cd (ent (stM n b)) (n.length+wdM b) n.length 200:=by have:=cst;unfold CdM at this;rwa [hst.len,hst.wd] at this
   have G:Cd (fun i _=>lv (r++List.replicate (wdM b) 0) i) (n.length+wdM b) 1 ((n.length+wdM b)*(1+1)+2):=Cd.of fun i hi j _=>by
    show rsz (lv (r++List.replicate (wdM b) 0) i)<=1
    have hm:lv (r++List.replicate (wdM b) 0) i ∈ r++List.replicate (wdM b) 0:=jY (by rw[gy,uo];omega)
    rcases qA.mp hm with hq|hq
    ·exact hs _ hq
    ·rw[(List.mem_replicate.mp hq).2];decide +kernel
   have B:Cd (gV n.length (ent (stM n b)) (fun i _=>lv (r++List.replicate (wdM b) 0) i)) (n.length+wdM b) (n.length+1) 230:=(Cd.bes H2 G).mono (by omega)
   have h3:2 ^ (n.length+1)<=256:=qj (n:=2) (by omega) (show n.length+1<=8 by omega)
   have h4:2 ^ (n.length+1)*(230+1)<=256*231:=oh h3 (aj _)
   exact ND B (aj _) (by omega)
def b6O:Ctr:=⟨[tMR,tFr,.nls tR],[tI],fun x=>(smK 100 x.1/\dV x.1)/\(smK 100 x.2.1.1.1/\dV x.2.1.1.1)/\(smK 100 x.2.1.2.1/\dV x.2.1.2.1)/\jO (Option.getD (α:=LR) x.2.2.1 []),fun x=>(qjGz x.1 x.2.1.1.1 x.2.1.2.1 x.2.2.1,())⟩
theorem a0U:aY Tryz.prog 21 b6O:=by
 refine bH ((((nil0.ad IJ).ad WQ).ad a1q).ad a1Z) ⟨[],[],[]⟩ Tryz.func21 rfl (by decide) (fun x=>[]) (fun x hp=>?_)
 obtain⟨n,x,l,u⟩:=x
 change List (List aF) at n
 change (List (List aF) × Unit) × List (List aF) × Unit at x
 change Option (List aF) at l
 refine bP (let A₂:=(List.getD n 0 (aC aF)).length;let dO:=(Ty.list (Ty.lf Lf.aU));let dU:=(List.map (fun(xs:Ty.den dO)=>List.map (fun(x:Ty.den (Ty.lf Lf.aU))=>aF.x x) xs) n);let dX:=x.1.1;let A₀:=(asT (List (List aF)) dX);let aP:=(List.getD A₀ 0 (aC aF)).length;let dB:=(List.map (fun(xs:Ty.den dO)=>List.map (fun(x:Ty.den (Ty.lf Lf.aU))=>aF.x x) xs) A₀);let iG:=x.2.1;let A₁:=(asT (List (List aF)) iG);let aV:=(List.getD A₁ 0 (aC aF)).length;let eH:=(List.map (fun(xs:Ty.den dO)=>List.map (fun(x:Ty.den (Ty.lf Lf.aU))=>aF.x x) xs) A₁);let jQ:=(Option.getD l (aC aF));((List.length (n::asT (List (List aF)) dX::asT (List (List aF)) iG::aC (List (List aF)))<=1000000/\∀ (a:List (List aF)),a ∈ n::asT (List (List aF)) dX::asT (List (List aF)) iG::aC (List (List aF))->dV a)/\True)/\ifB (gW (n::asT (List (List aF)) dX::asT (List (List aF)) iG::aC (List (List aF))) != 0) (True/\gW (n::asT (List (List aF)) dX::asT (List (List aF)) iG::aC (List (List aF)))=qjGz n A₀ A₁ l/\True) ((jO jQ/\True)/\ifB (!okL jQ) (True/\1=qjGz n A₀ A₁ l/\True) ((asT Int 0<=0/\0<aA n.length/\(((aA n.length != aA A₂)==false)=true->((aA n.length != aA A₂)==false)=true/\True)/\(((aA n.length != aA A₂)==false)=true->((aA n.length != aA A₂)==false)=true/\True)/\(((aA n.length != aA A₂)==false)=true->((aA n.length != aA A₂)==false)=true/\True)/\(((aA n.length != aA A₂)==false)=true->((aA n.length != aA A₂)==false)=true/\True)/\(((aA n.length != aA A₂)==false)=true->((aA n.length != aA A₂)==false)=true/\((aA n.length != aA A₂)==false)=true/\True)/\((aA n.length != aA A₂)=false->((aA n.length != aA A₂)==false)=true)/\(((bif aA n.length != aA A₂ then true else aA A₀.length != aA n.length)==false)=true->((bif aA n.length != aA A₂ then true else aA A₀.length != aA n.length)==false)=true/\True)/\(((bif aA n.length != aA A₂ then true else aA A₀.length != aA n.length)==false)=true->((bif aA n.length != aA A₂ then true else aA A₀.length != aA n.length)==false)=true/\True)/\(((bif aA n.length != aA A₂ then true else aA A₀.length != aA n.length)==false)=true->((bif aA n.length != aA A₂ then true else aA A₀.length != aA n.length)==false)=true/\True)/\(((bif aA n.length != aA A₂ then true else aA A₀.length != aA n.length)==false)=true->((bif aA n.length != aA A₂ then true else aA A₀.length != aA n.length)==false)=true/\((bif aA n.length != aA A₂ then true else aA A₀.length != aA n.length)==false)=true/\True)/\((bif aA n.length != aA A₂ then true else aA A₀.length != aA n.length)=false->((bif aA n.length != aA A₂ then true else aA A₀.length != aA n.length)==false)=true)/\(((bif bif aA n.length != aA A₂ then true else aA A₀.length != aA n.length then true else aA A₁.length != aA n.length)==false)=true->((bif bif aA n.length != aA A₂ then true else aA A₀.length != aA n.length then true else aA A₁.length != aA n.length)==false)=true/\True)/\(((bif bif aA n.length != aA A₂ then true else aA A₀.length != aA n.length then true else aA A₁.length != aA n.length)==false)=true->((bif bif aA n.length != aA A₂ then true else aA A₀.length != aA n.length then true else aA A₁.length != aA n.length)==false)=true/\asT Int 0<=0/\0<aA A₁.length/\True)/\(((bif bif aA n.length != aA A₂ then true else aA A₀.length != aA n.length then true else aA A₁.length != aA n.length)==false)=true->((bif bif aA n.length != aA A₂ then true else aA A₀.length != aA n.length then true else aA A₁.length != aA n.length)==false)=true/\True)/\(((bif bif aA n.length != aA A₂ then true else aA A₀.length != aA n.length then true else aA A₁.length != aA n.length)==false)=true->((bif bif aA n.length != aA A₂ then true else aA A₀.length != aA n.length then true else aA A₁.length != aA n.length)==false)=true/\True)/\(((bif bif aA n.length != aA A₂ then true else aA A₀.length != aA n.length then true else aA A₁.length != aA n.length)==false)=true->((bif bif aA n.length != aA A₂ then true else aA A₀.length != aA n.length then true else aA A₁.length != aA n.length)==false)=true/\True)/\(((bif bif aA n.length != aA A₂ then true else aA A₀.length != aA n.length then true else aA A₁.length != aA n.length)==false)=true->((bif bif aA n.length != aA A₂ then true else aA A₀.length != aA n.length then true else aA A₁.length != aA n.length)==false)=true/\True)/\(((bif bif aA n.length != aA A₂ then true else aA A₀.length != aA n.length then true else aA A₁.length != aA n.length)==false)=true->((bif bif aA n.length != aA A₂ then true else aA A₀.length != aA n.length then true else aA A₁.length != aA n.length)==false)=true/\asT Int 0<=0/\0<aA A₀.length/\True)/\(((bif bif aA n.length != aA A₂ then true else aA A₀.length != aA n.length then true else aA A₁.length != aA n.length)==false)=true->((bif bif aA n.length != aA A₂ then true else aA A₀.length != aA n.length then true else aA A₁.length != aA n.length)==false)=true/\True)/\(((bif bif aA n.length != aA A₂ then true else aA A₀.length != aA n.length then true else aA A₁.length != aA n.length)==false)=true->((bif bif aA n.length != aA A₂ then true else aA A₀.length != aA n.length then true else aA A₁.length != aA n.length)==false)=true/\True)/\(((bif bif aA n.length != aA A₂ then true else aA A₀.length != aA n.length then true else aA A₁.length != aA n.length)==false)=true->((bif bif aA n.length != aA A₂ then true else aA A₀.length != aA n.length then true else aA A₁.length != aA n.length)==false)=true/\((bif bif aA n.length != aA A₂ then true else aA A₀.length != aA n.length then true else aA A₁.length != aA n.length)==false)=true/\True)/\((bif bif aA n.length != aA A₂ then true else aA A₀.length != aA n.length then true else aA A₁.length != aA n.length)=false->((bif bif aA n.length != aA A₂ then true else aA A₀.length != aA n.length then true else aA A₁.length != aA n.length)==false)=true)/\(((bif bif bif aA n.length != aA A₂ then true else aA A₀.length != aA n.length then true else aA A₁.length != aA n.length then true else aA aV != aA aP)==false)=true->((bif bif bif aA n.length != aA A₂ then true else aA A₀.length != aA n.length then true else aA A₁.length != aA n.length then true else aA aV != aA aP)==false)=true/\True)/\(((bif bif bif aA n.length != aA A₂ then true else aA A₀.length != aA n.length then true else aA A₁.length != aA n.length then true else aA aV != aA aP)==false)=true->((bif bif bif aA n.length != aA A₂ then true else aA A₀.length != aA n.length then true else aA A₁.length != aA n.length then true else aA aV != aA aP)==false)=true/\True)/\(((bif bif bif aA n.length != aA A₂ then true else aA A₀.length != aA n.length then true else aA A₁.length != aA n.length then true else aA aV != aA aP)==false&&Option.isSome l==true)=true->((bif bif bif aA n.length != aA A₂ then true else aA A₀.length != aA n.length then true else aA A₁.length != aA n.length then true else aA aV != aA aP)==false&&Option.isSome l==true)=true/\True)/\(((bif bif bif aA n.length != aA A₂ then true else aA A₀.length != aA n.length then true else aA A₁.length != aA n.length then true else aA aV != aA aP)==false&&Option.isSome l==true)=true->((bif bif bif aA n.length != aA A₂ then true else aA A₀.length != aA n.length then true else aA A₁.length != aA n.length then true else aA aV != aA aP)==false&&Option.isSome l==true)=true/\True)/\(((bif bif bif aA n.length != aA A₂ then true else aA A₀.length != aA n.length then true else aA A₁.length != aA n.length then true else aA aV != aA aP)==false&&Option.isSome l==true)=true->((bif bif bif aA n.length != aA A₂ then true else aA A₀.length != aA n.length then true else aA A₁.length != aA n.length then true else aA aV != aA aP)==false&&Option.isSome l==true)=true/\((bif bif bif aA n.length != aA A₂ then true else aA A₀.length != aA n.length then true else aA A₁.length != aA n.length then true else aA aV != aA aP)==false&&Option.isSome l==true)=true/\True)/\(((bif bif bif aA n.length != aA A₂ then true else aA A₀.length != aA n.length then true else aA A₁.length != aA n.length then true else aA aV != aA aP)==false)=true->((bif bif bif aA n.length != aA A₂ then true else aA A₀.length != aA n.length then true else aA A₁.length != aA n.length then true else aA aV != aA aP)==false)=true/\(Option.isSome l=true->((bif bif bif aA n.length != aA A₂ then true else aA A₀.length != aA n.length then true else aA A₁.length != aA n.length then true else aA aV != aA aP)==false&&Option.isSome l==true)=true)/\True)/\((bif bif bif aA n.length != aA A₂ then true else aA A₀.length != aA n.length then true else aA A₁.length != aA n.length then true else aA aV != aA aP)=false->((bif bif bif aA n.length != aA A₂ then true else aA A₀.length != aA n.length then true else aA A₁.length != aA n.length then true else aA aV != aA aP)==false)=true)/\True)/\ifB (bif bif bif bif aA n.length != aA A₂ then true else aA A₀.length != aA n.length then true else aA A₁.length != aA n.length then true else aA aV != aA aP then true else bif Option.isSome l then aA jQ.length != aA n.length else false) (True/\4=qjGz n A₀ A₁ l/\True) ((bY (fun(x:Ty.den dO)=>aW (bY (fun(x:Ty.den (Ty.lf Lf.aU))=>aW ((aF.ok x=true)::aC Prop)) x::aC Prop)) n/\bY (fun(x:Ty.den dO)=>aW (bY (fun(x:Ty.den (Ty.lf Lf.aU))=>aW ((aF.ok x=true)::aC Prop)) x::aC Prop)) A₀/\(RZ dU dB/\List.length dB<=7)/\True)/\ifB (!lY dU dB) (True/\12=qjGz n A₀ A₁ l/\True) ((bY (fun(x:Ty.den dO)=>aW (bY (fun(x:Ty.den (Ty.lf Lf.aU))=>aW ((aF.ok x=true)::aC Prop)) x::aC Prop)) A₀/\bY (fun(x:Ty.den dO)=>aW (bY (fun(x:Ty.den (Ty.lf Lf.aU))=>aW ((aF.ok x=true)::aC Prop)) x::aC Prop)) A₁/\yZ dB eH/\True)/\ifB (!kR (bgM dB eH)) (True/\14=qjGz n A₀ A₁ l/\True) (True/\0=qjGz n A₀ A₁ l/\True)))))) (by kernel_rfl) ?_
 try simp only[aJ,dh,bn]
 try dsimp only[Ty.den,Lf.den,asT] at *
 try simp only[uF,uD,trF,uG]
 have hZ:(⟨false,0,[],[]⟩:aF)=bV:=rfl
 try dsimp only[aA,asT,aB,aC,Ty.den,Lf.den] at *
 try simp only[hZ,Int.toNat_natCast,aJ,dh,bn,mg,mW,aH,nameAt,aX,aN,aZ,rowAt,iw,gJ]
 try simp only[jK,List.all_cons,List.all_nil,yx,nI,qw,jd,uy,ne_eq,ak,qg,nS,tC,xk,imp_self,AO,and_self,mg,mW,iD,qZ,qO,List.length_cons,List.length_nil]
 try simp only[wdF,iT,jA]
 have hp:(smK 100 n/\dV n)/\(smK 100 x.1.1/\dV x.1.1)/\(smK 100 x.2.1/\dV x.2.1)/\jO (l.getD []):=hp
 obtain⟨⟨g,u1⟩,b,u2⟩:=x
 obtain⟨⟨pn,n'⟩,⟨pg,g'⟩,⟨pb,b'⟩,hl⟩:=hp
 dsimp only at pg g' pb b' ⊢
 refine⟨⟨by omega,a6n n' g' b'⟩,fun h=>?_,fun h=>⟨hl,fun h2=>?_,fun h2=>?_⟩⟩
 ·unfold qjGz;rw[a4Y h,dw (fun hh=>h (b0x.mpr hh.1))]
 ·unfold qjGz;rw[dw (fun hh=>by have:okL (l.getD [])=true:=hh.2;rw[h2] at this;cases this)]
 ·obtain⟨cn,cg,cb⟩:=b0x.mp h
  have h0:(bW n=0/\bW g=0/\bW b=0)/\okR (l.getD [])=true:=⟨⟨cn,cg,cb⟩,h2⟩
  have n0:=(gX cn).1.2.2.1
  have g0:=(gX cg).1.2.2.1
  have b0:=(gX cb).1.2.2.1
  have hq:(bif l.isSome then ((l.getD []).length:Int) != (n.length:Int) else false)=false↔(l.isSome=true->(l.getD []).length=n.length):=by
   cases l.isSome
   ·simp
   ·simp only[cond_true,tC,forall_const];omega
  refine⟨⟨by omega,by omega,fun h=>⟨h,by omega,by omega⟩,fun h=>⟨h,by omega,by omega⟩,fun h=>⟨h,fun h3=>⟨h,h3⟩⟩⟩,fun h3=>?_,fun h3=>?_⟩
  ·unfold qjGz
   rw[eY h0,dw (fun hh=>?_)]
   rcases h3 with h3|h3
   ·obtain⟨⟨⟨e1,e2⟩,e3,e4⟩,_⟩:=hh
    rcases h3 with((h3|h3)|h3)|h3
    ·exact h3 e1
    ·exact h3 e2
    ·exact h3 e3
    ·exact h3 e4
   ·rw[hq.mpr hh.2] at h3;cases h3
  ·obtain⟨⟨⟨⟨e1,e2⟩,e3⟩,e4⟩,h4⟩:=h3
   have h1:((n.length=wdM n/\g.length=n.length)/\b.length=n.length/\wdM b=wdM g)/\(l.isSome=true->(l.getD []).length=n.length):=⟨⟨⟨e1,e2⟩,e3,e4⟩,hq.mp h4⟩
   refine⟨⟨lG (gX cn).2,lG (gX cg).2,SL pn pg (by omega) cn cg e1 e2,by rw[kT];exact(pg.at cg).2.1⟩,fun h5=>?_,fun h5=>⟨⟨lG (gX cg).2,lG (gX cb).2,AU pg pb cg cb (by omega) e4⟩,fun h6=>?_,fun h6=>?_⟩⟩
   ·unfold qjGz;rw[eY h0,eY h1,dw (by rw[h5];decide)]
   ·unfold qjGz;rw[eY h0,eY h1,eY h5,dw (by rw[h6];decide)]
   ·unfold qjGz;rw[eY h0,eY h1,eY h5,eY h6]
theorem TA {l:LR} (h:brL l 10=true) (g:gdL l):smL 1 l/\jO l/\l.length<=10:=by
 unfold brL at h
 rw[ak] at h
 have h1:l.length<=10:=oz h.1
 have h2:∀ q ∈ l,q.n<=1/\q.m<=1:=fun q hq=>vI (ql.mp h.2 q hq)
 exact⟨⟨⟨by omega,fun q hq=>⟨by have:=(h2 q hq).1;omega,by have:=(h2 q hq).2;omega⟩⟩,fun _ q hq=>g q hq 1 (aj 1) (h2 q hq).1 (h2 q hq).2⟩,⟨by omega,fun q hq=>⟨by have:=(h2 q hq).1;omega,by have:=(h2 q hq).2;omega⟩⟩,h1⟩
def c4M:Ctr:=⟨[tMR,tFr,.list tR],[tB],fun x=>gdM x.1/\gdM x.2.1.1.1/\gdM x.2.1.2.1/\gdL x.2.2.1,fun _=>(true,())⟩
theorem b5N:aY Tryz.prog 4 c4M:=by
 refine bH (((((((nil0.ad XJ).ad UW).ad a1o).ad WJ).ad a1G).ad a0U).ad b5I) ⟨[],[],[]⟩ Tryz.func4 rfl (by decide) (fun x=>[]) (fun x hp=>?_)
 obtain⟨n,x,r,u⟩:=x
 change List (List aF) at n
 change (List (List aF) × Unit) × List (List aF) × Unit at x
 change List aF at r
 refine bP (let eH:=(Ty.list (Ty.lf Lf.aU));let dO:=(List.map (fun(xs:Ty.den eH)=>List.map (fun(x:Ty.den (Ty.lf Lf.aU))=>aF.x x) xs) n);let dU:=x.1.1;let aP:=(asT (List (List aF)) dU);let dX:=x.2.1;let A₂:=(!List.all (n::asT (List (List aF)) dU::asT (List (List aF)) dX::aC (List (List aF))) yJ);let aV:=(asT (List (List aF)) dX);let A₀:=(oW n aP aV r);let dB:=(List.map (fun(xs:Ty.den eH)=>List.map (fun(x:Ty.den (Ty.lf Lf.aU))=>aF.x x) xs) aV);let iG:=(List.map (fun(x:Ty.den (Ty.lf Lf.aU))=>aF.x x) r);let A₁:=(qrDz (stM dO dB) (stL iG (wdM dB)));(True/\True)/\(List.length (n::asT (List (List aF)) dU::asT (List (List aF)) dX::aC (List (List aF)))<=100/\((A₂==false)=true->(A₂==false)=true/\True/\True)/\((A₂==false)=true->(A₂==false)=true/\True)/\(A₂=false->(A₂==false)=true)/\True)/\ifB (bif !List.all (n::asT (List (List aF)) dU::asT (List (List aF)) dX::aC (List (List aF))) yJ then true else !brL r 10) (True/\asT Bool true=true/\True) ((b5J n aP aV r/\True)/\(List.length (aC Rat)=0/\List.length r<=1000000000/\((smK 100 n/\dV n)/\(smK 100 aP/\dV aP)/\(smK 100 aV/\dV aV)/\jO (Option.getD (some r) (aC aF)))/\True)/\ifB (qjGz n aP aV (some r) != 0) (((((Prod.fst A₀.2==qjGz n aP aV (some r))==true)=true->((Prod.fst A₀.2==qjGz n aP aV (some r))==true)=true/\True)/\(((Prod.fst A₀.2==qjGz n aP aV (some r))==true)=true->((Prod.fst A₀.2==qjGz n aP aV (some r))==true)=true/\True)/\((Prod.fst A₀.2==qjGz n aP aV (some r))=true->((Prod.fst A₀.2==qjGz n aP aV (some r))==true)=true)/\True)/\True/\(bif Prod.fst A₀.2==qjGz n aP aV (some r) then aA A₀.1.length==0 else false)=true/\True) ((bY (fun(x:Ty.den eH)=>aW (bY (fun(x:Ty.den (Ty.lf Lf.aU))=>aW ((aF.ok x=true)::aC Prop)) x::aC Prop)) n/\bY (fun(x:Ty.den eH)=>aW (bY (fun(x:Ty.den (Ty.lf Lf.aU))=>aW ((aF.ok x=true)::aC Prop)) x::aC Prop)) aV/\bY (fun(x:Ty.den (Ty.lf Lf.aU))=>aW ((aF.ok x=true)::aC Prop)) r/\a8m dO dB iG/\True)/\ifB (!Prod.fst A₁.2) (((((Prod.fst A₀.2==6)==true)=true->((Prod.fst A₀.2==6)==true)=true/\True)/\(((Prod.fst A₀.2==6)==true)=true->((Prod.fst A₀.2==6)==true)=true/\True)/\((Prod.fst A₀.2==6)=true->((Prod.fst A₀.2==6)==true)=true)/\True)/\True/\(bif Prod.fst A₀.2==6 then aA A₀.1.length==0 else false)=true/\True) (((((Prod.fst A₀.2==0)==true)=true->((Prod.fst A₀.2==0)==true)=true/\((Prod.fst A₀.2==0)==true)=true/\(szL A₀.1/\szL A₁.1)/\True)/\((Prod.fst A₀.2==0)=true->((Prod.fst A₀.2==0)==true)=true)/\True)/\True/\(bif Prod.fst A₀.2==0 then decide (Prod.fst A₀=Prod.fst A₁) else false)=true/\True)))) (by kernel_rfl) ?_
 simp only[UA,ak,dh,aJ,bn]
 try simp only[aJ,dh,bn]
 try dsimp only[Ty.den,Lf.den,asT] at *
 try simp only[uF,uD,trF,uG]
 have hZ:(⟨false,0,[],[]⟩:aF)=bV:=rfl
 try dsimp only[aA,asT,aB,aC,Ty.den,Lf.den] at *
 try simp only[hZ,Int.toNat_natCast,aJ,dh,bn,mg,mW,aH,nameAt,aX,aN,aZ,rowAt,iw,gJ]
 try simp only[jK,List.all_cons,List.all_nil,yx,nI,qw,jd,uy,ne_eq,ak,qg,nS,tC,xk,imp_self,AO,and_self,mg,mW,iD,qZ,qO,List.length_cons,List.length_nil]
 try simp only[wdF,iT,jA]
 have hp:gdM n/\gdM x.1.1/\gdM x.2.1/\gdL r:=hp
 obtain⟨⟨g,u1⟩,b,u2⟩:=x
 obtain⟨gn,gg,gb,gr⟩:=hp
 dsimp only at gg gb ⊢
 try simp only[UA,ak,dh,jd]
 refine⟨by omega,fun hf=>?_⟩
 obtain⟨⟨f1,f2,f3⟩,f4⟩:=hf
 obtain⟨sn,sn'⟩:=JU f1 gn
 obtain⟨sg,sg'⟩:=JU f2 gg
 obtain⟨sb,sb'⟩:=JU f3 gb
 obtain⟨sr,sr',r10⟩:=TA f4 gr
 refine⟨⟨sn,sg,sb,sr⟩,⟨by omega,⟨sn,sn'⟩,⟨sg,sg'⟩,⟨sb,sb'⟩,sr'⟩,fun h=>?_,fun h=>?_⟩
 ·rw[b4q h];simp
 ·obtain⟨F,hr,hl⟩:=b0d h
  have hr:okR r=true:=hr
  have hl:r.length=n.length:=hl rfl
  have A:=F.m sn sg sb
  have hsr:∀ q ∈ lq r,rsz q<=1:=sr.q hr
  have lr:(lq r).length=n.length:=by rw[wG,hl]
  have n7:=A.n7
  have c7:=A.c7
  obtain⟨d1,d2⟩:=a8K A.hn A.hg A.hb (by omega) F.hG F.hR lr
  have hw:wdM (mq b)=wdM g:=by rw[RF,F.e4]
  have Pj:=a3S (AU sg sb F.cg F.cb (by rw[F.e2,F.e3]) F.e4)
  have s1:isM (sM (mq g) (mq b)) n.length n.length:=QB A.hg
  rw[hw,b4r F hr hl]
  refine⟨⟨lG (gX F.cn).2,lG (gX F.cb).2,a0R hr,?_⟩,fun h2=>?_,fun h2=>?_⟩
  ·unfold a8m;rw[kT,hw];exact⟨A.hn,A.hb,n7,c7,A.nC,A.bC,lr,hsr⟩
  ·have e:pO (mq n) (lq r)=false:=by
    rw[<-d1]
    cases e:pO (stM (mq n) (mq b)) (stL (lq r) (wdM g))
    ·rfl
    ·unfold qrDz at h2;rw[e,eY rfl] at h2;cases h2
   rw[e,dw (by decide)];simp
  ·have e:pO (stM (mq n) (mq b)) (stL (lq r) (wdM g))=true:=by
    cases e:pO (stM (mq n) (mq b)) (stL (lq r) (wdM g))
    ·unfold qrDz at h2;rw[e,dw (by decide)] at h2;cases h2
    ·rfl
   have e2:pO (mq n) (lq r)=true:=by rw[<-d1];exact e
   have e3:(qrDz (stM (mq n) (mq b)) (stL (lq r) (wdM g))).1=mvL (sM (mq g) (mq b)) (uV (mq n) (lq r)):=by
    unfold qrDz;rw[eY e];exact d2 e2
   have z:szL (mvL (sM (mq g) (mq b)) (uV (mq n) (lq r))):=by
    refine⟨by rw[qAOz,s1.len];omega,fun q hq=>?_⟩
    have:=a1M s1 (Pj.s2.sz (aj _)) (a8l A.hn A.nC n7 lr hsr) (XO A.hn _) q hq
    have h3:n.length*(27000+20000+1)<=7*47001:=oh n7 (aj _)
    omega
   rw[eY e2,e3]
   exact⟨fun _=>⟨rfl,rfl,z,z⟩,by simp⟩
section
open Go Go.ChangeShapes Go.WideShapes Go.ChangeAt Go.RowKit Go.Joins
set_option maxRecDepth 100000 in
theorem LJ {pre:(nest [(.list (.list (.lf .aU))),(.pair (.pair (.list (.list (.lf .aU))) .unit) (.pair (.list (.list (.lf .aU))) .unit)),(.list (.lf .aU))]).den->Prop} (h:aY Tryz.prog 4 ⟨[(.list (.list (.lf .aU))),(.pair (.pair (.list (.list (.lf .aU))) .unit) (.pair (.list (.list (.lf .aU))) .unit)),(.list (.lf .aU))],[.bool],pre,fun _=>(true,())⟩) (hp:∀ (x0:Ty.den (.list (.list (.lf .aU)))) (x1:Ty.den (.pair (.pair (.list (.list (.lf .aU))) .unit) (.pair (.list (.list (.lf .aU))) .unit))) (x2:Ty.den (.list (.lf .aU))),good (.list (.list (.lf .aU))) x0->good (.pair (.pair (.list (.list (.lf .aU))) .unit) (.pair (.list (.list (.lf .aU))) .unit)) x1->good (.list (.lf .aU)) x2->pre (x0,x1,x2,())):Rows.DatumSolvesSaid:=by
 have lifted:∀ (os:Os) (started:os.Started) (H:Type) (enc:TypeId × Value->H),ReturnsInHanded {} Tryz.checked os 4 .any (Rows.datumSolvesSpec.pre6 enc Tryz.prog Tryz.f4 Rows.datumSolvesRow.domain false) (Rows.datumSolvesSpec.post enc Tryz.prog Tryz.f4 false true false false):=by
  intro os started H enc
  refine returnsInHanded_of_change (C:=Tryz.checked) own started (by kernel_rfl) Tryz.func4
   (ChangeSpec.witness6 (enc:=enc) (C:=Tryz.checked) false ⟨#[],#[.slice none 0 0,.agg #[.slice none 0 0,.slice none 0 0],.slice none 0 0],[]⟩ 8 (by kernel_rfl) (by kernel_rfl) (by kernel_rfl) (by kernel_rfl)) ?_
  intro W base args ds gs before hval0 hW hcnd _
  have hval:∀ (j:Nat) t v,Tryz.f4.params[j]?=some t->args[j]?=some v->Value.okWide Tryz.prog W .any base t v:=hval0
  have hW':=hW
  obtain⟨p,q,hA0,hV,rfl,hfz,hnd⟩:=hW
  have hA:DataW.TrodAll enc Tryz.prog W 0 (fun _=>true) true Tryz.f4.params.toList args.toList ds p:=hA0
  rw[Tryz.params4] at hA hval
  obtain⟨v0,vs0,d0,ds0,p0,q0,hargs,rfl,rfl,h0,r0⟩:=trodAll_cons hA
  obtain⟨v1,vs1,d1,ds1,p1,q1,rfl,rfl,rfl,h1,r1⟩:=trodAll_cons r0
  obtain⟨v2,vs2,d2,ds2,p2,q2,rfl,rfl,rfl,h2,r2⟩:=trodAll_cons r1
  obtain⟨rfl,rfl,rfl⟩:=trodAll_nil r2
  obtain rfl:args=#[v0,v1,v2]:=by cases args;simp_all
  obtain⟨rfl,rfl⟩:=trodVars_none hV
  obtain⟨x0,k0,g0⟩:=DJ (t:=.list (.list (.lf .aU))) (by kernel_rfl) (hval 0 23 v0 rfl rfl) h0
  have l0:∀ x ∈ p0,x.block<W.heap.size:=fun x hx=>hW'.lt x (by simp[hx])
  obtain⟨x1,k1,g1⟩:=DJ (t:=.pair (.pair (.list (.list (.lf .aU))) .unit) (.pair (.list (.list (.lf .aU))) .unit)) (by kernel_rfl) (hval 1 40 v1 rfl rfl) h1
  have l1:∀ x ∈ p1,x.block<W.heap.size:=fun x hx=>hW'.lt x (by simp[hx])
  obtain⟨x2,k2,g2⟩:=DJ (t:=.list (.lf .aU)) (by kernel_rfl) (hval 2 32 v2 rfl rfl) h2
  have l2:∀ x ∈ p2,x.block<W.heap.size:=fun x hx=>hW'.lt x (by simp[hx])
  refine(h (a0Q W) W [v0,v1,v2] (x0,x1,x2,()) (fun q hq=>hq) ⟨_,_,rfl,k0,_,_,rfl,k1,_,_,rfl,k2,rfl⟩ (hp x0 x1 x2 g0 g1 g2)).mono fun e W' ⟨v,he,hr,hg⟩=>?_
  subst he
  have hr:kM _ W' .bool v true:=hr
  rw[a4V hr]
  exact⟨_,rfl,_,_,_,[],_,[],hW',trodAll_cons_mk (shut_bool Tryz.underlying4 _) trodAll_mk0,(trodAll_cons_mk (Below.trod laidOut (by kernel_rfl) (oz (by kernel_rfl)) h0 hg l0) (trodAll_cons_mk (Below.trod laidOut (by kernel_rfl) (oz (by kernel_rfl)) h1 hg l1) (trodAll_cons_mk (Below.trod laidOut (by kernel_rfl) (oz (by kernel_rfl)) h2 hg l2) trodAll_mk0))),rfl,hg.frame _,fun h=>by cases h⟩
 exact OpenClaim.holds_of_wide 4 Tryz.f4 rfl rfl rfl rfl rfl rfl rfl ⟨rfl,rfl,rfl,rfl,rfl⟩ rfl rfl rfl rfl rfl (by kernel_rfl) Tryz.func4 (by kernel_rfl)
  (oz (by kernel_rfl)) (by unfold Func.isWrapper;first|(rw[eY (by decide +kernel)];kernel_rfl)|(rw[dw (by decide +kernel)];exact⟨rfl,rfl⟩))
  (fun os started H enc _=>lifted os started H enc)
end
theorem b7h {x:LR} (g:good (.list (.lf .aU)) x):gdL x:=fun q hq=>g.2 q hq
theorem vsolves_holds:Rows.DatumSolvesSaid:=LJ b5N (fun _ _ _ a b c=>⟨a5g a,a5g b.1.1,a5g b.2.1,b7h c⟩)
end Go.Proofs.YtgplhbhfdgempaaGreat
