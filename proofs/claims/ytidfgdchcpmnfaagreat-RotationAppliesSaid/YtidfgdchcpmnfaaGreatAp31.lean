/-
  Lemmas for the theorem vapplies_holds, part 31 of 33.
-/
import Derived.Test.YtidfgdchcpmnfaaGreatAp26
import Derived.Test.YtidfgdchcpmnfaaGreatAp30
namespace Go.Proofs.YtidfgdchcpmnfaaGreat
open Go Go.RowKit
set_option maxRecDepth 100000
set_option maxHeartbeats 1000000
set_option linter.unusedVariables false
set_option linter.unusedSimpArgs false
def b6f (K:Nat) (g:Int->Int):Ctr:=⟨[tZ],[tI],fun x=>isz x.1<=K,fun x=>(g x.1,())⟩
theorem a9B {f:FuncId} {K:Nat} {g:Int->Int} (h:∀ (v:Value) (x:Int) (w:World),Raw w v x->isz x<=K->Calls Tryz.prog f #[v] w (fun e w'=>e=.returned (.int .i64 (g x))/\Below w.heap.size w w')):dI Tryz.prog f (b6f K g):=by
 intro F w vs x hF hvs hp
 obtain⟨v,vs',rfl,h1,h3⟩:=hvs
 have h3:vs'=[]:=h3
 subst h3
 refine(h v x.1 w (rV h1).raw hp).mono ?_
 rintro e w' ⟨rfl,hb⟩
 exact⟨_,rfl,uM _,hb⟩
def a3A (K:Nat):Ctr:=⟨[tZ],[tI,tB],fun x=>isz x.1<=K,fun x=>(aI x.1,aN x.1,())⟩
theorem a1L {f:FuncId} {K:Nat} (h:∀ (v:Value) (x:Int) (w:World),Raw w v x->isz x<=K->Calls Tryz.prog f #[v] w (fun e w'=>e=.returned (.tuple #[.int .i64 (aI x),.bool (aN x)])/\Below w.heap.size w w')):dI Tryz.prog f (a3A K):=by
 intro F w vs x hF hvs hp
 obtain⟨v,vs',rfl,h1,h3⟩:=hvs
 have h3:vs'=[]:=h3
 subst h3
 refine(h v x.1 w (rV h1).raw hp).mono ?_
 rintro e w' ⟨rfl,hb⟩
 exact⟨_,rfl,⟨[_,_],rfl,_,_,rfl,uM _,_,_,rfl,RH _,rfl⟩,hb⟩
def b0Y (K:Nat):Ctr:=⟨[tZ,tZ],[tZ,tZ,tI],fun x=>isz x.1<=K/\isz x.2.1<=K/\(show Int from x.2.1)≠0,fun x=>(Int.fdiv x.1 x.2.1,Int.fmod x.1 x.2.1,(0:Int),())⟩
theorem a6U {f:FuncId} {K:Nat} (h:∀ (v u:Value) (x y:Int) (w:World),Raw w v x->Raw w u y->isz x<=K->isz y<=K->y≠0->Calls Tryz.prog f #[v,u] w (MJ (x.fdiv y) (x.fmod y) w)):dI Tryz.prog f (b0Y K):=by
 intro F w vs x hF hvs hp
 obtain⟨v,vs',rfl,h1,u,vs'',rfl,h2,h3⟩:=hvs
 have h3:vs''=[]:=h3
 subst h3
 refine(h v u x.1 x.2.1 w (rV h1).raw (rV h2).raw hp.1 hp.2.1 hp.2.2).mono ?_
 rintro e w' ⟨v1,v2,rfl,h1,h2,hb⟩
 exact⟨_,rfl,⟨[_,_,_],rfl,_,_,rfl,KN h1,_,_,rfl,KN h2,_,_,rfl,uM _,rfl⟩,hb⟩
def cIR:Ctr:=⟨[tI],[tR],fun x=>bZ x.1,fun x=>(mG ((show Int from x.1:Int):Rat),())⟩
theorem a6W {f:FuncId} (h:∀ (x:Int) (w:World),bZ x->Calls Tryz.prog f #[.int .i64 x] w (GQ (x:Rat) w)):dI Tryz.prog f cIR:=by
 intro F w vs x hF hvs hp
 obtain⟨v,vs',rfl,h1,h3⟩:=hvs
 have h3:vs'=[]:=h3
 subst h3
 rw[a0r h1]
 refine(h x.1 w hp).mono ?_
 rintro e w' ⟨r,rfl,hr,hb⟩
 exact⟨r,rfl,a3g hr,hb⟩
noncomputable def LI0:Lib:=(((((((LE2
 ).add 112 cIZ (a6X fun x w h0 h1=>qX x w h0 h1)
 ).add 125 (cZ2 fun x y=>((Int.gcd x y:Nat):Int)) (WH fun v u x y w h1 h2 l1 l2=>FP v u x y w h1 h2 l1 l2)
 ).add 88 (cZ2 fun x y=>x*y) (WH fun v u x y w h1 h2 l1 l2=>nV v u x y w h1 h2 l1 l2)
 ).add 126 (cZ1 fun x=>-x) (a7c fun v x w h1 l1=>FQ v x w h1 l1)
 ).add 76 (b6f 1000000000 sgn) (a9B fun v x w h1 l1=>mZ v x w h1 l1)
 ).add 136 (a3A 999999999) (a1L fun v x w h1 l1=>a2R v x w h1 l1)
 ).add 113 (b0Y 400000000) (a6U fun v u x y w h1 h2 l1 l2 hy=>qG v u x y w h1 h2 l1 l2 hy)
def TB (xs:Nat->Int) (k:Nat):Int:=sgn (kL xs k)
def a7a:Ctr:=⟨[.list tZ],[mJ,tI],fun x=>(show List Int from x.1).length=4/\(∀ j,j<4->isz (xsL x.1 j)<=400000000)/\∃ j,j<4/\xsL x.1 j≠0,fun x=>aY (xsL x.1)⟩
theorem a9v (q:Int):(bif (bif !aN q then true else decide (aI q > 1048576)) then true else decide (aI q < -1048576))=!decide (okc q):=by
 rw[<-bad_eq]
 cases aN q<;>cases decide (aI q > 1048576)<;>cases decide (aI q < -1048576)<;>rfl
theorem a8Y {x:Int} (h:sgn x<0):x<0:=Int.sign_neg_iff.1 h
theorem a6k {x:Int} (h:x<0):sgn x<0:=Int.sign_neg_iff.2 h
theorem QN:dI Tryz.prog 96 a7a:=by
 refine fB LI0 [2,4,10,11] Tryz.func96 rfl (by decide) (fun x=>[.inv Le4 (fun k=>[(5,.val tI (k.1:Int))]) (fun k=>[(2,.box [⟨tI,(0:Int)⟩,⟨tI,(0:Int)⟩,⟨tI,(0:Int)⟩,⟨tI,(0:Int)⟩]),(4,.box [⟨tZ,aO (xsL x.1) k.1⟩])]) (fun k=>4-k.1) ⟨0,by omega⟩ (fun _=>[]),
  .inv Le4 (fun k=>[(6,.val tI (TB (xsL x.1) k.1)),(7,.val tI (k.1:Int))]) (fun k=>[(2,.box [⟨tI,(0:Int)⟩,⟨tI,(0:Int)⟩,⟨tI,(0:Int)⟩,⟨tI,(0:Int)⟩]),(4,.box [⟨tZ,aO (xsL x.1) 4⟩])]) (fun k=>4-k.1) ⟨0,by omega⟩ (fun _=>[]),
  .inv {k:Nat // k<=4/\∀ j,j<k->okc (kW (xsL x.1) j)} (fun k=>[(8,.own 41 0),(41,.any),(9,.val tI (k.1:Int))]) (fun k=>[(2,.box [⟨tI,(0:Int)⟩,⟨tI,(0:Int)⟩,⟨tI,(0:Int)⟩,⟨tI,(0:Int)⟩]),(4,.box [⟨tZ,kF (xsL x.1)⟩]),(41,.row 3 tI ((List.range k.1).map (kW (xsL x.1))) 0)]) (fun k=>4-k.1) ⟨0,by omega,fun j h=>by omega⟩ (fun _=>[])]) (fun x hp=>?_)
 obtain⟨x,u⟩:=x
 change List Int at x
 refine iK (let x0z:=(kF (xsL x));let x1z:=(kW (xsL x));(bZ 0/\True)/\(asT Int 0=0/\asT Int 0=0/\asT Int 0=0/\asT Int 0=0/\asT Int 0=0/\0=aO (xsL x) 0/\True)/\∀ (i:Le4),asT Bool true=true/\ifB (decide (aF (aA i)<4)) ((0<=aF (aA i)/\aF (aA i)<aF (List.length x)/\(isz (aO (xsL x) (aA i))<=1000000000/\isz (List.getD x (Int.toNat (aF (aA i))) 0)<=1000000000)/\True)/\∃ (i':Le4),4-aA i'<4-aA i/\IntKind.wrap IntKind.i64 (aF (aA i)+1)=aF (aA i')/\asT Int 0=0/\asT Int 0=0/\asT Int 0=0/\asT Int 0=0/\aF (Int.gcd (aO (xsL x) (aA i)) (List.getD x (Int.toNat (aF (aA i))) 0))=aO (xsL x) (aA i')/\True) ((0=TB (xsL x) 0/\asT Int 0=0/\asT Int 0=0/\asT Int 0=0/\asT Int 0=0/\asT Int 0=0/\aO (xsL x) (aA i)=aO (xsL x) 4/\True)/\∀ (i:Le4),asT Bool true=true/\ifB (decide (aF (aA i)<4)) (ifB (TB (xsL x) (aA i)==0) ((0<=aF (aA i)/\aF (aA i)<aF (List.length x)/\isz (List.getD x (Int.toNat (aF (aA i))) 0)<=1000000000/\True)/\∃ (i':Le4),4-aA i'<4-aA i/\sgn (List.getD x (Int.toNat (aF (aA i))) 0)=TB (xsL x) (aA i')/\IntKind.wrap IntKind.i64 (aF (aA i)+1)=aF (aA i')/\asT Int 0=0/\asT Int 0=0/\asT Int 0=0/\asT Int 0=0/\aO (xsL x) 4=aO (xsL x) 4/\True) (∃ (i':Le4),4-aA i'<4-aA i/\TB (xsL x) (aA i)=TB (xsL x) (aA i')/\IntKind.wrap IntKind.i64 (aF (aA i)+1)=aF (aA i')/\asT Int 0=0/\asT Int 0=0/\asT Int 0=0/\asT Int 0=0/\aO (xsL x) 4=aO (xsL x) 4/\True)) (ifB (decide (TB (xsL x) (aA i)<0)) ((isz (aO (xsL x) 4)<=1000000000/\True)/\(asT Int 0=0/\asT Int 0=0/\asT Int 0=0/\asT Int 0=0/\asT Int 0=0/\-aO (xsL x) 4=kF (xsL x)/\asT (List Int) (aB Int)=aB Int/\True)/\∀ (i:{ k:Nat // k<=4/\∀ (j:Nat),j<k->okc (kW (xsL x) j) }),asT Bool true=true/\ifB (decide (aF (aA i)<4)) ((0<=aF (aA i)/\aF (aA i)<aF (List.length x)/\(isz (List.getD x (Int.toNat (aF (aA i))) 0)<=400000000/\isz x0z<=400000000/\kF (xsL x)≠0)/\True)/\(isz (Int.fdiv (List.getD x (Int.toNat (aF (aA i))) 0) x0z)<=999999999/\True)/\((((!aN (Int.fdiv (List.getD x (Int.toNat (aF (aA i))) 0) x0z))==false)=true->((!aN (Int.fdiv (List.getD x (Int.toNat (aF (aA i))) 0) x0z))==false)=true/\True)/\((!aN (Int.fdiv (List.getD x (Int.toNat (aF (aA i))) 0) x0z))=false->((!aN (Int.fdiv (List.getD x (Int.toNat (aF (aA i))) 0) x0z))==false)=true)/\(((bif !aN (Int.fdiv (List.getD x (Int.toNat (aF (aA i))) 0) x0z) then true else decide (aI (Int.fdiv (List.getD x (Int.toNat (aF (aA i))) 0) x0z) > 1048576))==false)=true->((bif !aN (Int.fdiv (List.getD x (Int.toNat (aF (aA i))) 0) x0z) then true else decide (aI (Int.fdiv (List.getD x (Int.toNat (aF (aA i))) 0) x0z) > 1048576))==false)=true/\True)/\((bif !aN (Int.fdiv (List.getD x (Int.toNat (aF (aA i))) 0) x0z) then true else decide (aI (Int.fdiv (List.getD x (Int.toNat (aF (aA i))) 0) x0z) > 1048576))=false->((bif !aN (Int.fdiv (List.getD x (Int.toNat (aF (aA i))) 0) x0z) then true else decide (aI (Int.fdiv (List.getD x (Int.toNat (aF (aA i))) 0) x0z) > 1048576))==false)=true)/\True)/\ifB (bif bif !aN (Int.fdiv (List.getD x (Int.toNat (aF (aA i))) 0) x0z) then true else decide (aI (Int.fdiv (List.getD x (Int.toNat (aF (aA i))) 0) x0z) > 1048576) then true else decide (aI (Int.fdiv (List.getD x (Int.toNat (aF (aA i))) 0) x0z) < -1048576)) (True/\(0,0,0,0,())=Prod.fst (aY (xsL x))/\True/\3=Prod.fst (Prod.snd (aY (xsL x)))/\True) ((List.length (List.map x1z (List.range (aA i)))+List.length (aI (Int.fdiv (List.getD x (Int.toNat (aF (aA i))) 0) x0z)::aB Int)<=1000000000/\True)/\∃ (i':{ k:Nat // k<=4/\∀ (j:Nat),j<k->okc (kW (xsL x) j) }),4-aA i'<4-aA i/\IntKind.wrap IntKind.i64 (aF (aA i)+1)=aF (aA i')/\asT Int 0=0/\asT Int 0=0/\asT Int 0=0/\asT Int 0=0/\kF (xsL x)=kF (xsL x)/\List.map x1z (List.range (aA i))++aI (Int.fdiv (List.getD x (Int.toNat (aF (aA i))) 0) x0z)::aB Int=List.map x1z (List.range (aA i'))/\True)) ((asT Int 0<=0/\0<aF (List.length (List.map x1z (List.range (aA i))))/\0<List.length (List.map x1z (List.range (aA i)))/\asT Int 0<=1/\1<aF (List.length (List.map x1z (List.range (aA i))))/\1<List.length (List.map x1z (List.range (aA i)))/\asT Int 0<=2/\2<aF (List.length (List.map x1z (List.range (aA i))))/\2<List.length (List.map x1z (List.range (aA i)))/\asT Int 0<=3/\3<aF (List.length (List.map x1z (List.range (aA i))))/\3<List.length (List.map x1z (List.range (aA i)))/\True)/\True/\(List.getD (List.map x1z (List.range (aA i))) 0 0,List.getD (List.map x1z (List.range (aA i))) 1 0,List.getD (List.map x1z (List.range (aA i))) 2 0,List.getD (List.map x1z (List.range (aA i))) 3 0,())=Prod.fst (aY (xsL x))/\True/\0=Prod.fst (Prod.snd (aY (xsL x)))/\True)) ((asT Int 0=0/\asT Int 0=0/\asT Int 0=0/\asT Int 0=0/\asT Int 0=0/\aO (xsL x) 4=kF (xsL x)/\asT (List Int) (aB Int)=aB Int/\True)/\∀ (i:{ k:Nat // k<=4/\∀ (j:Nat),j<k->okc (kW (xsL x) j) }),asT Bool true=true/\ifB (decide (aF (aA i)<4)) ((0<=aF (aA i)/\aF (aA i)<aF (List.length x)/\(isz (List.getD x (Int.toNat (aF (aA i))) 0)<=400000000/\isz x0z<=400000000/\kF (xsL x)≠0)/\True)/\(isz (Int.fdiv (List.getD x (Int.toNat (aF (aA i))) 0) x0z)<=999999999/\True)/\((((!aN (Int.fdiv (List.getD x (Int.toNat (aF (aA i))) 0) x0z))==false)=true->((!aN (Int.fdiv (List.getD x (Int.toNat (aF (aA i))) 0) x0z))==false)=true/\True)/\((!aN (Int.fdiv (List.getD x (Int.toNat (aF (aA i))) 0) x0z))=false->((!aN (Int.fdiv (List.getD x (Int.toNat (aF (aA i))) 0) x0z))==false)=true)/\(((bif !aN (Int.fdiv (List.getD x (Int.toNat (aF (aA i))) 0) x0z) then true else decide (aI (Int.fdiv (List.getD x (Int.toNat (aF (aA i))) 0) x0z) > 1048576))==false)=true->((bif !aN (Int.fdiv (List.getD x (Int.toNat (aF (aA i))) 0) x0z) then true else decide (aI (Int.fdiv (List.getD x (Int.toNat (aF (aA i))) 0) x0z) > 1048576))==false)=true/\True)/\((bif !aN (Int.fdiv (List.getD x (Int.toNat (aF (aA i))) 0) x0z) then true else decide (aI (Int.fdiv (List.getD x (Int.toNat (aF (aA i))) 0) x0z) > 1048576))=false->((bif !aN (Int.fdiv (List.getD x (Int.toNat (aF (aA i))) 0) x0z) then true else decide (aI (Int.fdiv (List.getD x (Int.toNat (aF (aA i))) 0) x0z) > 1048576))==false)=true)/\True)/\ifB (bif bif !aN (Int.fdiv (List.getD x (Int.toNat (aF (aA i))) 0) x0z) then true else decide (aI (Int.fdiv (List.getD x (Int.toNat (aF (aA i))) 0) x0z) > 1048576) then true else decide (aI (Int.fdiv (List.getD x (Int.toNat (aF (aA i))) 0) x0z) < -1048576)) (True/\(0,0,0,0,())=Prod.fst (aY (xsL x))/\True/\3=Prod.fst (Prod.snd (aY (xsL x)))/\True) ((List.length (List.map x1z (List.range (aA i)))+List.length (aI (Int.fdiv (List.getD x (Int.toNat (aF (aA i))) 0) x0z)::aB Int)<=1000000000/\True)/\∃ (i':{ k:Nat // k<=4/\∀ (j:Nat),j<k->okc (kW (xsL x) j) }),4-aA i'<4-aA i/\IntKind.wrap IntKind.i64 (aF (aA i)+1)=aF (aA i')/\asT Int 0=0/\asT Int 0=0/\asT Int 0=0/\asT Int 0=0/\kF (xsL x)=kF (xsL x)/\List.map x1z (List.range (aA i))++aI (Int.fdiv (List.getD x (Int.toNat (aF (aA i))) 0) x0z)::aB Int=List.map x1z (List.range (aA i'))/\True)) ((asT Int 0<=0/\0<aF (List.length (List.map x1z (List.range (aA i))))/\0<List.length (List.map x1z (List.range (aA i)))/\asT Int 0<=1/\1<aF (List.length (List.map x1z (List.range (aA i))))/\1<List.length (List.map x1z (List.range (aA i)))/\asT Int 0<=2/\2<aF (List.length (List.map x1z (List.range (aA i))))/\2<List.length (List.map x1z (List.range (aA i)))/\asT Int 0<=3/\3<aF (List.length (List.map x1z (List.range (aA i))))/\3<List.length (List.map x1z (List.range (aA i)))/\True)/\True/\(List.getD (List.map x1z (List.range (aA i))) 0 0,List.getD (List.map x1z (List.range (aA i))) 1 0,List.getD (List.map x1z (List.range (aA i))) 2 0,List.getD (List.map x1z (List.range (aA i))) 3 0,())=Prod.fst (aY (xsL x))/\True/\0=Prod.fst (Prod.snd (aY (xsL x)))/\True))))) (by kernel_rfl) ?_
 obtain⟨hl,hb,hn⟩:=hp
 dsimp only[aF,aA,asT,aB,iC] at *
 have hx:∀ j,x.getD j 0=xsL x j:=fun _=>rfl
 simp only[a9v,hx,fA,true_and,and_true,imp_self,Bool.not_eq_true',Bool.not_eq_false',decide_eq_true_eq,decide_eq_false_iff_not,Int.toNat_natCast,true_implies,implies_true,beq_iff_eq,bne_iff_ne,ne_eq,beq_eq_false_iff_ne,bne_eq_false_iff_eq]
 generalize xsL x=X at *
 have gs:∀ k,k<=4->isz (aO X k)<=1000000000:=fun k hk=>Nat.le_trans (EL (K:=400000000) k (fun j hj=>hb j (by omega))) (by omega)
 have xs:∀ j,j<4->isz (X j)<=1000000000:=fun j hj=>Nat.le_trans (hb j hj) (by omega)
 have g0:kF X≠0:=by obtain⟨j,h1,h2⟩:=hn;exact a0J h1 h2
 have gI:isz (kF X)<=400000000:=by
  have:=EL (K:=400000000) 4 hb
  unfold kF
  split
  ·rw[mQ];exact this
  ·exact this
 have ss:∀ k,TB X (k+1)=if TB X k=0 then sgn (X k) else TB X k:=fun k=>by
  show sgn (if kL X k=0 then X k else kL X k)=if sgn (kL X k)=0 then sgn (X k) else sgn (kL X k)
  by_cases h:kL X k=0
  ·rw[if_pos h,if_pos (wU.2 h)]
  ·rw[if_neg h,if_neg (fun e=>h (wU.1 e))]
 refine⟨by unfold bZ;omega,rfl,fun i=>⟨fun h1=>?a,fun h1=>⟨⟨rfl,by have:=i.2;rw[show i.1=4 by omega]⟩,fun i=>⟨fun h2=>⟨fun h3=>?b,fun h3=>?c⟩,fun h2=>⟨fun h3=>⟨gs 4 (by omega),?d,fun k=>?l⟩,fun h3=>⟨?e,fun k=>?m⟩⟩⟩⟩⟩⟩
 case a=>exact⟨⟨by omega,by omega,gs _ i.2,xs _ (by omega)⟩,⟨i.1+1,by omega⟩,by simp only;omega,by rw[dR (by omega) (by omega)];rfl,rfl⟩
 case b=>exact⟨⟨by omega,by omega,xs _ (by omega)⟩,⟨i.1+1,by omega⟩,by simp only;omega,by rw[ss,if_pos h3],by rw[dR (by omega) (by omega)];rfl⟩
 case c=>exact⟨⟨i.1+1,by omega⟩,by simp only;omega,by rw[ss,if_neg h3],by rw[dR (by omega) (by omega)];rfl⟩
 case d =>
  have:=i.2
  rw[show i.1=4 by omega] at h3
  exact(if_pos (by have:=a8Y h3;exact this)).symm
 case e =>
  have:=i.2
  rw[show i.1=4 by omega] at h3
  exact(if_neg (fun e=>h3 (a6k e))).symm
 all_goals
  refine⟨fun h4=>⟨⟨by omega,by omega,hb _ (by omega),gI,g0⟩,Nat.le_trans (qV g0 (a5O (by omega))) (Nat.le_trans (hb _ (by omega)) (by omega)),fun h5=>?_,fun h5=>⟨?_,⟨k.1+1,by omega,fun j hj=>?_⟩,by simp only;omega,by rw[dR (by omega) (by omega)];rfl,?_⟩⟩,fun h4=>?_⟩
  ·have:aY X=((0,0,0,0,()),3,()):=if_neg (fun e=>h5 (e k.1 (by omega)))
   rw[this];exact⟨rfl,rfl⟩
  ·simp only[List.length_map,List.length_range,List.length_cons,List.length_nil];omega
  ·rcases Nat.lt_succ_iff_lt_or_eq.1 hj with hj|rfl
   ·exact k.2.2 j hj
   ·exact h5
  ·simp only[List.range_succ,List.map_append,List.map_cons,List.map_nil,sH h5];rfl
  ·have hk:k.1=4:=by have:=k.2.1;omega
   have:aY X=((kW X 0,kW X 1,kW X 2,kW X 3,()),0,()):=if_pos (fun j hj=>k.2.2 j (by omega))
   rw[this,hk]
   exact⟨by simp only[List.length_map,List.length_range];omega,rfl,rfl⟩
noncomputable def LI1:Lib:=LI0.add 96 a7a QN
def b6c:Ctr:=⟨[.list tQ],[mJ,tI],fun x=>(show List Rat from x.1).length=4/\(∀ j,j<4->rsz (qL x.1 j)<=50000000)/\∃ j,j<4/\qL x.1 j≠0,fun x=>aY (aW (qL x.1))⟩
theorem a0Z:dI Tryz.prog 63 b6c:=by
 refine fB LI1 [2,4,8,9] Tryz.func63 rfl (by decide) (fun x=>[.inv Le4 (fun k=>[(5,.val tI (k.1:Int))]) (fun k=>[(2,.box [⟨tI,(0:Int)⟩,⟨tI,(0:Int)⟩,⟨tI,(0:Int)⟩,⟨tI,(0:Int)⟩]),(4,.box [⟨tZ,dN (qL x.1) k.1⟩])]) (fun k=>4-k.1) ⟨0,by omega⟩ (fun _=>[]),
  .inv Le4 (fun k=>[(6,.own 23 0),(23,.any),(7,.val tI (k.1:Int))]) (fun k=>[(2,.box [⟨tI,(0:Int)⟩,⟨tI,(0:Int)⟩,⟨tI,(0:Int)⟩,⟨tI,(0:Int)⟩]),(4,.box [⟨tZ,dN (qL x.1) 4⟩]),(23,.row 28 tZ ((List.range k.1).map (aW (qL x.1))) 0)]) (fun k=>4-k.1) ⟨0,by omega⟩ (fun _=>[])]) (fun x hp=>?_)
 obtain⟨x,u⟩:=x
 change List Rat at x
 refine iK ((bZ 1/\True)/\(asT Int 0=0/\asT Int 0=0/\asT Int 0=0/\asT Int 0=0/\asT Int 0=0/\1=dN (qL x) 0/\True)/\∀ (i:Le4),asT Bool true=true/\ifB (decide (aF (aA i)<4)) ((0<=aF (aA i)/\aF (aA i)<aF (List.length x)/\(isz (dN (qL x) (aA i))<=1000000000/\isz (aF (Rat.den (List.getD x (Int.toNat (aF (aA i))) 0)))<=1000000000)/\True)/\∃ (i':Le4),4-aA i'<4-aA i/\IntKind.wrap IntKind.i64 (aF (aA i)+1)=aF (aA i')/\asT Int 0=0/\asT Int 0=0/\asT Int 0=0/\asT Int 0=0/\dN (qL x) (aA i)*aF (Rat.den (List.getD x (Int.toNat (aF (aA i))) 0))=dN (qL x) (aA i')/\True) ((asT Int 0=0/\asT Int 0=0/\asT Int 0=0/\asT Int 0=0/\asT Int 0=0/\dN (qL x) (aA i)=dN (qL x) 4/\asT (List Int) (aB Int)=aB Int/\True)/\∀ (i:Le4),asT Bool true=true/\ifB (decide (aF (aA i)<4)) ((0<=aF (aA i)/\aF (aA i)<aF (List.length x)/\(isz (dN (qL x) 4)<=400000000/\isz (aF (Rat.den (List.getD x (Int.toNat (aF (aA i))) 0)))<=400000000/\aF (Rat.den (List.getD x (Int.toNat (aF (aA i))) 0))≠0)/\True)/\(0<=aF (aA i)/\aF (aA i)<aF (List.length x)/\(isz (Int.fdiv (dN (qL x) 4) (aF (Rat.den (List.getD x (Int.toNat (aF (aA i))) 0))))<=1000000000/\isz (Rat.num (List.getD x (Int.toNat (aF (aA i))) 0))<=1000000000)/\List.length (List.map (aW (qL x)) (List.range (aA i)))+List.length (Int.fdiv (dN (qL x) 4) (aF (Rat.den (List.getD x (Int.toNat (aF (aA i))) 0)))*Rat.num (List.getD x (Int.toNat (aF (aA i))) 0)::aB Int)<=1000000000/\True)/\∃ (i':Le4),4-aA i'<4-aA i/\IntKind.wrap IntKind.i64 (aF (aA i)+1)=aF (aA i')/\asT Int 0=0/\asT Int 0=0/\asT Int 0=0/\asT Int 0=0/\dN (qL x) 4=dN (qL x) 4/\List.map (aW (qL x)) (List.range (aA i))++Int.fdiv (dN (qL x) 4) (aF (Rat.den (List.getD x (Int.toNat (aF (aA i))) 0)))*Rat.num (List.getD x (Int.toNat (aF (aA i))) 0)::aB Int=List.map (aW (qL x)) (List.range (aA i'))/\True) (((List.length (List.map (aW (qL x)) (List.range (aA i)))=4/\(∀ (j:Nat),j<4->isz (xsL (List.map (aW (qL x)) (List.range (aA i))) j)<=400000000)/\∃ (j:Nat),j<4/\xsL (List.map (aW (qL x)) (List.range (aA i))) j≠0)/\True)/\True/\(Prod.fst (Prod.fst (aY (xsL (List.map (aW (qL x)) (List.range (aA i)))))),Prod.fst (Prod.snd (Prod.fst (aY (xsL (List.map (aW (qL x)) (List.range (aA i))))))),Prod.fst (Prod.snd (Prod.snd (Prod.fst (aY (xsL (List.map (aW (qL x)) (List.range (aA i)))))))),Prod.fst (Prod.snd (Prod.snd (Prod.snd (Prod.fst (aY (xsL (List.map (aW (qL x)) (List.range (aA i))))))))),())=Prod.fst (aY (aW (qL x)))/\True/\Prod.fst (Prod.snd (aY (xsL (List.map (aW (qL x)) (List.range (aA i))))))=Prod.fst (Prod.snd (aY (aW (qL x))))/\True))) (by kernel_rfl) ?_
 obtain⟨hl,hb,hn⟩:=hp
 dsimp only[aF,asT,aA,aB] at *
 have hx:∀ j,x.getD j 0=qL x j:=fun _=>rfl
 simp only[hx,Int.toNat_natCast,fA,decide_eq_true_eq,decide_eq_false_iff_not,true_and,and_true,ne_eq]
 generalize qL x=q at *
 have d:∀ k,k<=4->isz (dN q k)<=400000000:=fun k hk=>Nat.le_trans (NP hb k hk) (by omega)
 have r:∀ j,j<4->isz ((q j).den:Int)<=400000000:=fun j hj=>Nat.le_trans (cZ (q j)) (Nat.le_trans (hb j hj) (by omega))
 have n:∀ j,j<4->isz (q j).num<=1000000000:=fun j hj=>Nat.le_trans (dM (q j)) (Nat.le_trans (hb j hj) (by omega))
 have z:∀ j,¬ ((q j).den:Int)=0:=fun j=>by have:=(q j).den_nz;omega
 refine⟨by unfold bZ;omega,rfl,fun i=>⟨fun h1=>⟨⟨by omega,by omega,Nat.le_trans (d _ i.2) (by omega),Nat.le_trans (r _ (by omega)) (by omega)⟩,⟨i.1+1,by omega⟩,by simp only;omega,by rw[dR (by omega) (by omega)];rfl,rfl⟩,fun h1=>⟨by have:=i.2;rw[show i.1=4 by omega],fun i=>⟨fun h2=>⟨⟨by omega,by omega,d 4 (by omega),r _ (by omega),z _⟩,⟨by omega,by omega,⟨Nat.le_trans (qV (z _) (wF q (by omega))) (Nat.le_trans (d 4 (by omega)) (by omega)),n _ (by omega)⟩,by simp only[List.length_map,List.length_range,List.length_cons,List.length_nil];omega⟩,⟨i.1+1,by omega⟩,by simp only;omega,by rw[dR (by omega) (by omega)];rfl,?_⟩,fun h2=>?_⟩⟩⟩⟩
 ·simp only[List.range_succ,List.map_append,List.map_cons,List.map_nil,Int.mul_comm _ (q i.1).num];rfl
 ·have hk:i.1=4:=by have:=i.2;omega
  have hX:∀ k,k<4->xsL (List.map (aW q) (List.range 4)) k=aW q k:=fun k hk=>by
   match k,hk with
   | 0,_=>rfl
   | 1,_=>rfl
   | 2,_=>rfl
   | 3,_=>rfl
  rw[hk,uJ hX]
  refine⟨⟨rfl,fun j hj=>?_,?_⟩,rfl,rfl⟩
  ·rw[hX j hj];exact Nat.le_trans (JO hb hj) (by omega)
  ·obtain⟨j,hj,h⟩:=hn
   exact⟨j,hj,by rw[hX j hj];exact NG hj h⟩
noncomputable def LI2:Lib:=((LI1.add 63 b6c a0Z
 ).add 84 (cVal 999999999) (a3B fun v ok q w h hn=>qH v ok q w h hn)
 ).add 24 cIR (a6W fun x w h=>UR x w h.1 h.2)
theorem b6i (x:QC4):(x.1.1,x.1.2.1,x.1.2.2.1,x.1.2.2.2.1,())=x.1:=rfl
def sm2 (q:aC):Prop:=q.g.length<=2/\q.h.length<=2/\rsz q.x<=2
def GZ (u v w:aC):QC4:=if u.ok=true/\v.ok=true/\w.ok=true then aY (aW (qL [((1:Int):Rat),u.x,v.x,w.x])) else ((0,0,0,0,()),1,())
theorem a3C {u v w:aC} (hu:sm2 u) (hv:sm2 v) (hw:sm2 w):[((1:Int):Rat),u.x,v.x,w.x].length=4/\(∀ j,j<4->rsz (qL [((1:Int):Rat),u.x,v.x,w.x] j)<=50000000)/\∃ j,j<4/\qL [((1:Int):Rat),u.x,v.x,w.x] j≠0:=by
 refine⟨rfl,fun j hj=>?_,0,by omega,by show ((1:Int):Rat)≠0;decide +kernel⟩
 match j,hj with
 | 0,_=>show rsz ((1:Int):Rat)<=_;decide +kernel
 | 1,_=>exact Nat.le_trans hu.2.2 (by omega)
 | 2,_=>exact Nat.le_trans hv.2.2 (by omega)
 | 3,_=>exact Nat.le_trans hw.2.2 (by omega)
def a9x:Ctr:=⟨[tR,tR,tR],[mJ,tI],fun x=>sm2 x.1/\sm2 x.2.1/\sm2 x.2.2.1,fun x=>GZ x.1 x.2.1 x.2.2.1⟩
theorem a0Q:dI Tryz.prog 39 a9x:=by
 refine fB LI2 [6] Tryz.func39 rfl (by decide) (fun x=>[]) (fun x hp=>?_)
 obtain⟨u,v,w,t⟩:=x
 change aC at u;change aC at v;change aC at w
 refine iK (let x0z:=(mG (iC 1)::u::v::w::aB aC);let x1z:=((bif !aC.ok u then true else !aC.ok v)==false);((aC.n u<=999999999/\aC.m u<=999999999)/\(((!aC.ok u)==false)=true->((!aC.ok u)==false)=true/\(aC.n v<=999999999/\aC.m v<=999999999)/\True)/\(((!aC.ok u)==false)=true->((!aC.ok u)==false)=true/\True)/\((!aC.ok u)=false->((!aC.ok u)==false)=true)/\(x1z=true->x1z=true/\(aC.n w<=999999999/\aC.m w<=999999999)/\True)/\(x1z=true->x1z=true/\True)/\((bif !aC.ok u then true else !aC.ok v)=false->x1z=true)/\True)/\ifB (bif bif !aC.ok u then true else !aC.ok v then true else !aC.ok w) (True/\(0,0,0,0,())=Prod.fst (GZ u v w)/\True/\1=Prod.fst (Prod.snd (GZ u v w))/\True) ((bZ 1/\((asT Bool true=true/\True)/\(aC.ok u=true/\True)/\(aC.ok v=true/\True)/\(aC.ok w=true/\True)/\True)/\(List.length (List.map (fun(x:Ty.den (Ty.lf Lf.iE))=>aC.x x) x0z)=4/\(∀ (j:Nat),j<4->rsz (qL (List.map (fun(x:Ty.den (Ty.lf Lf.iE))=>aC.x x) x0z) j)<=50000000)/\∃ (j:Nat),j<4/\qL (List.map (fun(x:Ty.den (Ty.lf Lf.iE))=>aC.x x) x0z) j≠0)/\True)/\True/\(Prod.fst (Prod.fst (aY (aW (qL (List.map (fun(x:Ty.den (Ty.lf Lf.iE))=>aC.x x) x0z))))),Prod.fst (Prod.snd (Prod.fst (aY (aW (qL (List.map (fun(x:Ty.den (Ty.lf Lf.iE))=>aC.x x) x0z)))))),Prod.fst (Prod.snd (Prod.snd (Prod.fst (aY (aW (qL (List.map (fun(x:Ty.den (Ty.lf Lf.iE))=>aC.x x) x0z))))))),Prod.fst (Prod.snd (Prod.snd (Prod.snd (Prod.fst (aY (aW (qL (List.map (fun(x:Ty.den (Ty.lf Lf.iE))=>aC.x x) x0z)))))))),())=Prod.fst (GZ u v w)/\True/\Prod.fst (Prod.snd (aY (aW (qL (List.map (fun(x:Ty.den (Ty.lf Lf.iE))=>aC.x x) x0z)))))=Prod.fst (Prod.snd (GZ u v w))/\True)) (by kernel_rfl) ?_
 obtain⟨hu,hv,hw⟩:=hp
 dsimp only[aF,asT,aA,aB,iC,aC.n,aC.m] at *
 simp only[fA,true_and,and_true,imp_self,Bool.not_eq_true',Bool.not_eq_false',beq_iff_eq,b6i]
 obtain⟨u1,u2,u3⟩:=id hu
 refine⟨⟨⟨by omega,by omega⟩,fun h=>⟨h,by have:=hv.1;omega,by have:=hv.2.1;omega⟩,fun h=>⟨h,by have:=hw.1;omega,by have:=hw.2.1;omega⟩⟩,fun h=>?_,fun h=>?_⟩
 ·have:¬ (u.ok=true/\v.ok=true/\w.ok=true):=by rintro⟨a,b,c⟩;rw[a,b,c] at h;cases h
  rw[show GZ u v w=((0,0,0,0,()),1,()) from if_neg this];exact⟨rfl,rfl⟩
 ·have a:u.ok=true/\v.ok=true/\w.ok=true:=by revert h;cases u.ok<;>cases v.ok<;>cases w.ok<;>simp
  rw[show GZ u v w=aY (aW (qL [((1:Int):Rat),u.x,v.x,w.x])) from if_pos a]
  exact⟨⟨by unfold bZ;omega,a,a3C hu hv hw⟩,rfl,rfl⟩
noncomputable def LI3:Lib:=LI2.add 39 a9x a0Q
def b5Y:Ctr:=⟨[.list tR],[tB],fun x=>(show List aC from x.1).length<=1000/\∀ q ∈ (show List aC from x.1),q.n<=1000000000/\q.m<=1000000000,fun x=>((show List aC from x.1).all (·.ok),())⟩
theorem b1z {α:Type} {p:α->Bool} {xs:List α} {i:Nat} {d:α} (hi:i<xs.length) (h:p (xs.getD i d)=false):xs.all p=false:=by
 rw[List.all_eq_false]
 refine⟨xs.getD i d,?_,by rw[h];decide⟩
 rw[List.getD_eq_getElem?_getD,List.getElem?_eq_getElem hi]
 exact List.getElem_mem hi
theorem a6K {α:Type} {p:α->Bool} {xs:List α} {i:Nat} {d:α} (hi:i<xs.length):(xs.take (i+1)).all p=((xs.take i).all p&&p (xs.getD i d)):=by
 rw[List.take_add_one,List.all_append,List.getD_eq_getElem?_getD,List.getElem?_eq_getElem hi]
 simp
theorem RS:dI Tryz.prog 83 b5Y:=by
 refine fB LI3 [4] Tryz.func83 rfl (by decide) (fun x=>[.inv {k:Nat // k<=(show List aC from x.1).length/\((show List aC from x.1).take k).all (·.ok)=true} (fun k=>[(7,.val tI (k.1:Int))]) (fun k=>[]) (fun k=>(show List aC from x.1).length-k.1) ⟨0,by omega,rfl⟩ (fun _=>[])]) (fun x hp=>?_)
 obtain⟨x,u⟩:=x
 change List aC at x
 refine iK ((asT Int 0=0/\True)/\∀ (i:{ k:Nat // k<=List.length x/\(List.all (List.take k x) fun(x:aC)=>aC.ok x)=true }),asT Bool true=true/\ifB (decide (aF (aA i)<aF (List.length x))) ((0<=aF (aA i)/\aF (aA i)<aF (List.length x)/\True)/\((aC.n (List.getD x (Int.toNat (aF (aA i))) { ok:=false,x:=0,g:=aB Nat,h:=aB Nat })<=1000000000/\aC.m (List.getD x (Int.toNat (aF (aA i))) { ok:=false,x:=0,g:=aB Nat,h:=aB Nat })<=1000000000)/\True)/\ifB (!aC.ok (List.getD x (Int.toNat (aF (aA i))) { ok:=false,x:=0,g:=aB Nat,h:=aB Nat })) (True/\(false=List.all x fun(x:aC)=>aC.ok x)/\True) (∃ (i':{ k:Nat // k<=List.length x/\(List.all (List.take k x) fun(x:aC)=>aC.ok x)=true }),List.length x-aA i'<List.length x-aA i/\IntKind.wrap IntKind.i64 (aF (aA i)+1)=aF (aA i')/\True)) (True/\(true=List.all x fun(x:aC)=>aC.ok x)/\True)) (by kernel_rfl) ?_
 obtain⟨hl,hb⟩:=hp
 have hZ:(⟨false,0,[],[]⟩:aC)=fJ:=rfl
 dsimp only[aF,asT,aA,aB] at *
 simp only[hZ,Int.toNat_natCast,fA,decide_eq_true_eq,decide_eq_false_iff_not,true_and,and_true,Bool.not_eq_true',Bool.not_eq_false']
 refine fun i=>⟨fun h1=>⟨⟨by omega,h1⟩,lZ (p:=fun q:aC=>q.n<=1000000000/\q.m<=1000000000) hb (by omega),fun h2=>?_,fun h2=>⟨⟨i.1+1,by omega,?_⟩,by simp only;omega,?_⟩⟩,fun h1=>?_⟩
 ·rw[b1z (d:=fJ) (by omega) h2]
 ·rw[a6K (d:=fJ) (by omega),i.2.2,h2];rfl
 ·rw[dR (by omega) (by omega)];rfl
 ·have h3:=i.2.2
  rw[List.take_of_length_le (by omega)] at h3
  exact h3.symm
noncomputable def LI4:Lib:=(LI3.add 83 b5Y RS).add 51 cIR (a6W fun x w h=>jJ x w h.1 h.2)
theorem a1M:dI Tryz.prog 38 a9x:=by
 refine fB LI4 [6] Tryz.func38 rfl (by decide) (fun x=>[]) (fun x hp=>?_)
 obtain⟨u,v,w,t⟩:=x
 change aC at u;change aC at v;change aC at w
 refine iK (let x0z:=(mG (iC 1)::u::v::w::aB aC);((List.length (u::v::w::aB aC)<=1000/\∀ (q:aC),q ∈ u::v::w::aB aC->aC.n q<=1000000000/\aC.m q<=1000000000)/\True)/\ifB (!List.all (u::v::w::aB aC) fun(x:aC)=>aC.ok x) (True/\(0,0,0,0,())=Prod.fst (GZ u v w)/\True/\1=Prod.fst (Prod.snd (GZ u v w))/\True) ((bZ 1/\((asT Bool true=true/\True)/\(aC.ok u=true/\True)/\(aC.ok v=true/\True)/\(aC.ok w=true/\True)/\True)/\(List.length (List.map (fun(x:Ty.den (Ty.lf Lf.iE))=>aC.x x) x0z)=4/\(∀ (j:Nat),j<4->rsz (qL (List.map (fun(x:Ty.den (Ty.lf Lf.iE))=>aC.x x) x0z) j)<=50000000)/\∃ (j:Nat),j<4/\qL (List.map (fun(x:Ty.den (Ty.lf Lf.iE))=>aC.x x) x0z) j≠0)/\True)/\True/\(Prod.fst (Prod.fst (aY (aW (qL (List.map (fun(x:Ty.den (Ty.lf Lf.iE))=>aC.x x) x0z))))),Prod.fst (Prod.snd (Prod.fst (aY (aW (qL (List.map (fun(x:Ty.den (Ty.lf Lf.iE))=>aC.x x) x0z)))))),Prod.fst (Prod.snd (Prod.snd (Prod.fst (aY (aW (qL (List.map (fun(x:Ty.den (Ty.lf Lf.iE))=>aC.x x) x0z))))))),Prod.fst (Prod.snd (Prod.snd (Prod.snd (Prod.fst (aY (aW (qL (List.map (fun(x:Ty.den (Ty.lf Lf.iE))=>aC.x x) x0z)))))))),())=Prod.fst (GZ u v w)/\True/\Prod.fst (Prod.snd (aY (aW (qL (List.map (fun(x:Ty.den (Ty.lf Lf.iE))=>aC.x x) x0z)))))=Prod.fst (Prod.snd (GZ u v w))/\True)) (by kernel_rfl) ?_
 obtain⟨hu,hv,hw⟩:=hp
 dsimp only[aF,asT,aA,aB,iC,aC.n,aC.m] at *
 simp only[fA,true_and,and_true,imp_self,Bool.not_eq_true',Bool.not_eq_false',beq_iff_eq,b6i]
 obtain⟨u1,u2,u3⟩:=id hu
 refine⟨⟨by show 3<=1000;omega,fun q hq=>?_⟩,fun h=>?_,fun h=>?_⟩
 ·simp only[List.mem_cons,List.not_mem_nil,or_false] at hq
  rcases hq with rfl|rfl|rfl
  ·exact⟨by omega,by omega⟩
  ·exact⟨by have:=hv.1;omega,by have:=hv.2.1;omega⟩
  ·exact⟨by have:=hw.1;omega,by have:=hw.2.1;omega⟩
 ·have:¬ (u.ok=true/\v.ok=true/\w.ok=true):=by rintro⟨a,b,c⟩;simp[a,b,c] at h
  rw[show GZ u v w=((0,0,0,0,()),1,()) from if_neg this];exact⟨rfl,rfl⟩
 ·have a:u.ok=true/\v.ok=true/\w.ok=true:=by simpa using h
  rw[show GZ u v w=aY (aW (qL [((1:Int):Rat),u.x,v.x,w.x])) from if_pos a]
  exact⟨⟨by unfold bZ;omega,a,a3C hu hv hw⟩,rfl,rfl⟩
noncomputable def LI5:Lib:=LI4.add 38 a9x a1M
def b6e:Ctr:=⟨[tR],[tB],fun x=>True,fun x=>(decide ((show aC from x.1).n<=2/\(show aC from x.1).m<=2),())⟩
theorem a6n:dI Tryz.prog 13 b6e:=by
 refine fB LI5 [] Tryz.func13 rfl (by decide) (fun x=>[]) (fun x hp=>?_)
 obtain⟨q,u⟩:=x
 change aC at q
 refine iK (let x0z:=(decide (aF (List.length (aC.g q))<=2)==true);((x0z=true->x0z=true/\True)/\(x0z=true->x0z=true/\True)/\(x0z=true->x0z=true/\True)/\(x0z=true->x0z=true/\True)/\(decide (aF (List.length (aC.g q))<=2)=true->x0z=true)/\True)/\True/\(bif decide (aF (List.length (aC.g q))<=2) then decide (aF (List.length (aC.h q))<=2) else false)=decide (aC.n q<=2/\aC.m q<=2)/\True) (by kernel_rfl) ?_
 dsimp only[aF,aC.n,aC.m] at *
 simp only[true_and,and_true,imp_self,beq_iff_eq,decide_eq_true_eq]
 by_cases h1:q.g.length<=2
 ·by_cases h2:q.h.length<=2
  ·rw[decide_eq_true (p:=(q.g.length:Int)<=2) (by omega),decide_eq_true (p:=(q.h.length:Int)<=2) (by omega),decide_eq_true (p:=q.g.length<=2/\q.h.length<=2) ⟨h1,h2⟩];rfl
  ·rw[decide_eq_false (p:=(q.h.length:Int)<=2) (by omega),decide_eq_false (p:=q.g.length<=2/\q.h.length<=2) (fun h=>h2 h.2)];cases decide ((q.g.length:Int)<=2)<;>rfl
 ·rw[decide_eq_false (p:=(q.g.length:Int)<=2) (by omega),decide_eq_false (p:=q.g.length<=2/\q.h.length<=2) (fun h=>h1 h.1)];rfl
noncomputable def LI6:Lib:=LI5.add 13 b6e a6n
end Go.Proofs.YtidfgdchcpmnfaaGreat
