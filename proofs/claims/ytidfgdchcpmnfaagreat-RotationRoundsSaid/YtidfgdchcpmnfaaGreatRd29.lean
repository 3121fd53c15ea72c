/-
  Lemmas for the theorem vrounds_holds, part 29 of 33.
-/
import Derived.Test.YtidfgdchcpmnfaaGreatRd07
import Derived.Test.YtidfgdchcpmnfaaGreatRd10
import Derived.Test.YtidfgdchcpmnfaaGreatRd20
import Derived.Test.YtidfgdchcpmnfaaGreatRd28
namespace Go.Proofs.YtidfgdchcpmnfaaGreat
open Go Go.RowKit
set_option maxRecDepth 100000
set_option maxHeartbeats 400000
set_option linter.unusedVariables false
set_option linter.unusedSimpArgs false
abbrev QL:Type:=List Rat
abbrev QM:Type:=List (List Rat)
def zV (xs:QL):Prop:=∀ q ∈ xs,rsz q<=190000000
def a9E (m:QM):Prop:=∀ r ∈ m,zV r
theorem zV.at_ {xs:QL} (h:zV xs) (i:Nat):rsz (xs.getD i 0)<=190000000:=by
 by_cases hi:i<xs.length
 ·rw[List.getD_eq_getElem?_getD,List.getElem?_eq_getElem hi,Option.getD_some]
  exact h _ (List.getElem_mem hi)
 ·rw[List.getD_eq_getElem?_getD,List.getElem?_eq_none (by omega),Option.getD_none,FW];omega
theorem a9E.at_ {m:QM} (h:a9E m) (i:Nat):zV (m.getD i []):=by
 by_cases hi:i<m.length
 ·rw[List.getD_eq_getElem?_getD,List.getElem?_eq_getElem hi,Option.getD_some]
  exact h _ (List.getElem_mem hi)
 ·rw[List.getD_eq_getElem?_getD,List.getElem?_eq_none (by omega),Option.getD_none]
  intro q hq;cases hq
theorem a6N {α:Type} {xs ys:List α} {i:Nat} (d:α) (h:xs.take i=ys.take i) (h1:i<xs.length) (h2:i<ys.length) (e:xs.getD i d=ys.getD i d):xs.take (i+1)=ys.take (i+1):=by
 rw[List.take_add_one,List.take_add_one,h]
 rw[List.getD_eq_getElem?_getD,List.getD_eq_getElem?_getD,List.getElem?_eq_getElem h1,List.getElem?_eq_getElem h2] at e
 rw[List.getElem?_eq_getElem h1,List.getElem?_eq_getElem h2]
 simp only[Option.getD_some] at e
 rw[e]
theorem dY {n:Int} (h0:-9223372036854775808<=n) (h1:n<=9223372036854775807):IntKind.wrap .i64 n=n:=by
 unfold IntKind.wrap
 simp only[IntKind.bits,IntKind.signed,Bool.true_and,decide_eq_true_eq,Nat.reduceSub,Int.reducePow,ge_iff_le]
 split<;>omega
abbrev b2d {α:Type} (xs ys:List α):Type:={i:Nat // xs.length=ys.length->i<=xs.length/\xs.take i=ys.take i}
def cSL:Ctr:=⟨[.list tQ,.list tQ],[tB],fun x=>zV x.1/\zV x.2.1/\(show QL from x.1).length<=1000000000,fun x=>((show QL from x.1)==(show QL from x.2.1),())⟩
theorem YT:dI Tryz.prog 121 cSL:=by
 refine fO LQ [] Tryz.func121 rfl (by decide) (fun x=>[.inv (b2d (α:=Rat) x.1 x.2.1) (fun i=>[(5,.val tI (i.1:Int))]) (fun i=>[]) (fun i=>(show QL from x.1).length+1-i.1) ⟨0,fun h=>⟨Nat.zero_le _,rfl⟩⟩ (fun _=>[])]) (fun x hp=>?_)
 obtain⟨x,y,u⟩:=x
 change QL at x
 change QL at y
 refine iO (ifB (aF (List.length x) != aF (List.length y)) (True/\false=(x==y)/\True) ((asT Int 0=aF 0/\True)/\∀ (i:b2d x y),asT Bool true=true/\ifB (decide (aF (aA i)<aF (List.length x))) ((0<=aF (aA i)/\aF (aA i)<aF (List.length x)/\0<=aF (aA i)/\aF (aA i)<aF (List.length y)/\(rsz (List.getD x (Int.toNat (aF (aA i))) 0)<=190000000/\rsz (List.getD y (Int.toNat (aF (aA i))) 0)<=190000000)/\True)/\ifB (!decide (List.getD x (Int.toNat (aF (aA i))) 0=List.getD y (Int.toNat (aF (aA i))) 0)) (True/\false=(x==y)/\True) (∃ (i':b2d x y),List.length x+1-aA i'<List.length x+1-aA i/\IntKind.wrap IntKind.i64 (aF (aA i)+1)=aF (aA i')/\True)) (True/\true=(x==y)/\True))) (by kernel_rfl) ?_
 obtain⟨hx,hy,hl⟩:=hp
 dsimp only[aF,aA,asT] at *
 refine gU.2 ⟨fun h=>⟨trivial,?_,trivial⟩,fun h=>⟨⟨rfl,trivial⟩,fun i=>⟨rfl,gU.2 ⟨fun h1=>?_,fun h1=>⟨trivial,?_,trivial⟩⟩⟩⟩⟩
 ·simp only[bne_iff_ne,ne_eq,Int.natCast_inj] at h
  symm
  simp only[beq_eq_false_iff_ne]
  intro e;exact h (by rw[e])
 all_goals
  simp only[bne_eq_false_iff_eq,Int.natCast_inj] at h
  simp only[decide_eq_true_eq,decide_eq_false_iff_not,Int.ofNat_lt] at h1
  obtain⟨i,hi⟩:=i
  obtain⟨h2,h3⟩:=hi h
  dsimp only at h1 ⊢
 ·refine⟨⟨by omega,by omega,by omega,by omega,⟨hx.at_ _,hy.at_ _⟩,trivial⟩,gU.2 ⟨fun h4=>⟨trivial,?_,trivial⟩,fun h4=>?_⟩⟩
  ·simp only[Bool.not_eq_true',decide_eq_false_iff_not,Int.toNat_natCast] at h4
   symm
   simp only[beq_eq_false_iff_ne]
   intro e;exact h4 (by rw[e])
  ·simp only[Bool.not_eq_false',decide_eq_true_eq,Int.toNat_natCast] at h4
   refine⟨⟨i+1,fun _=>⟨h1,a6N 0 h3 h1 (by omega) h4⟩⟩,by simp only;omega,?_,trivial⟩
   rw[dY (by omega) (by omega)];rfl
 ·symm
  simp only[beq_iff_eq]
  have:i=x.length:=by omega
  rw[this,List.take_length,h,List.take_length] at h3
  exact h3
noncomputable def b7R:Lib:=LQ.add 24 (cIQ aZ (fun i=>(i:Rat))) (WU fun x w h=>JF x w h.1 h.2)
noncomputable def LS1:Lib:=b7R.add 121 cSL YT
theorem YU:dI Tryz.prog 82 cSL:=by
 refine fO LS1 [] Tryz.func82 rfl (by decide) (fun x=>[]) (fun x hp=>?_)
 refine iO (((zV (asT (List Rat) (Prod.fst x))/\zV (asT (List Rat) (Prod.fst (Prod.snd x)))/\List.length (asT (List Rat) (Prod.fst x))<=1000000000)/\True)/\True/\(asT (List Rat) (Prod.fst x)==asT (List Rat) (Prod.fst (Prod.snd x)))=(asT (List Rat) (Prod.fst x)==asT (List Rat) (Prod.fst (Prod.snd x)))/\True) (by kernel_rfl) ?_
 obtain⟨x,y,u⟩:=x
 change QL at x
 change QL at y
 exact⟨⟨hp,trivial⟩,trivial,rfl,trivial⟩
noncomputable def LS2:Lib:=LS1.add 82 cSL YU
abbrev e2 (m:QM) (i j:Nat):Rat:=(m.getD i []).getD j 0
theorem jU {α:Type} {p:α->Prop} {xs:List α} (h:∀ x ∈ xs,p x) {i:Nat} (hi:i<xs.length) {d:α}:p (xs.getD i d):=by
 rw[List.getD_eq_getElem?_getD,List.getElem?_eq_getElem hi]
 exact h _ (List.getElem_mem hi)
abbrev Le3:Type:={i:Nat // i<=3}
set_option maxHeartbeats 1000000
abbrev tZ:Ty:=.lf .big
theorem sD {F:Nat->Prop} {w:World} {v:Value} {x:Int} (h:jA F w tZ v x):bW w v x:=by
 obtain⟨cs,rfl,h2⟩:=h
 exact h2
theorem KT {F:Nat->Prop} {w:World} {v:Value} {x:Int} (h:bW w v x):jA F w tZ v x:=by
 obtain⟨b,p,c,rfl,_⟩:=a3V h
 exact⟨_,rfl,h⟩
def cZ2 (g:Int->Int->Int):Ctr:=⟨[tZ,tZ],[tZ],fun x=>isz x.1<=1000000000/\isz x.2.1<=1000000000,fun x=>(g x.1 x.2.1,())⟩
theorem WV {f:FuncId} {g:Int->Int->Int} (h:∀ (v u:Value) (x y:Int) (w:World),Raw w v x->Raw w u y->isz x<=1000000000->isz y<=1000000000->Calls Tryz.prog f #[v,u] w (kV (g x y) w)):dI Tryz.prog f (cZ2 g):=by
 intro F w vs x hF hvs hp
 obtain⟨v,vs',rfl,h1,u,vs'',rfl,h2,h3⟩:=hvs
 have h3:vs''=[]:=h3
 subst h3
 refine(h v u x.1 x.2.1 w (sD h1).raw (sD h2).raw hp.1 hp.2).mono ?_
 rintro e w' ⟨r,rfl,hr,hb⟩
 exact⟨r,rfl,KT hr,hb⟩
def cZ1 (g:Int->Int):Ctr:=⟨[tZ],[tZ],fun x=>isz x.1<=1000000000,fun x=>(g x.1,())⟩
theorem a7z {f:FuncId} {g:Int->Int} (h:∀ (v:Value) (x:Int) (w:World),Raw w v x->isz x<=1000000000->Calls Tryz.prog f #[v] w (kV (g x) w)):dI Tryz.prog f (cZ1 g):=by
 intro F w vs x hF hvs hp
 obtain⟨v,vs',rfl,h1,h3⟩:=hvs
 have h3:vs'=[]:=h3
 subst h3
 refine(h v x.1 w (sD h1).raw hp).mono ?_
 rintro e w' ⟨r,rfl,hr,hb⟩
 exact⟨r,rfl,KT hr,hb⟩
def cIZ:Ctr:=⟨[tI],[tZ],fun x=>aZ x.1,fun x=>(x.1,())⟩
theorem a7t {f:FuncId} (h:∀ (x:Int) (w:World),-9223372036854775808<=x->x<=9223372036854775807->Calls Tryz.prog f #[.int .i64 x] w (kV x w)):dI Tryz.prog f cIZ:=by
 intro F w vs x hF hvs hp
 obtain⟨v,vs',rfl,h1,h3⟩:=hvs
 have h3:vs'=[]:=h3
 subst h3
 rw[a0J h1]
 refine(h x.1 w hp.1 hp.2).mono ?_
 rintro e w' ⟨r,rfl,hr,hb⟩
 exact⟨r,rfl,KT hr,hb⟩
def cZI (g:Int->Int):Ctr:=⟨[tZ],[tI],fun x=>True,fun x=>(g x.1,())⟩
theorem b2k {f:FuncId} {g:Int->Int} (h:∀ (v:Value) (x:Int) (w:World),Raw w v x->Calls Tryz.prog f #[v] w (fun e w'=>e=.returned (.int .i64 (g x))/\Below w.heap.size w w')):dI Tryz.prog f (cZI g):=by
 intro F w vs x hF hvs hp
 obtain⟨v,vs',rfl,h1,h3⟩:=hvs
 have h3:vs'=[]:=h3
 subst h3
 refine(h v x.1 w (sD h1).raw).mono ?_
 rintro e w' ⟨rfl,hb⟩
 exact⟨_,rfl,tC _,hb⟩
def a7y:Ctr:=⟨[tZ],[tI,tB],fun x=>True,fun x=>(aG x.1,aO x.1,())⟩
theorem a5q {f:FuncId} (h:∀ (v:Value) (x:Int) (w:World),Raw w v x->Calls Tryz.prog f #[v] w (fun e w'=>e=.returned (.tuple #[.int .i64 (aG x),.bool (aO x)])/\Below w.heap.size w w')):dI Tryz.prog f a7y:=by
 intro F w vs x hF hvs hp
 obtain⟨v,vs',rfl,h1,h3⟩:=hvs
 have h3:vs'=[]:=h3
 subst h3
 refine(h v x.1 w (sD h1).raw).mono ?_
 rintro e w' ⟨rfl,hb⟩
 exact⟨_,rfl,⟨[_,_],rfl,_,_,rfl,tC _,_,_,rfl,SB _,rfl⟩,hb⟩
def cDiv:Ctr:=⟨[tZ,tZ],[tZ,tZ,tI],fun x=>isz x.1<=1000000000/\isz x.2.1<=1000000000/\(show Int from x.2.1)≠0,fun x=>(Int.fdiv x.1 x.2.1,Int.fmod x.1 x.2.1,(0:Int),())⟩
theorem a9Y {f:FuncId} (h:∀ (v u:Value) (x y:Int) (w:World),Raw w v x->Raw w u y->isz x<=1000000000->isz y<=1000000000->y≠0->Calls Tryz.prog f #[v,u] w (MW (x.fdiv y) (x.fmod y) w)):dI Tryz.prog f cDiv:=by
 intro F w vs x hF hvs hp
 obtain⟨v,vs',rfl,h1,u,vs'',rfl,h2,h3⟩:=hvs
 have h3:vs''=[]:=h3
 subst h3
 refine(h v u x.1 x.2.1 w (sD h1).raw (sD h2).raw hp.1 hp.2.1 hp.2.2).mono ?_
 rintro e w' ⟨v1,v2,rfl,h1,h2,hb⟩
 exact⟨_,rfl,⟨[_,_,_],rfl,_,_,rfl,KT h1,_,_,rfl,KT h2,_,_,rfl,tC _,rfl⟩,hb⟩
noncomputable def LZ:Lib:=(((((((LS2
 ).add 69 cIZ (a7t fun x w h0 h1=>DR x w h0 h1)
 ).add 133 (cZ2 fun x y=>((Int.gcd x y:Nat):Int)) (WV fun v u x y w h1 h2 l1 l2=>LY v u x y w h1 h2 l1 l2)
 ).add 71 (cZ2 fun x y=>x*y) (WV fun v u x y w h1 h2 l1 l2=>mul_any v u x y w h1 h2 l1 l2)
 ).add 134 (cZ1 fun x=>-x) (a7z fun v x w h1 l1=>uJ v x w h1 l1)
 ).add 117 (cZI Int.sign) (b2k fun v x w h1=>vP v x w h1)
 ).add 135 a7y (a5q fun v x w h1=>a6I v x w h1)
 ).add 110 cDiv (a9Y fun v u x y w h1 h2 l1 l2 hy=>oV v u x y w h1 h2 l1 l2 hy)
def xsL (l:List Int) (k:Nat):Int:=l.getD k 0
def b1B:Ctr:=⟨[.arr 4 tZ],[mP,tI],fun x=>(show List Int from x.1).length=4/\(∀ j,j<4->isz (xsL x.1 j)<=400000000)/\∃ j,j<4/\xsL x.1 j≠0,fun x=>aU (xsL x.1)⟩
abbrev Le4:Type:={i:Nat // i<=4}
theorem list4 {α:Type} {x:List α} (h:x.length=4):∃ a b c d,x=[a,b,c,d]:=by
 match x,h with
 | [a,b,c,d],_=>exact⟨a,b,c,d,rfl⟩
theorem bad_eq (q:Int):(bif (bif !aO q then true else decide (aG q < -1048576)) then true else decide (aG q > 1048576))=!decide (okc q):=by
 by_cases h:okc q
 ·have h':=h
  unfold okc at h'
  have e1:aO q=true:=by unfold aO;rw[decide_eq_true_eq];omega
  have e2:aG q=q:=by unfold aG;rw[if_pos (by omega)]
  have a1:decide (q < -1048576)=false:=decide_eq_false (by omega)
  have a2:decide (q > 1048576)=false:=decide_eq_false (by omega)
  rw[e1,e2,a1,a2,decide_eq_true h];rfl
 ·by_cases hs:aO q=true
  ·have hs':=hs
   unfold aO at hs'
   rw[decide_eq_true_eq] at hs'
   have e2:aG q=q:=by unfold aG;rw[if_pos hs']
   have h3:q < -1048576\/q > 1048576:=by unfold okc at h;omega
   rw[hs,e2,decide_eq_false h]
   rcases h3 with h3|h3
   ·rw[decide_eq_true h3];rfl
   ·rw[decide_eq_true h3];cases decide (q < -1048576)<;>rfl
  ·have hs:=Bool.not_eq_true _ |>.mp hs
   rw[hs,decide_eq_false h];rfl
theorem sQ {q:Int} (h:okc q):aG q=q:=by
 unfold okc at h
 unfold aG
 rw[if_pos (by omega)]
theorem TG:dI Tryz.prog 93 b1B:=by
 refine fO LZ [2,4,5,7,8,10,11,12] Tryz.func93 rfl (by decide) (fun x=>[.inv Le4 (fun k=>[(17,.val tI (k.1:Int))]) (fun k=>[(2,.box [⟨tI,(0:Int)⟩,⟨tI,(0:Int)⟩,⟨tI,(0:Int)⟩,⟨tI,(0:Int)⟩]),(4,.box [⟨tZ,aK (xsL x.1) k.1⟩]),(5,.box [⟨tZ,gX (xsL x.1) k.1⟩])]) (fun k=>4-k.1) ⟨0,by omega⟩ (fun _=>[]),.turns 5 [34] [2,4,5,8] []]) (fun x hp=>?_)
 obtain⟨x,u⟩:=x
 change List Int at x
 refine iO (let x0z:=(True/\(0,0,0,0,())=Prod.fst (aU (xsL x))/\True/\3=Prod.fst (Prod.snd (aU (xsL x)))/\True);let x1z:=(List.getD x 0 0);let x2z:=(List.getD x 1 0);let x3z:=(List.getD x 2 0);let x4z:=(List.getD x 3 0);(asT Int 0=0/\asT Int 0=0/\asT Int 0=0/\asT Int 0=0/\asT Int 0=0/\0=aK (xsL x) 0/\0=gX (xsL x) 0/\True)/\∀ (i:Le4),asT Bool true=true/\ifB (decide (aF (aA i)<4)) ((0<=aF (aA i)/\aF (aA i)<4/\True)/\((isz (aK (xsL x) (aA i))<=1000000000/\isz (List.getD x (Int.toNat (aF (aA i))) 0)<=1000000000)/\True)/\(True/\True)/\ifB (Int.sign (gX (xsL x) (aA i))==0) (∃ (i':Le4),4-aA i'<4-aA i/\IntKind.wrap IntKind.i64 (aF (aA i)+1)=aF (aA i')/\asT Int 0=0/\asT Int 0=0/\asT Int 0=0/\asT Int 0=0/\aF (Int.gcd (aK (xsL x) (aA i)) (List.getD x (Int.toNat (aF (aA i))) 0))=aK (xsL x) (aA i')/\List.getD x (Int.toNat (aF (aA i))) 0=gX (xsL x) (aA i')/\True) (∃ (i':Le4),4-aA i'<4-aA i/\IntKind.wrap IntKind.i64 (aF (aA i)+1)=aF (aA i')/\asT Int 0=0/\asT Int 0=0/\asT Int 0=0/\asT Int 0=0/\aF (Int.gcd (aK (xsL x) (aA i)) (List.getD x (Int.toNat (aF (aA i))) 0))=aK (xsL x) (aA i')/\gX (xsL x) (aA i)=gX (xsL x) (aA i')/\True)) ((True/\True)/\ifB (decide (Int.sign (gX (xsL x) (aA i))<0)) ((isz (aK (xsL x) (aA i))<=1000000000/\True)/\(asT Int 0<=0/\asT Int 0<4/\True)/\((isz x1z<=1000000000/\isz (-aK (xsL x) (aA i))<=1000000000/\-aK (xsL x) (aA i)≠0)/\True)/\(True/\True)/\((((!aO (Int.fdiv x1z (-aK (xsL x) (aA i))))==false)=true->((!aO (Int.fdiv x1z (-aK (xsL x) (aA i))))==false)=true/\True)/\((!aO (Int.fdiv x1z (-aK (xsL x) (aA i))))=false->((!aO (Int.fdiv x1z (-aK (xsL x) (aA i))))==false)=true)/\(((bif !aO (Int.fdiv x1z (-aK (xsL x) (aA i))) then true else decide (aG (Int.fdiv x1z (-aK (xsL x) (aA i))) < -1048576))==false)=true->((bif !aO (Int.fdiv x1z (-aK (xsL x) (aA i))) then true else decide (aG (Int.fdiv x1z (-aK (xsL x) (aA i))) < -1048576))==false)=true/\True)/\((bif !aO (Int.fdiv x1z (-aK (xsL x) (aA i))) then true else decide (aG (Int.fdiv x1z (-aK (xsL x) (aA i))) < -1048576))=false->((bif !aO (Int.fdiv x1z (-aK (xsL x) (aA i))) then true else decide (aG (Int.fdiv x1z (-aK (xsL x) (aA i))) < -1048576))==false)=true)/\True)/\ifB (bif bif !aO (Int.fdiv x1z (-aK (xsL x) (aA i))) then true else decide (aG (Int.fdiv x1z (-aK (xsL x) (aA i))) < -1048576) then true else decide (aG (Int.fdiv x1z (-aK (xsL x) (aA i))) > 1048576)) x0z ((asT Int 0=0/\asT Int 0=0/\asT Int 0=0/\asT Int 0=0/\-aK (xsL x) (aA i)=-aK (xsL x) (aA i)/\gX (xsL x) (aA i)=gX (xsL x) (aA i)/\aG (Int.fdiv x1z (-aK (xsL x) (aA i)))=aG (Int.fdiv x1z (-aK (xsL x) (aA i)))/\asT Int 0=0/\asT Int 0=0/\asT Int 0=0/\True)/\asT Bool true=true/\(asT Int 0<=1/\asT Int 1<4/\True)/\((isz x2z<=1000000000/\isz (-aK (xsL x) (aA i))<=1000000000/\-aK (xsL x) (aA i)≠0)/\True)/\(True/\True)/\((((!aO (Int.fdiv x2z (-aK (xsL x) (aA i))))==false)=true->((!aO (Int.fdiv x2z (-aK (xsL x) (aA i))))==false)=true/\True)/\((!aO (Int.fdiv x2z (-aK (xsL x) (aA i))))=false->((!aO (Int.fdiv x2z (-aK (xsL x) (aA i))))==false)=true)/\(((bif !aO (Int.fdiv x2z (-aK (xsL x) (aA i))) then true else decide (aG (Int.fdiv x2z (-aK (xsL x) (aA i))) < -1048576))==false)=true->((bif !aO (Int.fdiv x2z (-aK (xsL x) (aA i))) then true else decide (aG (Int.fdiv x2z (-aK (xsL x) (aA i))) < -1048576))==false)=true/\True)/\((bif !aO (Int.fdiv x2z (-aK (xsL x) (aA i))) then true else decide (aG (Int.fdiv x2z (-aK (xsL x) (aA i))) < -1048576))=false->((bif !aO (Int.fdiv x2z (-aK (xsL x) (aA i))) then true else decide (aG (Int.fdiv x2z (-aK (xsL x) (aA i))) < -1048576))==false)=true)/\True)/\ifB (bif bif !aO (Int.fdiv x2z (-aK (xsL x) (aA i))) then true else decide (aG (Int.fdiv x2z (-aK (xsL x) (aA i))) < -1048576) then true else decide (aG (Int.fdiv x2z (-aK (xsL x) (aA i))) > 1048576)) x0z ((asT Int 0=0/\asT Int 0=0/\asT Int 0=0/\asT Int 0=0/\-aK (xsL x) (aA i)=-aK (xsL x) (aA i)/\gX (xsL x) (aA i)=gX (xsL x) (aA i)/\aG (Int.fdiv x1z (-aK (xsL x) (aA i)))=aG (Int.fdiv x1z (-aK (xsL x) (aA i)))/\aG (Int.fdiv x2z (-aK (xsL x) (aA i)))=aG (Int.fdiv x2z (-aK (xsL x) (aA i)))/\asT Int 0=0/\asT Int 0=0/\True)/\asT Bool true=true/\(asT Int 0<=2/\asT Int 2<4/\True)/\((isz x3z<=1000000000/\isz (-aK (xsL x) (aA i))<=1000000000/\-aK (xsL x) (aA i)≠0)/\True)/\(True/\True)/\((((!aO (Int.fdiv x3z (-aK (xsL x) (aA i))))==false)=true->((!aO (Int.fdiv x3z (-aK (xsL x) (aA i))))==false)=true/\True)/\((!aO (Int.fdiv x3z (-aK (xsL x) (aA i))))=false->((!aO (Int.fdiv x3z (-aK (xsL x) (aA i))))==false)=true)/\(((bif !aO (Int.fdiv x3z (-aK (xsL x) (aA i))) then true else decide (aG (Int.fdiv x3z (-aK (xsL x) (aA i))) < -1048576))==false)=true->((bif !aO (Int.fdiv x3z (-aK (xsL x) (aA i))) then true else decide (aG (Int.fdiv x3z (-aK (xsL x) (aA i))) < -1048576))==false)=true/\True)/\((bif !aO (Int.fdiv x3z (-aK (xsL x) (aA i))) then true else decide (aG (Int.fdiv x3z (-aK (xsL x) (aA i))) < -1048576))=false->((bif !aO (Int.fdiv x3z (-aK (xsL x) (aA i))) then true else decide (aG (Int.fdiv x3z (-aK (xsL x) (aA i))) < -1048576))==false)=true)/\True)/\ifB (bif bif !aO (Int.fdiv x3z (-aK (xsL x) (aA i))) then true else decide (aG (Int.fdiv x3z (-aK (xsL x) (aA i))) < -1048576) then true else decide (aG (Int.fdiv x3z (-aK (xsL x) (aA i))) > 1048576)) x0z ((asT Int 0=0/\asT Int 0=0/\asT Int 0=0/\asT Int 0=0/\-aK (xsL x) (aA i)=-aK (xsL x) (aA i)/\gX (xsL x) (aA i)=gX (xsL x) (aA i)/\aG (Int.fdiv x1z (-aK (xsL x) (aA i)))=aG (Int.fdiv x1z (-aK (xsL x) (aA i)))/\aG (Int.fdiv x2z (-aK (xsL x) (aA i)))=aG (Int.fdiv x2z (-aK (xsL x) (aA i)))/\aG (Int.fdiv x3z (-aK (xsL x) (aA i)))=aG (Int.fdiv x3z (-aK (xsL x) (aA i)))/\asT Int 0=0/\True)/\asT Bool true=true/\(asT Int 0<=3/\asT Int 3<4/\True)/\((isz x4z<=1000000000/\isz (-aK (xsL x) (aA i))<=1000000000/\-aK (xsL x) (aA i)≠0)/\True)/\(True/\True)/\((((!aO (Int.fdiv x4z (-aK (xsL x) (aA i))))==false)=true->((!aO (Int.fdiv x4z (-aK (xsL x) (aA i))))==false)=true/\True)/\((!aO (Int.fdiv x4z (-aK (xsL x) (aA i))))=false->((!aO (Int.fdiv x4z (-aK (xsL x) (aA i))))==false)=true)/\(((bif !aO (Int.fdiv x4z (-aK (xsL x) (aA i))) then true else decide (aG (Int.fdiv x4z (-aK (xsL x) (aA i))) < -1048576))==false)=true->((bif !aO (Int.fdiv x4z (-aK (xsL x) (aA i))) then true else decide (aG (Int.fdiv x4z (-aK (xsL x) (aA i))) < -1048576))==false)=true/\True)/\((bif !aO (Int.fdiv x4z (-aK (xsL x) (aA i))) then true else decide (aG (Int.fdiv x4z (-aK (xsL x) (aA i))) < -1048576))=false->((bif !aO (Int.fdiv x4z (-aK (xsL x) (aA i))) then true else decide (aG (Int.fdiv x4z (-aK (xsL x) (aA i))) < -1048576))==false)=true)/\True)/\ifB (bif bif !aO (Int.fdiv x4z (-aK (xsL x) (aA i))) then true else decide (aG (Int.fdiv x4z (-aK (xsL x) (aA i))) < -1048576) then true else decide (aG (Int.fdiv x4z (-aK (xsL x) (aA i))) > 1048576)) x0z ((asT Int 0=0/\asT Int 0=0/\asT Int 0=0/\asT Int 0=0/\-aK (xsL x) (aA i)=-aK (xsL x) (aA i)/\gX (xsL x) (aA i)=gX (xsL x) (aA i)/\aG (Int.fdiv x1z (-aK (xsL x) (aA i)))=aG (Int.fdiv x1z (-aK (xsL x) (aA i)))/\aG (Int.fdiv x2z (-aK (xsL x) (aA i)))=aG (Int.fdiv x2z (-aK (xsL x) (aA i)))/\aG (Int.fdiv x3z (-aK (xsL x) (aA i)))=aG (Int.fdiv x3z (-aK (xsL x) (aA i)))/\aG (Int.fdiv x4z (-aK (xsL x) (aA i)))=aG (Int.fdiv x4z (-aK (xsL x) (aA i)))/\True)/\asT Bool true=true/\True/\(aG (Int.fdiv x1z (-aK (xsL x) (aA i))),aG (Int.fdiv x2z (-aK (xsL x) (aA i))),aG (Int.fdiv x3z (-aK (xsL x) (aA i))),aG (Int.fdiv x4z (-aK (xsL x) (aA i))),())=Prod.fst (aU (xsL x))/\True/\0=Prod.fst (Prod.snd (aU (xsL x)))/\True))))) ((asT Int 0<=0/\asT Int 0<4/\True)/\((isz x1z<=1000000000/\isz (aK (xsL x) (aA i))<=1000000000/\aK (xsL x) (aA i)≠0)/\True)/\(True/\True)/\((((!aO (Int.fdiv x1z (aK (xsL x) (aA i))))==false)=true->((!aO (Int.fdiv x1z (aK (xsL x) (aA i))))==false)=true/\True)/\((!aO (Int.fdiv x1z (aK (xsL x) (aA i))))=false->((!aO (Int.fdiv x1z (aK (xsL x) (aA i))))==false)=true)/\(((bif !aO (Int.fdiv x1z (aK (xsL x) (aA i))) then true else decide (aG (Int.fdiv x1z (aK (xsL x) (aA i))) < -1048576))==false)=true->((bif !aO (Int.fdiv x1z (aK (xsL x) (aA i))) then true else decide (aG (Int.fdiv x1z (aK (xsL x) (aA i))) < -1048576))==false)=true/\True)/\((bif !aO (Int.fdiv x1z (aK (xsL x) (aA i))) then true else decide (aG (Int.fdiv x1z (aK (xsL x) (aA i))) < -1048576))=false->((bif !aO (Int.fdiv x1z (aK (xsL x) (aA i))) then true else decide (aG (Int.fdiv x1z (aK (xsL x) (aA i))) < -1048576))==false)=true)/\True)/\ifB (bif bif !aO (Int.fdiv x1z (aK (xsL x) (aA i))) then true else decide (aG (Int.fdiv x1z (aK (xsL x) (aA i))) < -1048576) then true else decide (aG (Int.fdiv x1z (aK (xsL x) (aA i))) > 1048576)) x0z ((asT Int 0=0/\asT Int 0=0/\asT Int 0=0/\asT Int 0=0/\aK (xsL x) (aA i)=aK (xsL x) (aA i)/\gX (xsL x) (aA i)=gX (xsL x) (aA i)/\aG (Int.fdiv x1z (aK (xsL x) (aA i)))=aG (Int.fdiv x1z (aK (xsL x) (aA i)))/\asT Int 0=0/\asT Int 0=0/\asT Int 0=0/\True)/\asT Bool true=true/\(asT Int 0<=1/\asT Int 1<4/\True)/\((isz x2z<=1000000000/\isz (aK (xsL x) (aA i))<=1000000000/\aK (xsL x) (aA i)≠0)/\True)/\(True/\True)/\((((!aO (Int.fdiv x2z (aK (xsL x) (aA i))))==false)=true->((!aO (Int.fdiv x2z (aK (xsL x) (aA i))))==false)=true/\True)/\((!aO (Int.fdiv x2z (aK (xsL x) (aA i))))=false->((!aO (Int.fdiv x2z (aK (xsL x) (aA i))))==false)=true)/\(((bif !aO (Int.fdiv x2z (aK (xsL x) (aA i))) then true else decide (aG (Int.fdiv x2z (aK (xsL x) (aA i))) < -1048576))==false)=true->((bif !aO (Int.fdiv x2z (aK (xsL x) (aA i))) then true else decide (aG (Int.fdiv x2z (aK (xsL x) (aA i))) < -1048576))==false)=true/\True)/\((bif !aO (Int.fdiv x2z (aK (xsL x) (aA i))) then true else decide (aG (Int.fdiv x2z (aK (xsL x) (aA i))) < -1048576))=false->((bif !aO (Int.fdiv x2z (aK (xsL x) (aA i))) then true else decide (aG (Int.fdiv x2z (aK (xsL x) (aA i))) < -1048576))==false)=true)/\True)/\ifB (bif bif !aO (Int.fdiv x2z (aK (xsL x) (aA i))) then true else decide (aG (Int.fdiv x2z (aK (xsL x) (aA i))) < -1048576) then true else decide (aG (Int.fdiv x2z (aK (xsL x) (aA i))) > 1048576)) x0z ((asT Int 0=0/\asT Int 0=0/\asT Int 0=0/\asT Int 0=0/\aK (xsL x) (aA i)=aK (xsL x) (aA i)/\gX (xsL x) (aA i)=gX (xsL x) (aA i)/\aG (Int.fdiv x1z (aK (xsL x) (aA i)))=aG (Int.fdiv x1z (aK (xsL x) (aA i)))/\aG (Int.fdiv x2z (aK (xsL x) (aA i)))=aG (Int.fdiv x2z (aK (xsL x) (aA i)))/\asT Int 0=0/\asT Int 0=0/\True)/\asT Bool true=true/\(asT Int 0<=2/\asT Int 2<4/\True)/\((isz x3z<=1000000000/\isz (aK (xsL x) (aA i))<=1000000000/\aK (xsL x) (aA i)≠0)/\True)/\(True/\True)/\((((!aO (Int.fdiv x3z (aK (xsL x) (aA i))))==false)=true->((!aO (Int.fdiv x3z (aK (xsL x) (aA i))))==false)=true/\True)/\((!aO (Int.fdiv x3z (aK (xsL x) (aA i))))=false->((!aO (Int.fdiv x3z (aK (xsL x) (aA i))))==false)=true)/\(((bif !aO (Int.fdiv x3z (aK (xsL x) (aA i))) then true else decide (aG (Int.fdiv x3z (aK (xsL x) (aA i))) < -1048576))==false)=true->((bif !aO (Int.fdiv x3z (aK (xsL x) (aA i))) then true else decide (aG (Int.fdiv x3z (aK (xsL x) (aA i))) < -1048576))==false)=true/\True)/\((bif !aO (Int.fdiv x3z (aK (xsL x) (aA i))) then true else decide (aG (Int.fdiv x3z (aK (xsL x) (aA i))) < -1048576))=false->((bif !aO (Int.fdiv x3z (aK (xsL x) (aA i))) then true else decide (aG (Int.fdiv x3z (aK (xsL x) (aA i))) < -1048576))==false)=true)/\True)/\ifB (bif bif !aO (Int.fdiv x3z (aK (xsL x) (aA i))) then true else decide (aG (Int.fdiv x3z (aK (xsL x) (aA i))) < -1048576) then true else decide (aG (Int.fdiv x3z (aK (xsL x) (aA i))) > 1048576)) x0z ((asT Int 0=0/\asT Int 0=0/\asT Int 0=0/\asT Int 0=0/\aK (xsL x) (aA i)=aK (xsL x) (aA i)/\gX (xsL x) (aA i)=gX (xsL x) (aA i)/\aG (Int.fdiv x1z (aK (xsL x) (aA i)))=aG (Int.fdiv x1z (aK (xsL x) (aA i)))/\aG (Int.fdiv x2z (aK (xsL x) (aA i)))=aG (Int.fdiv x2z (aK (xsL x) (aA i)))/\aG (Int.fdiv x3z (aK (xsL x) (aA i)))=aG (Int.fdiv x3z (aK (xsL x) (aA i)))/\asT Int 0=0/\True)/\asT Bool true=true/\(asT Int 0<=3/\asT Int 3<4/\True)/\((isz x4z<=1000000000/\isz (aK (xsL x) (aA i))<=1000000000/\aK (xsL x) (aA i)≠0)/\True)/\(True/\True)/\((((!aO (Int.fdiv x4z (aK (xsL x) (aA i))))==false)=true->((!aO (Int.fdiv x4z (aK (xsL x) (aA i))))==false)=true/\True)/\((!aO (Int.fdiv x4z (aK (xsL x) (aA i))))=false->((!aO (Int.fdiv x4z (aK (xsL x) (aA i))))==false)=true)/\(((bif !aO (Int.fdiv x4z (aK (xsL x) (aA i))) then true else decide (aG (Int.fdiv x4z (aK (xsL x) (aA i))) < -1048576))==false)=true->((bif !aO (Int.fdiv x4z (aK (xsL x) (aA i))) then true else decide (aG (Int.fdiv x4z (aK (xsL x) (aA i))) < -1048576))==false)=true/\True)/\((bif !aO (Int.fdiv x4z (aK (xsL x) (aA i))) then true else decide (aG (Int.fdiv x4z (aK (xsL x) (aA i))) < -1048576))=false->((bif !aO (Int.fdiv x4z (aK (xsL x) (aA i))) then true else decide (aG (Int.fdiv x4z (aK (xsL x) (aA i))) < -1048576))==false)=true)/\True)/\ifB (bif bif !aO (Int.fdiv x4z (aK (xsL x) (aA i))) then true else decide (aG (Int.fdiv x4z (aK (xsL x) (aA i))) < -1048576) then true else decide (aG (Int.fdiv x4z (aK (xsL x) (aA i))) > 1048576)) x0z ((asT Int 0=0/\asT Int 0=0/\asT Int 0=0/\asT Int 0=0/\aK (xsL x) (aA i)=aK (xsL x) (aA i)/\gX (xsL x) (aA i)=gX (xsL x) (aA i)/\aG (Int.fdiv x1z (aK (xsL x) (aA i)))=aG (Int.fdiv x1z (aK (xsL x) (aA i)))/\aG (Int.fdiv x2z (aK (xsL x) (aA i)))=aG (Int.fdiv x2z (aK (xsL x) (aA i)))/\aG (Int.fdiv x3z (aK (xsL x) (aA i)))=aG (Int.fdiv x3z (aK (xsL x) (aA i)))/\aG (Int.fdiv x4z (aK (xsL x) (aA i)))=aG (Int.fdiv x4z (aK (xsL x) (aA i)))/\True)/\asT Bool true=true/\True/\(aG (Int.fdiv x1z (aK (xsL x) (aA i))),aG (Int.fdiv x2z (aK (xsL x) (aA i))),aG (Int.fdiv x3z (aK (xsL x) (aA i))),aG (Int.fdiv x4z (aK (xsL x) (aA i))),())=Prod.fst (aU (xsL x))/\True/\0=Prod.fst (Prod.snd (aU (xsL x)))/\True))))))) (by kernel_rfl) ?_
 obtain⟨hl,hb,hn⟩:=hp
 dsimp only[aF,aA,asT,aV,jG] at *
 simp only[bad_eq,gU,true_and,and_true,imp_self,Bool.not_eq_true',Bool.not_eq_false',decide_eq_true_eq,decide_eq_false_iff_not,Int.toNat_natCast,true_implies,implies_true,beq_iff_eq,bne_iff_ne,ne_eq,beq_eq_false_iff_ne,bne_eq_false_iff_eq]
 have hx:∀ j,x.getD j 0=xsL x j:=fun _=>rfl
 simp only[hx]
 generalize xsL x=X at *
 have gs:∀ k,k<=4->isz (aK X k)<=1000000000:=fun k hk=>Nat.le_trans (ER (K:=400000000) k (fun j hj=>hb j (by omega))) (by omega)
 have xs:∀ j,j<4->isz (X j)<=1000000000:=fun j hj=>Nat.le_trans (hb j hj) (by omega)
 refine⟨⟨rfl,rfl⟩,fun i=>⟨fun h1=>?_,fun h1=>?_⟩⟩
 ·have hi:=i.2
  refine⟨⟨by omega,by omega⟩,⟨gs _ hi,xs _ (by omega)⟩,fun h2=>⟨⟨i.1+1,by omega⟩,by simp only;omega,?_,rfl,?_⟩,fun h2=>⟨⟨i.1+1,by omega⟩,by simp only;omega,?_,rfl,?_⟩⟩
  ·rw[dY (by omega) (by omega)];rfl
  ·rw[Int.sign_eq_zero_iff_zero] at h2
   simp only[gX,if_pos h2]
  ·rw[dY (by omega) (by omega)];rfl
  ·rw[Int.sign_eq_zero_iff_zero] at h2
   simp only[gX,if_neg h2]
 ·have hi:=i.2
  have hi:i.1=4:=by omega
  rw[hi]
  have g0:iK X≠0:=by obtain⟨j,h1,h2⟩:=hn;exact QU h1 h2
  have tl:∀ G,iK X=G->isz G<=1000000000->(∀ j,j<4->¬ okc ((X j).fdiv G)->(0,0,0,0,())=(aU X).1/\3=(aU X).2.1)/\(okc ((X 0).fdiv G)->okc ((X 1).fdiv G)->okc ((X 2).fdiv G)->okc ((X 3).fdiv G)->(aG ((X 0).fdiv G),aG ((X 1).fdiv G),aG ((X 2).fdiv G),aG ((X 3).fdiv G),())=(aU X).1/\0=(aU X).2.1):=by
   rintro G rfl hG
   refine⟨fun j hj h=>?_,fun k0 k1 k2 k3=>?_⟩
   ·have:aU X=((0,0,0,0,()),3,()):=if_neg (fun e=>h (e j hj))
    rw[this];exact⟨rfl,rfl⟩
   ·have:aU X=((fA X 0,fA X 1,fA X 2,fA X 3,()),0,()):=if_pos (fun j hj=>by
     match j,hj with
     | 0,_=>exact k0
     | 1,_=>exact k1
     | 2,_=>exact k2
     | 3,_=>exact k3)
    rw[this,sQ k0,sQ k1,sQ k2,sQ k3];exact⟨rfl,rfl⟩
  have g4:=gs 4 (by omega)
  refine⟨fun h2=>?_,fun h2=>?_⟩
  ·rw[Int.sign_neg_iff] at h2
   have hG:iK X=-aK X 4:=if_pos h2
   have g5:isz (-aK X 4)<=1000000000:=by rw[mX];exact g4
   obtain⟨no,yes⟩:=tl _ hG g5
   rw[hG] at g0
   exact⟨g4,⟨by omega,by omega⟩,⟨xs 0 (by omega),g5,g0⟩,no 0 (by omega),fun k0=>⟨⟨by omega,by omega⟩,⟨xs 1 (by omega),g5,g0⟩,no 1 (by omega),fun k1=>⟨⟨by omega,by omega⟩,⟨xs 2 (by omega),g5,g0⟩,no 2 (by omega),fun k2=>⟨⟨by omega,by omega⟩,⟨xs 3 (by omega),g5,g0⟩,no 3 (by omega),fun k3=>yes k0 k1 k2 k3⟩⟩⟩⟩
  ·rw[Int.sign_neg_iff] at h2
   have hG:iK X=aK X 4:=if_neg h2
   obtain⟨no,yes⟩:=tl _ hG g4
   rw[hG] at g0
   exact⟨⟨by omega,by omega⟩,⟨xs 0 (by omega),g4,g0⟩,no 0 (by omega),fun k0=>⟨⟨by omega,by omega⟩,⟨xs 1 (by omega),g4,g0⟩,no 1 (by omega),fun k1=>⟨⟨by omega,by omega⟩,⟨xs 2 (by omega),g4,g0⟩,no 2 (by omega),fun k2=>⟨⟨by omega,by omega⟩,⟨xs 3 (by omega),g4,g0⟩,no 3 (by omega),fun k3=>yes k0 k1 k2 k3⟩⟩⟩⟩
noncomputable def LP:Lib:=LZ.add 93 b1B TG
def a7u:Ctr:=⟨[mP],[.arr 4 tI],fun x=>True,fun x=>([x.1.1,x.1.2.1,x.1.2.2.1,x.1.2.2.2.1],())⟩
theorem a6g:dI Tryz.prog 81 a7u:=by
 refine fO LP [2] Tryz.func81 rfl (by decide) (fun x=>[]) (fun x hp=>?_)
 obtain⟨⟨a,b,c,d,v⟩,u⟩:=x
 change Int at a;change Int at b;change Int at c;change Int at d
 refine iO (True/\a::b::c::d::aV Int=a::b::c::d::aV Int/\True) (by kernel_rfl) ?_
 exact⟨trivial,rfl,trivial⟩
noncomputable def LB1:Lib:=LP.add 81 a7u a6g
theorem a5v:dI Tryz.prog 28 (cHI (fun _ _ _ _=>True) dH):=by
 refine fO LB1 [] Tryz.func28 rfl (by decide) (fun x=>[.rounds 5 [10] []]) (fun x hp=>?_)
 obtain⟨⟨a,b,c,d,v⟩,u⟩:=x
 change Int at a;change Int at b;change Int at c;change Int at d
 refine iO (ifB (eqI a 0&&(eqI b 0&&(eqI c 0&&(eqI d 0&&true)))) (True/\1=dH a b c d/\True) ((True/\True)/\(asT Int 0<=0/\asT Int 0<4/\True)/\(((decide (a < -1048576)==false)=true->(decide (a < -1048576)==false)=true/\True)/\(decide (a < -1048576)=false->(decide (a < -1048576)==false)=true)/\True)/\ifB (bif decide (a < -1048576) then true else decide (a > 1048576)) (True/\3=dH a b c d/\True) ((asT Int 0<=1/\asT Int 1<4/\True)/\(((decide (b < -1048576)==false)=true->(decide (b < -1048576)==false)=true/\True)/\(decide (b < -1048576)=false->(decide (b < -1048576)==false)=true)/\True)/\ifB (bif decide (b < -1048576) then true else decide (b > 1048576)) (True/\3=dH a b c d/\True) ((asT Int 0<=2/\asT Int 2<4/\True)/\(((decide (c < -1048576)==false)=true->(decide (c < -1048576)==false)=true/\True)/\(decide (c < -1048576)=false->(decide (c < -1048576)==false)=true)/\True)/\ifB (bif decide (c < -1048576) then true else decide (c > 1048576)) (True/\3=dH a b c d/\True) ((asT Int 0<=3/\asT Int 3<4/\True)/\(((decide (d < -1048576)==false)=true->(decide (d < -1048576)==false)=true/\True)/\(decide (d < -1048576)=false->(decide (d < -1048576)==false)=true)/\True)/\ifB (bif decide (d < -1048576) then true else decide (d > 1048576)) (True/\3=dH a b c d/\True) (True/\0=dH a b c d/\True)))))) (by kernel_rfl) ?_
 have e:∀ q:Int,(bif decide (q < -1048576) then true else decide (q > 1048576))=!decide (okc q):=fun q=>by
  rw[Bool.eq_iff_iff]
  by_cases h:okc q
  ·have h':=h;unfold okc at h'
   rw[decide_eq_false (p:=q < -1048576) (by omega),decide_eq_false (p:=q > 1048576) (by omega),decide_eq_true h]
   exact Iff.rfl
  ·have h':q < -1048576\/q > 1048576:=by unfold okc at h;omega
   rw[decide_eq_false h]
   rcases h' with h' | h'
   ·rw[decide_eq_true h'];exact Iff.rfl
   ·rw[decide_eq_true h'];cases decide (q < -1048576)<;>exact Iff.rfl
 dsimp only[aF,asT,aV] at *
 simp only[e,List.getD_cons_zero,List.getD_cons_succ]
 simp only[eqI,gU,dH,Bool.and_eq_true,Bool.not_eq_true',decide_eq_false_iff_not,Bool.not_eq_false',decide_eq_true_eq,beq_iff_eq,and_true,true_and]
 refine⟨fun h=>(if_pos h).symm,fun h=>?_⟩
 have hz:¬ (a=0/\b=0/\c=0/\d=0):=by
  rintro⟨rfl,rfl,rfl,rfl⟩
  simp at h
 simp only[if_neg hz]
 exact⟨⟨by omega,by omega⟩,⟨id,id⟩,fun k=>(if_neg (fun e=>k e.1)).symm,fun ka=>⟨⟨by omega,by omega⟩,⟨id,id⟩,fun k=>(if_neg (fun e=>k e.2.1)).symm,fun kb=>⟨⟨by omega,by omega⟩,⟨id,id⟩,fun k=>(if_neg (fun e=>k e.2.2.1)).symm,fun kc=>⟨⟨by omega,by omega⟩,⟨id,id⟩,fun k=>(if_neg (fun e=>k e.2.2.2)).symm,fun kd=>(if_pos ⟨ka,kb,kc,kd⟩).symm⟩⟩⟩⟩
theorem a8Q:dI Tryz.prog 65 (cHI (fun a b c d=>okc a/\okc b/\okc c/\okc d) gW):=by
 refine fO LB1 [] Tryz.func65 rfl (by decide) (fun x=>[]) (fun x hp=>?_)
 obtain⟨⟨a,b,c,d,v⟩,u⟩:=x
 change Int at a;change Int at b;change Int at c;change Int at d
 refine iO (True/\IntKind.wrap IntKind.i64 (IntKind.wrap IntKind.i64 (IntKind.wrap IntKind.i64 (IntKind.wrap IntKind.i64 (a*a)+IntKind.wrap IntKind.i64 (b*b))+IntKind.wrap IntKind.i64 (c*c))+IntKind.wrap IntKind.i64 (d*d))=gW a b c d/\True) (by kernel_rfl) ?_
 obtain⟨ha,hb,hc,hd⟩:=hp
 obtain⟨p0,p1⟩:=bT ha ha
 obtain⟨p2,p3⟩:=bT hb hb
 obtain⟨p4,p5⟩:=bT hc hc
 obtain⟨p6,p7⟩:=bT hd hd
 refine⟨trivial,?_,trivial⟩
 dsimp only at p0 p1 p2 p3 p4 p5 p6 p7
 rw[dY (n:=a*a) (by omega) (by omega),dY (n:=b*b) (by omega) (by omega),dY (n:=c*c) (by omega) (by omega),dY (n:=d*d) (by omega) (by omega),dY (n:=a*a+b*b) (by omega) (by omega),dY (n:=a*a+b*b+c*c) (by omega) (by omega),dY (by omega) (by omega)]
 rfl
theorem kD {X Y:Nat->Int} (h:∀ k,k<4->X k=Y k):aU X=aU Y:=by
 have hg:aK X 4=aK Y 4:=by simp only[aK,h 0 (by omega),h 1 (by omega),h 2 (by omega),h 3 (by omega)]
 have hf:gX X 4=gX Y 4:=by simp only[gX,h 0 (by omega),h 1 (by omega),h 2 (by omega),h 3 (by omega)]
 have hG:iK X=iK Y:=by unfold iK;rw[hg,hf]
 have hn:∀ k,k<4->fA X k=fA Y k:=fun k hk=>by unfold fA;rw[h k hk,hG]
 have ho:wO X↔wO Y:=⟨fun e k hk=>hn k hk ▸ e k hk,fun e k hk=>(hn k hk).symm ▸ e k hk⟩
 unfold aU
 by_cases e:wO Y
 ·rw[if_pos e,if_pos (ho.2 e),hn 0 (by omega),hn 1 (by omega),hn 2 (by omega),hn 3 (by omega)]
 ·rw[if_neg e,if_neg (fun e'=>e (ho.1 e'))]
def b0b:Ctr:=⟨[tI,tI,tI,tI],[mP,tI],fun x=>(aZ x.1/\aZ x.2.1/\aZ x.2.2.1/\aZ x.2.2.2.1)/\¬ ((show Int from x.1)=0/\(show Int from x.2.1)=0/\(show Int from x.2.2.1)=0/\(show Int from x.2.2.2.1)=0),fun x=>aU (xs4 x.1 x.2.1 x.2.2.1 x.2.2.2.1)⟩
theorem a1l:dI Tryz.prog 67 b0b:=by
 refine fO LB1 [8] Tryz.func67 rfl (by decide) (fun x=>[]) (fun x hp=>?_)
 obtain⟨a,b,c,d,u⟩:=x
 change Int at a;change Int at b;change Int at c;change Int at d
 refine iO ((aZ a/\aZ b/\aZ c/\aZ d/\(List.length (a::b::c::d::aV Int)=4/\(∀ (j:Nat),j<4->isz (xsL (a::b::c::d::aV Int) j)<=400000000)/\∃ (j:Nat),j<4/\xsL (a::b::c::d::aV Int) j≠0)/\True)/\True/\(Prod.fst (Prod.fst (aU (xsL (a::b::c::d::aV Int)))),Prod.fst (Prod.snd (Prod.fst (aU (xsL (a::b::c::d::aV Int))))),Prod.fst (Prod.snd (Prod.snd (Prod.fst (aU (xsL (a::b::c::d::aV Int)))))),Prod.fst (Prod.snd (Prod.snd (Prod.snd (Prod.fst (aU (xsL (a::b::c::d::aV Int))))))),())=Prod.fst (aU (xs4 a b c d))/\True/\Prod.fst (Prod.snd (aU (xsL (a::b::c::d::aV Int))))=Prod.fst (Prod.snd (aU (xs4 a b c d)))/\True) (by kernel_rfl) ?_
 obtain⟨⟨ha,hb,hc,hd⟩,hn⟩:=hp
 dsimp only at ha hb hc hd hn
 dsimp only[aF,asT,aV] at *
 have hx:∀ k,k<4->xsL [a,b,c,d] k=xs4 a b c d k:=fun k hk=>by
  match k,hk with
  | 0,_=>rfl
  | 1,_=>rfl
  | 2,_=>rfl
  | 3,_=>rfl
 rw[kD hx]
 refine⟨⟨ha,hb,hc,hd,⟨rfl,fun j hj=>?_,?_⟩,trivial⟩,trivial,rfl,trivial,rfl,trivial⟩
 ·rw[hx j hj]
  match j,hj with
  | 0,_=>exact qI ha.1 ha.2
  | 1,_=>exact qI hb.1 hb.2
  | 2,_=>exact qI hc.1 hc.2
  | 3,_=>exact qI hd.1 hd.2
 ·by_cases h0:a=0
  ·by_cases h1:b=0
   ·by_cases h2:c=0
    ·exact⟨3,by omega,fun h3=>hn ⟨h0,h1,h2,h3⟩⟩
    ·exact⟨2,by omega,h2⟩
   ·exact⟨1,by omega,h1⟩
  ·exact⟨0,by omega,h0⟩
noncomputable def LB2:Lib:=(((LB1.add 28 (cHI (fun _ _ _ _=>True) dH) a5v).add 65 (cHI (fun a b c d=>okc a/\okc b/\okc c/\okc d) gW) a8Q).add 67 b0b a1l)
theorem jV {q:Int} (h:okc q):aZ q:=by
 unfold okc at h
 unfold aZ
 omega
theorem TU:dI Tryz.prog 18 (cHQ (fun _ _ _ _=>True) dZ):=by
 refine fO LB2 [2] Tryz.func18 rfl (by decide) (fun x=>[]) (fun x hp=>?_)
 obtain⟨⟨a,b,c,d,v⟩,u⟩:=x
 change Int at a;change Int at b;change Int at c;change Int at d
 refine iO ((True/\True)/\ifB (dH a b c d != 0) (True/\(0,0,0,0,())=Prod.fst (dZ a b c d)/\True/\dH a b c d=Prod.fst (Prod.snd (dZ a b c d))/\True) ((((aZ a/\aZ b/\aZ c/\aZ d)/\¬(a=0/\b=0/\c=0/\d=0))/\True)/\True/\(Prod.fst (Prod.fst (aU (xs4 a b c d))),Prod.fst (Prod.snd (Prod.fst (aU (xs4 a b c d)))),Prod.fst (Prod.snd (Prod.snd (Prod.fst (aU (xs4 a b c d))))),Prod.fst (Prod.snd (Prod.snd (Prod.snd (Prod.fst (aU (xs4 a b c d)))))),())=Prod.fst (dZ a b c d)/\True/\Prod.fst (Prod.snd (aU (xs4 a b c d)))=Prod.fst (Prod.snd (dZ a b c d))/\True)) (by kernel_rfl) ?_
 refine⟨⟨trivial,trivial⟩,gU.2 ⟨fun h=>?_,fun h=>?_⟩⟩
 ·have h:=bne_iff_ne.1 h
  have e:dZ a b c d=((0,0,0,0,()),dH a b c d,()):=if_neg h
  rw[e]
  exact⟨trivial,rfl,trivial,rfl,trivial⟩
 ·have h:dH a b c d=0:=by simpa using h
  obtain⟨hn,oa,ob,oc,od⟩:=nZ h
  have e:dZ a b c d=aU (xs4 a b c d):=if_pos h
  rw[e]
  exact⟨⟨⟨⟨jV oa,jV ob,jV oc,jV od⟩,hn⟩,trivial⟩,trivial,rfl,trivial,rfl,trivial⟩
theorem a7I:dI Tryz.prog 33 (cHQ (fun _ _ _ _=>True) JZ):=by
 refine fO LB2 [2] Tryz.func33 rfl (by decide) (fun x=>[]) (fun x hp=>?_)
 obtain⟨⟨a,b,c,d,v⟩,u⟩:=x
 change Int at a;change Int at b;change Int at c;change Int at d
 refine iO ((True/\True)/\ifB (dH a b c d != 0) (True/\(0,0,0,0,())=Prod.fst (JZ a b c d)/\True/\dH a b c d=Prod.fst (Prod.snd (JZ a b c d))/\True) ((((aZ a/\aZ (IntKind.wrap IntKind.i64 (0-b))/\aZ (IntKind.wrap IntKind.i64 (0-c))/\aZ (IntKind.wrap IntKind.i64 (0-d)))/\¬(a=0/\IntKind.wrap IntKind.i64 (0-b)=0/\IntKind.wrap IntKind.i64 (0-c)=0/\IntKind.wrap IntKind.i64 (0-d)=0))/\True)/\True/\(Prod.fst (Prod.fst (aU (xs4 a (IntKind.wrap IntKind.i64 (0-b)) (IntKind.wrap IntKind.i64 (0-c)) (IntKind.wrap IntKind.i64 (0-d))))),Prod.fst (Prod.snd (Prod.fst (aU (xs4 a (IntKind.wrap IntKind.i64 (0-b)) (IntKind.wrap IntKind.i64 (0-c)) (IntKind.wrap IntKind.i64 (0-d)))))),Prod.fst (Prod.snd (Prod.snd (Prod.fst (aU (xs4 a (IntKind.wrap IntKind.i64 (0-b)) (IntKind.wrap IntKind.i64 (0-c)) (IntKind.wrap IntKind.i64 (0-d))))))),Prod.fst (Prod.snd (Prod.snd (Prod.snd (Prod.fst (aU (xs4 a (IntKind.wrap IntKind.i64 (0-b)) (IntKind.wrap IntKind.i64 (0-c)) (IntKind.wrap IntKind.i64 (0-d)))))))),())=Prod.fst (JZ a b c d)/\True/\Prod.fst (Prod.snd (aU (xs4 a (IntKind.wrap IntKind.i64 (0-b)) (IntKind.wrap IntKind.i64 (0-c)) (IntKind.wrap IntKind.i64 (0-d)))))=Prod.fst (Prod.snd (JZ a b c d))/\True)) (by kernel_rfl) ?_
 refine⟨⟨trivial,trivial⟩,gU.2 ⟨fun h=>?_,fun h=>?_⟩⟩
 ·have h:=bne_iff_ne.1 h
  have e:JZ a b c d=((0,0,0,0,()),dH a b c d,()):=if_neg h
  rw[e]
  exact⟨trivial,rfl,trivial,rfl,trivial⟩
 ·have h:dH a b c d=0:=by simpa using h
  obtain⟨hn,oa,ob,oc,od⟩:=nZ h
  have eb:IntKind.wrap IntKind.i64 (0-b)=-b:=by unfold okc at ob;rw[dY (by omega) (by omega)];omega
  have nb:okc (-b):=by unfold okc at *;omega
  have ec:IntKind.wrap IntKind.i64 (0-c)=-c:=by unfold okc at oc;rw[dY (by omega) (by omega)];omega
  have nc:okc (-c):=by unfold okc at *;omega
  have ed:IntKind.wrap IntKind.i64 (0-d)=-d:=by unfold okc at od;rw[dY (by omega) (by omega)];omega
  have nd:okc (-d):=by unfold okc at *;omega
  rw[eb,ec,ed]
  have e:JZ a b c d=aU (xs4 a (-b) (-c) (-d)):=if_pos h
  rw[e]
  exact⟨⟨⟨⟨jV oa,jV nb,jV nc,jV nd⟩,fun h=>hn ⟨h.1,by omega,by omega,by omega⟩⟩,trivial⟩,trivial,rfl,trivial,rfl,trivial⟩
abbrev Q4:Type:=Int × Int × Int × Int × Unit
def qc (q:Q4):Int:=dH q.1 q.2.1 q.2.2.1 q.2.2.2.1
def oW (l:List Q4):Int:=match l with
 | []=>0
 | q::l=>if qc q=0 then oW l else qc q
def b2g:Ctr:=⟨[.list mP],[tI],fun x=>(show List Q4 from x.1).length<=1000000000,fun x=>(oW x.1,())⟩
abbrev b2a (l:List Q4):Type:={i:Nat // i<=l.length/\oW l=oW (l.drop i)}
theorem ZY:dI Tryz.prog 68 b2g:=by
 refine fO LB2 [4] Tryz.func68 rfl (by decide) (fun x=>[.inv (b2a x.1) (fun i=>[(8,.val tI (i.1:Int))]) (fun i=>[]) (fun i=>(show List Q4 from x.1).length-i.1) ⟨0,Nat.zero_le _,rfl⟩ (fun _=>[])]) (fun x hp=>?_)
 obtain⟨x,u⟩:=x
 change List Q4 at x
 refine iO ((asT Int 0=0/\True)/\∀ (i:b2a x),asT Bool true=true/\ifB (decide (aF (aA i)<aF (List.length x))) ((0<=aF (aA i)/\aF (aA i)<aF (List.length x)/\True)/\(True/\True)/\ifB (dH (Prod.fst (List.getD x (Int.toNat (aF (aA i))) (0,0,0,0,PUnit.unit))) (Prod.fst (Prod.snd (List.getD x (Int.toNat (aF (aA i))) (0,0,0,0,PUnit.unit)))) (Prod.fst (Prod.snd (Prod.snd (List.getD x (Int.toNat (aF (aA i))) (0,0,0,0,PUnit.unit))))) (Prod.fst (Prod.snd (Prod.snd (Prod.snd (List.getD x (Int.toNat (aF (aA i))) (0,0,0,0,PUnit.unit)))))) != 0) (True/\dH (Prod.fst (List.getD x (Int.toNat (aF (aA i))) (0,0,0,0,PUnit.unit))) (Prod.fst (Prod.snd (List.getD x (Int.toNat (aF (aA i))) (0,0,0,0,PUnit.unit)))) (Prod.fst (Prod.snd (Prod.snd (List.getD x (Int.toNat (aF (aA i))) (0,0,0,0,PUnit.unit))))) (Prod.fst (Prod.snd (Prod.snd (Prod.snd (List.getD x (Int.toNat (aF (aA i))) (0,0,0,0,PUnit.unit))))))=oW x/\True) (∃ (i':b2a x),List.length x-aA i'<List.length x-aA i/\IntKind.wrap IntKind.i64 (aF (aA i)+1)=aF (aA i')/\True)) (True/\0=oW x/\True)) (by kernel_rfl) ?_
 dsimp only[aF,aA,asT] at *
 have step:∀ i:Nat,i<x.length->oW (x.drop i)=if qc (x.getD i (0,0,0,0,()))=0 then oW (x.drop (i+1)) else qc (x.getD i (0,0,0,0,())):=fun i hi=>by
  rw[List.drop_eq_getElem_cons hi,List.getD_eq_getElem?_getD,List.getElem?_eq_getElem hi]
  rfl
 refine⟨⟨rfl,trivial⟩,fun i=>⟨rfl,gU.2 ⟨fun h1=>?_,fun h1=>⟨trivial,?_,trivial⟩⟩⟩⟩
 all_goals
  obtain⟨i,h2,h3⟩:=i
  dsimp only at h1 ⊢
  simp only[decide_eq_true_eq,decide_eq_false_iff_not,Int.ofNat_lt] at h1
 ·have st:=step i h1
  rw[Int.toNat_natCast]
  refine⟨⟨by omega,by omega,trivial⟩,⟨trivial,trivial⟩,gU.2 ⟨fun h4=>⟨trivial,?_,trivial⟩,fun h4=>⟨⟨i+1,h1,?_⟩,by simp only;omega,?_,trivial⟩⟩⟩
  ·have h4:=bne_iff_ne.1 h4
   rw[h3,st]
   exact(if_neg h4).symm
  ·have h4:=bne_eq_false_iff_eq.1 h4
   rw[h3,st]
   exact if_pos h4
  ·rw[dY (by omega) (by have:=hp;dsimp only[b2g] at this;omega)];rfl
 ·rw[h3,List.drop_eq_nil_of_le (by omega)];rfl
noncomputable def LC1:Lib:=((LB2.add 18 (cHQ (fun _ _ _ _=>True) dZ) TU).add 33 (cHQ (fun _ _ _ _=>True) JZ) a7I).add 68 b2g ZY
theorem a7Q (a b c d e f g h:Int) (v z:Unit):oW [(a,b,c,d,v),(e,f,g,h,z)]=nY a b c d e f g h:=by
 show (if dH a b c d=0 then (if dH e f g h=0 then 0 else dH e f g h) else dH a b c d)=if dH a b c d=0 then dH e f g h else dH a b c d
 by_cases h1:dH a b c d=0
 ·rw[if_pos h1,if_pos h1]
  by_cases h2:dH e f g h=0
  ·rw[if_pos h2,h2]
  ·rw[if_neg h2]
 ·rw[if_neg h1,if_neg h1]
theorem a1d:dI Tryz.prog 26 (b2h TF):=by
 refine fO LC1 [4] Tryz.func26 rfl (by decide) (fun x=>[]) (fun x hp=>?_)
 obtain⟨⟨a,b,c,d,v⟩,⟨e,f,g,h,z⟩,u⟩:=x
 change Int at a;change Int at b;change Int at c;change Int at d;change Int at e;change Int at f;change Int at g;change Int at h
 change Unit at v;change Unit at z
 refine iO (let x0z:=(aU (xs4 (IntKind.wrap IntKind.i64 (IntKind.wrap IntKind.i64 (IntKind.wrap IntKind.i64 (IntKind.wrap IntKind.i64 (a*e)-IntKind.wrap IntKind.i64 (b*f))-IntKind.wrap IntKind.i64 (c*g))-IntKind.wrap IntKind.i64 (d*h))) (IntKind.wrap IntKind.i64 (IntKind.wrap IntKind.i64 (IntKind.wrap IntKind.i64 (IntKind.wrap IntKind.i64 (a*f)+IntKind.wrap IntKind.i64 (b*e))+IntKind.wrap IntKind.i64 (c*h))-IntKind.wrap IntKind.i64 (d*g))) (IntKind.wrap IntKind.i64 (IntKind.wrap IntKind.i64 (IntKind.wrap IntKind.i64 (IntKind.wrap IntKind.i64 (a*g)-IntKind.wrap IntKind.i64 (b*h))+IntKind.wrap IntKind.i64 (c*e))+IntKind.wrap IntKind.i64 (d*f))) (IntKind.wrap IntKind.i64 (IntKind.wrap IntKind.i64 (IntKind.wrap IntKind.i64 (IntKind.wrap IntKind.i64 (a*h)+IntKind.wrap IntKind.i64 (b*g))-IntKind.wrap IntKind.i64 (c*f))+IntKind.wrap IntKind.i64 (d*e)))));(List.length ((a,b,c,d,v)::(e,f,g,h,z)::aV (Int × Int × Int × Int × PUnit))<=1000000000/\True)/\ifB (oW ((a,b,c,d,v)::(e,f,g,h,z)::aV (Int × Int × Int × Int × PUnit)) != 0) (True/\(0,0,0,0,())=Prod.fst (TF a b c d e f g h)/\True/\oW ((a,b,c,d,v)::(e,f,g,h,z)::aV (Int × Int × Int × Int × PUnit))=Prod.fst (Prod.snd (TF a b c d e f g h))/\True) ((((aZ (IntKind.wrap IntKind.i64 (IntKind.wrap IntKind.i64 (IntKind.wrap IntKind.i64 (IntKind.wrap IntKind.i64 (a*e)-IntKind.wrap IntKind.i64 (b*f))-IntKind.wrap IntKind.i64 (c*g))-IntKind.wrap IntKind.i64 (d*h)))/\aZ (IntKind.wrap IntKind.i64 (IntKind.wrap IntKind.i64 (IntKind.wrap IntKind.i64 (IntKind.wrap IntKind.i64 (a*f)+IntKind.wrap IntKind.i64 (b*e))+IntKind.wrap IntKind.i64 (c*h))-IntKind.wrap IntKind.i64 (d*g)))/\aZ (IntKind.wrap IntKind.i64 (IntKind.wrap IntKind.i64 (IntKind.wrap IntKind.i64 (IntKind.wrap IntKind.i64 (a*g)-IntKind.wrap IntKind.i64 (b*h))+IntKind.wrap IntKind.i64 (c*e))+IntKind.wrap IntKind.i64 (d*f)))/\aZ (IntKind.wrap IntKind.i64 (IntKind.wrap IntKind.i64 (IntKind.wrap IntKind.i64 (IntKind.wrap IntKind.i64 (a*h)+IntKind.wrap IntKind.i64 (b*g))-IntKind.wrap IntKind.i64 (c*f))+IntKind.wrap IntKind.i64 (d*e))))/\¬(IntKind.wrap IntKind.i64 (IntKind.wrap IntKind.i64 (IntKind.wrap IntKind.i64 (IntKind.wrap IntKind.i64 (a*e)-IntKind.wrap IntKind.i64 (b*f))-IntKind.wrap IntKind.i64 (c*g))-IntKind.wrap IntKind.i64 (d*h))=0/\IntKind.wrap IntKind.i64 (IntKind.wrap IntKind.i64 (IntKind.wrap IntKind.i64 (IntKind.wrap IntKind.i64 (a*f)+IntKind.wrap IntKind.i64 (b*e))+IntKind.wrap IntKind.i64 (c*h))-IntKind.wrap IntKind.i64 (d*g))=0/\IntKind.wrap IntKind.i64 (IntKind.wrap IntKind.i64 (IntKind.wrap IntKind.i64 (IntKind.wrap IntKind.i64 (a*g)-IntKind.wrap IntKind.i64 (b*h))+IntKind.wrap IntKind.i64 (c*e))+IntKind.wrap IntKind.i64 (d*f))=0/\IntKind.wrap IntKind.i64 (IntKind.wrap IntKind.i64 (IntKind.wrap IntKind.i64 (IntKind.wrap IntKind.i64 (a*h)+IntKind.wrap IntKind.i64 (b*g))-IntKind.wrap IntKind.i64 (c*f))+IntKind.wrap IntKind.i64 (d*e))=0))/\True)/\True/\(Prod.fst (Prod.fst x0z),Prod.fst (Prod.snd (Prod.fst x0z)),Prod.fst (Prod.snd (Prod.snd (Prod.fst x0z))),Prod.fst (Prod.snd (Prod.snd (Prod.snd (Prod.fst x0z)))),())=Prod.fst (TF a b c d e f g h)/\True/\Prod.fst (Prod.snd x0z)=Prod.fst (Prod.snd (TF a b c d e f g h))/\True)) (by kernel_rfl) ?_
 dsimp only[aV] at *
 have hf:=a7Q a b c d e f g h v z
 rw[hf]
 refine⟨⟨by show 2<=1000000000;omega,trivial⟩,gU.2 ⟨fun k=>?_,fun k=>?_⟩⟩
 ·have k:=bne_iff_ne.1 k
  have ee:TF a b c d e f g h=((0,0,0,0,()),nY a b c d e f g h,()):=if_neg k
  rw[ee]
  exact⟨trivial,rfl,trivial,rfl,trivial⟩
 ·have k:nY a b c d e f g h=0:=by simpa using k
  have k1:dH a b c d=0:=by
   by_cases h1:dH a b c d=0
   ·exact h1
   ·rw[nY,if_neg h1] at k;exact k
  have k2:dH e f g h=0:=by rwa [nY,if_pos k1] at k
  obtain⟨hn,oa,ob,oc,od⟩:=nZ k1
  obtain⟨hm,oe,of,og,oh⟩:=nZ k2
  obtain⟨b9g,b9h⟩:=bT oa oe
  obtain⟨b9V,b9W⟩:=bT oa of
  obtain⟨b9X,b9Y⟩:=bT oa og
  obtain⟨b9Z,c0c⟩:=bT oa oh
  obtain⟨c0d,c0e⟩:=bT ob oe
  obtain⟨b9i,b9j⟩:=bT ob of
  obtain⟨c0f,c0g⟩:=bT ob og
  obtain⟨c0h,c0i⟩:=bT ob oh
  obtain⟨c0j,c0k⟩:=bT oc oe
  obtain⟨c0l,c0n⟩:=bT oc of
  obtain⟨b9k,b9l⟩:=bT oc og
  obtain⟨c0o,c0p⟩:=bT oc oh
  obtain⟨c0q,c0r⟩:=bT od oe
  obtain⟨c0s,c0t⟩:=bT od of
  obtain⟨c0u,c0w⟩:=bT od og
  obtain⟨b9m,b9n⟩:=bT od oh
  have ee:TF a b c d e f g h=aU (b1T a b c d e f g h):=if_pos k
  rw[ee]
  simp(disch:=omega) only[dY]
  refine⟨⟨⟨⟨⟨by omega,by omega⟩,⟨by omega,by omega⟩,⟨by omega,by omega⟩,⟨by omega,by omega⟩⟩,b1b hn hm⟩,trivial⟩,trivial,rfl,trivial,rfl,trivial⟩
noncomputable def LC2:Lib:=LC1.add 26 (b2h TF) a1d
end Go.Proofs.YtidfgdchcpmnfaaGreat
