/-
  Lemmas for the theorem vcayley_holds, part 29 of 33.
-/
import Derived.Test.YtidfgdchcpmnfaaGreatCy07
import Derived.Test.YtidfgdchcpmnfaaGreatCy10
import Derived.Test.YtidfgdchcpmnfaaGreatCy21
import Derived.Test.YtidfgdchcpmnfaaGreatCy28
namespace Go.Proofs.YtidfgdchcpmnfaaGreat
open Go Go.RowKit
set_option maxRecDepth 100000
set_option maxHeartbeats 1000000
set_option linter.unusedVariables false
set_option linter.unusedSimpArgs false
abbrev tZ:Ty:=.lf .big
theorem rJ {F:Nat→Prop} {w:World} {v:Value} {x:Int} (h:iR F w tZ v x):bU w v x:=by
 obtain ⟨cs,rfl,h2⟩:=h
 exact h2
theorem JZ {F:Nat→Prop} {w:World} {v:Value} {x:Int} (h:bU w v x):iR F w tZ v x:=by
 obtain ⟨b,p,c,rfl,_⟩:=a3l h
 exact ⟨_,rfl,h⟩
def cZ2 (g:Int→Int→Int):Ctr:=⟨[tZ,tZ],[tZ],fun x=>isz x.1≤1000000000∧isz x.2.1≤1000000000,fun x=>(g x.1 x.2.1,())⟩
theorem VU {f:FuncId} {g:Int→Int→Int} (h:∀ (v u:Value) (x y:Int) (w:World),Raw w v x→Raw w u y→isz x≤1000000000→isz y≤1000000000→Calls Tryz.prog f #[v,u] w (kK (g x y) w)):dL Tryz.prog f (cZ2 g):=by
 intro F w vs x hF hvs hp
 obtain ⟨v,vs',rfl,h1,u,vs'',rfl,h2,h3⟩:=hvs
 have h3:vs''=[]:=h3
 subst h3
 refine (h v u x.1 x.2.1 w (rJ h1).raw (rJ h2).raw hp.1 hp.2).mono ?_
 rintro e w' ⟨r,rfl,hr,hb⟩
 exact ⟨r,rfl,JZ hr,hb⟩
def cZ1 (g:Int→Int):Ctr:=⟨[tZ],[tZ],fun x=>isz x.1≤1000000000,fun x=>(g x.1,())⟩
theorem a6K {f:FuncId} {g:Int→Int} (h:∀ (v:Value) (x:Int) (w:World),Raw w v x→isz x≤1000000000→Calls Tryz.prog f #[v] w (kK (g x) w)):dL Tryz.prog f (cZ1 g):=by
 intro F w vs x hF hvs hp
 obtain ⟨v,vs',rfl,h1,h3⟩:=hvs
 have h3:vs'=[]:=h3
 subst h3
 refine (h v x.1 w (rJ h1).raw hp).mono ?_
 rintro e w' ⟨r,rfl,hr,hb⟩
 exact ⟨r,rfl,JZ hr,hb⟩
def cIZ:Ctr:=⟨[tI],[tZ],fun x=>dN x.1,fun x=>(x.1,())⟩
theorem a6F {f:FuncId} (h:∀ (x:Int) (w:World),-9223372036854775808≤x→x≤9223372036854775807→Calls Tryz.prog f #[.int .i64 x] w (kK x w)):dL Tryz.prog f cIZ:=by
 intro F w vs x hF hvs hp
 obtain ⟨v,vs',rfl,h1,h3⟩:=hvs
 have h3:vs'=[]:=h3
 subst h3
 rw [a0f h1]
 refine (h x.1 w hp.1 hp.2).mono ?_
 rintro e w' ⟨r,rfl,hr,hb⟩
 exact ⟨r,rfl,JZ hr,hb⟩
def cZI (g:Int→Int):Ctr:=⟨[tZ],[tI],fun x=>True,fun x=>(g x.1,())⟩
theorem b1m {f:FuncId} {g:Int→Int} (h:∀ (v:Value) (x:Int) (w:World),Raw w v x→Calls Tryz.prog f #[v] w (fun e w'=>e=.returned (.int .i64 (g x))∧Below w.heap.size w w')):dL Tryz.prog f (cZI g):=by
 intro F w vs x hF hvs hp
 obtain ⟨v,vs',rfl,h1,h3⟩:=hvs
 have h3:vs'=[]:=h3
 subst h3
 refine (h v x.1 w (rJ h1).raw).mono ?_
 rintro e w' ⟨rfl,hb⟩
 exact ⟨_,rfl,tY _,hb⟩
def a6J:Ctr:=⟨[tZ],[tI,tB],fun x=>True,fun x=>(aG x.1,aJ x.1,())⟩
theorem a4G {f:FuncId} (h:∀ (v:Value) (x:Int) (w:World),Raw w v x→Calls Tryz.prog f #[v] w (fun e w'=>e=.returned (.tuple #[.int .i64 (aG x),.bool (aJ x)])∧Below w.heap.size w w')):dL Tryz.prog f a6J:=by
 intro F w vs x hF hvs hp
 obtain ⟨v,vs',rfl,h1,h3⟩:=hvs
 have h3:vs'=[]:=h3
 subst h3
 refine (h v x.1 w (rJ h1).raw).mono ?_
 rintro e w' ⟨rfl,hb⟩
 exact ⟨_,rfl,⟨[_,_],rfl,_,_,rfl,tY _,_,_,rfl,QT _,rfl⟩,hb⟩
def cDiv:Ctr:=⟨[tZ,tZ],[tZ,tZ,tI],fun x=>isz x.1≤1000000000∧isz x.2.1≤1000000000∧(show Int from x.2.1) ≠ 0,fun x=>(Int.fdiv x.1 x.2.1,Int.fmod x.1 x.2.1,(0:Int),())⟩
theorem a9e {f:FuncId} (h:∀ (v u:Value) (x y:Int) (w:World),Raw w v x→Raw w u y→isz x≤1000000000→isz y≤1000000000→y ≠ 0→Calls Tryz.prog f #[v,u] w (LV (x.fdiv y) (x.fmod y) w)):dL Tryz.prog f cDiv:=by
 intro F w vs x hF hvs hp
 obtain ⟨v,vs',rfl,h1,u,vs'',rfl,h2,h3⟩:=hvs
 have h3:vs''=[]:=h3
 subst h3
 refine (h v u x.1 x.2.1 w (rJ h1).raw (rJ h2).raw hp.1 hp.2.1 hp.2.2).mono ?_
 rintro e w' ⟨v1,v2,rfl,h1,h2,hb⟩
 exact ⟨_,rfl,⟨[_,_,_],rfl,_,_,rfl,JZ h1,_,_,rfl,JZ h2,_,_,rfl,tY _,rfl⟩,hb⟩
noncomputable def LZ:Lib:=(((((((LS2
 ).add 69 cIZ (a6F fun x w h0 h1=>CU x w h0 h1)
 ).add 133 (cZ2 fun x y=>((Int.gcd x y:Nat):Int)) (VU fun v u x y w h1 h2 l1 l2=>KU v u x y w h1 h2 l1 l2)
 ).add 71 (cZ2 fun x y=>x * y) (VU fun v u x y w h1 h2 l1 l2=>mul_any v u x y w h1 h2 l1 l2)
 ).add 134 (cZ1 fun x=>-x) (a6K fun v x w h1 l1=>tJ v x w h1 l1)
 ).add 117 (cZI Int.sign) (b1m fun v x w h1=>vH v x w h1)
 ).add 135 a6J (a4G fun v x w h1=>a5T v x w h1)
 ).add 110 cDiv (a9e fun v u x y w h1 h2 l1 l2 hy=>oI v u x y w h1 h2 l1 l2 hy)
def xsL (l:List Int) (k:Nat):Int:=l.getD k 0
def b0E:Ctr:=⟨[.arr 4 tZ],[nR,tI],fun x=>(show List Int from x.1).length=4∧(∀ j,j < 4→isz (xsL x.1 j)≤400000000)∧∃ j,j < 4∧xsL x.1 j ≠ 0,fun x=>aY (xsL x.1)⟩
abbrev Le4:Type:={i:Nat // i≤4}
theorem bad_eq (q:Int):(bif (bif !aJ q then true else decide (aG q < -1048576)) then true else decide (aG q > 1048576))=!decide (okc q):=by
 by_cases h:okc q
 ·have h':=h
  unfold okc at h'
  have e1:aJ q=true:=by unfold aJ;rw [decide_eq_true_eq];omega
  have e2:aG q=q:=by unfold aG;rw [if_pos (by omega)]
  have a1:decide (q < -1048576)=false:=decide_eq_false (by omega)
  have a2:decide (q > 1048576)=false:=decide_eq_false (by omega)
  rw [e1,e2,a1,a2,decide_eq_true h];rfl
 ·by_cases hs:aJ q=true
  ·have hs':=hs
   unfold aJ at hs'
   rw [decide_eq_true_eq] at hs'
   have e2:aG q=q:=by unfold aG;rw [if_pos hs']
   have h3:q < -1048576 ∨ q > 1048576:=by unfold okc at h;omega
   rw [hs,e2,decide_eq_false h]
   rcases h3 with h3 | h3
   ·rw [decide_eq_true h3];rfl
   ·rw [decide_eq_true h3];cases decide (q < -1048576) <;> rfl
  ·have hs:=Bool.not_eq_true _ |>.mp hs
   rw [hs,decide_eq_false h];rfl
theorem rX {q:Int} (h:okc q):aG q=q:=by
 unfold okc at h
 unfold aG
 rw [if_pos (by omega)]
theorem RX:dL Tryz.prog 93 b0E:=by
 refine gK LZ [2,4,5,7,8,10,11,12] Tryz.func93 rfl (by decide) (fun x=>[.inv Le4 (fun k=>[(17,.val tI (k.1:Int))]) (fun k=>[(2,.box [⟨tI,(0:Int)⟩,⟨tI,(0:Int)⟩,⟨tI,(0:Int)⟩,⟨tI,(0:Int)⟩]),(4,.box [⟨tZ,aK (xsL x.1) k.1⟩]),(5,.box [⟨tZ,kF (xsL x.1) k.1⟩])]) (fun k=>4 - k.1) ⟨0,by omega⟩ (fun _=>[]),.turns 5 [34] [2,4,5,8] []]) (fun x hp=>?_)
 obtain ⟨x,u⟩:=x
 change List Int at x
 refine jC (let x0z:=(True∧(0,0,0,0,())=Prod.fst (aY (xsL x))∧True∧3=Prod.fst (Prod.snd (aY (xsL x)))∧True);let x1z:=(List.getD x 0 0);let x2z:=(List.getD x 1 0);let x3z:=(List.getD x 2 0);let x4z:=(List.getD x 3 0);(asT Int 0=0∧asT Int 0=0∧asT Int 0=0∧asT Int 0=0∧asT Int 0=0∧0=aK (xsL x) 0∧0=kF (xsL x) 0∧True)∧∀ (i:Le4),asT Bool true=true∧ifB (decide (aF (aA i) < 4)) ((0≤aF (aA i)∧aF (aA i) < 4∧True)∧((isz (aK (xsL x) (aA i))≤1000000000∧isz (List.getD x (Int.toNat (aF (aA i))) 0)≤1000000000)∧True)∧(True∧True)∧ifB (Int.sign (kF (xsL x) (aA i)) == 0) (∃ (i':Le4),4 - aA i' < 4 - aA i∧IntKind.wrap IntKind.i64 (aF (aA i)+1)=aF (aA i')∧asT Int 0=0∧asT Int 0=0∧asT Int 0=0∧asT Int 0=0∧aF (Int.gcd (aK (xsL x) (aA i)) (List.getD x (Int.toNat (aF (aA i))) 0))=aK (xsL x) (aA i')∧List.getD x (Int.toNat (aF (aA i))) 0=kF (xsL x) (aA i')∧True) (∃ (i':Le4),4 - aA i' < 4 - aA i∧IntKind.wrap IntKind.i64 (aF (aA i)+1)=aF (aA i')∧asT Int 0=0∧asT Int 0=0∧asT Int 0=0∧asT Int 0=0∧aF (Int.gcd (aK (xsL x) (aA i)) (List.getD x (Int.toNat (aF (aA i))) 0))=aK (xsL x) (aA i')∧kF (xsL x) (aA i)=kF (xsL x) (aA i')∧True)) ((True∧True)∧ifB (decide (Int.sign (kF (xsL x) (aA i)) < 0)) ((isz (aK (xsL x) (aA i))≤1000000000∧True)∧(asT Int 0≤0∧asT Int 0 < 4∧True)∧((isz x1z≤1000000000∧isz (-aK (xsL x) (aA i))≤1000000000∧-aK (xsL x) (aA i) ≠ 0)∧True)∧(True∧True)∧((((!aJ (Int.fdiv x1z (-aK (xsL x) (aA i)))) == false)=true→((!aJ (Int.fdiv x1z (-aK (xsL x) (aA i)))) == false)=true∧True)∧((!aJ (Int.fdiv x1z (-aK (xsL x) (aA i))))=false→((!aJ (Int.fdiv x1z (-aK (xsL x) (aA i)))) == false)=true)∧(((bif !aJ (Int.fdiv x1z (-aK (xsL x) (aA i))) then true else decide (aG (Int.fdiv x1z (-aK (xsL x) (aA i))) < -1048576)) == false)=true→((bif !aJ (Int.fdiv x1z (-aK (xsL x) (aA i))) then true else decide (aG (Int.fdiv x1z (-aK (xsL x) (aA i))) < -1048576)) == false)=true∧True)∧((bif !aJ (Int.fdiv x1z (-aK (xsL x) (aA i))) then true else decide (aG (Int.fdiv x1z (-aK (xsL x) (aA i))) < -1048576))=false→((bif !aJ (Int.fdiv x1z (-aK (xsL x) (aA i))) then true else decide (aG (Int.fdiv x1z (-aK (xsL x) (aA i))) < -1048576)) == false)=true)∧True)∧ifB (bif bif !aJ (Int.fdiv x1z (-aK (xsL x) (aA i))) then true else decide (aG (Int.fdiv x1z (-aK (xsL x) (aA i))) < -1048576) then true else decide (aG (Int.fdiv x1z (-aK (xsL x) (aA i))) > 1048576)) x0z ((asT Int 0=0∧asT Int 0=0∧asT Int 0=0∧asT Int 0=0∧-aK (xsL x) (aA i)=-aK (xsL x) (aA i)∧kF (xsL x) (aA i)=kF (xsL x) (aA i)∧aG (Int.fdiv x1z (-aK (xsL x) (aA i)))=aG (Int.fdiv x1z (-aK (xsL x) (aA i)))∧asT Int 0=0∧asT Int 0=0∧asT Int 0=0∧True)∧asT Bool true=true∧(asT Int 0≤1∧asT Int 1 < 4∧True)∧((isz x2z≤1000000000∧isz (-aK (xsL x) (aA i))≤1000000000∧-aK (xsL x) (aA i) ≠ 0)∧True)∧(True∧True)∧((((!aJ (Int.fdiv x2z (-aK (xsL x) (aA i)))) == false)=true→((!aJ (Int.fdiv x2z (-aK (xsL x) (aA i)))) == false)=true∧True)∧((!aJ (Int.fdiv x2z (-aK (xsL x) (aA i))))=false→((!aJ (Int.fdiv x2z (-aK (xsL x) (aA i)))) == false)=true)∧(((bif !aJ (Int.fdiv x2z (-aK (xsL x) (aA i))) then true else decide (aG (Int.fdiv x2z (-aK (xsL x) (aA i))) < -1048576)) == false)=true→((bif !aJ (Int.fdiv x2z (-aK (xsL x) (aA i))) then true else decide (aG (Int.fdiv x2z (-aK (xsL x) (aA i))) < -1048576)) == false)=true∧True)∧((bif !aJ (Int.fdiv x2z (-aK (xsL x) (aA i))) then true else decide (aG (Int.fdiv x2z (-aK (xsL x) (aA i))) < -1048576))=false→((bif !aJ (Int.fdiv x2z (-aK (xsL x) (aA i))) then true else decide (aG (Int.fdiv x2z (-aK (xsL x) (aA i))) < -1048576)) == false)=true)∧True)∧ifB (bif bif !aJ (Int.fdiv x2z (-aK (xsL x) (aA i))) then true else decide (aG (Int.fdiv x2z (-aK (xsL x) (aA i))) < -1048576) then true else decide (aG (Int.fdiv x2z (-aK (xsL x) (aA i))) > 1048576)) x0z ((asT Int 0=0∧asT Int 0=0∧asT Int 0=0∧asT Int 0=0∧-aK (xsL x) (aA i)=-aK (xsL x) (aA i)∧kF (xsL x) (aA i)=kF (xsL x) (aA i)∧aG (Int.fdiv x1z (-aK (xsL x) (aA i)))=aG (Int.fdiv x1z (-aK (xsL x) (aA i)))∧aG (Int.fdiv x2z (-aK (xsL x) (aA i)))=aG (Int.fdiv x2z (-aK (xsL x) (aA i)))∧asT Int 0=0∧asT Int 0=0∧True)∧asT Bool true=true∧(asT Int 0≤2∧asT Int 2 < 4∧True)∧((isz x3z≤1000000000∧isz (-aK (xsL x) (aA i))≤1000000000∧-aK (xsL x) (aA i) ≠ 0)∧True)∧(True∧True)∧((((!aJ (Int.fdiv x3z (-aK (xsL x) (aA i)))) == false)=true→((!aJ (Int.fdiv x3z (-aK (xsL x) (aA i)))) == false)=true∧True)∧((!aJ (Int.fdiv x3z (-aK (xsL x) (aA i))))=false→((!aJ (Int.fdiv x3z (-aK (xsL x) (aA i)))) == false)=true)∧(((bif !aJ (Int.fdiv x3z (-aK (xsL x) (aA i))) then true else decide (aG (Int.fdiv x3z (-aK (xsL x) (aA i))) < -1048576)) == false)=true→((bif !aJ (Int.fdiv x3z (-aK (xsL x) (aA i))) then true else decide (aG (Int.fdiv x3z (-aK (xsL x) (aA i))) < -1048576)) == false)=true∧True)∧((bif !aJ (Int.fdiv x3z (-aK (xsL x) (aA i))) then true else decide (aG (Int.fdiv x3z (-aK (xsL x) (aA i))) < -1048576))=false→((bif !aJ (Int.fdiv x3z (-aK (xsL x) (aA i))) then true else decide (aG (Int.fdiv x3z (-aK (xsL x) (aA i))) < -1048576)) == false)=true)∧True)∧ifB (bif bif !aJ (Int.fdiv x3z (-aK (xsL x) (aA i))) then true else decide (aG (Int.fdiv x3z (-aK (xsL x) (aA i))) < -1048576) then true else decide (aG (Int.fdiv x3z (-aK (xsL x) (aA i))) > 1048576)) x0z ((asT Int 0=0∧asT Int 0=0∧asT Int 0=0∧asT Int 0=0∧-aK (xsL x) (aA i)=-aK (xsL x) (aA i)∧kF (xsL x) (aA i)=kF (xsL x) (aA i)∧aG (Int.fdiv x1z (-aK (xsL x) (aA i)))=aG (Int.fdiv x1z (-aK (xsL x) (aA i)))∧aG (Int.fdiv x2z (-aK (xsL x) (aA i)))=aG (Int.fdiv x2z (-aK (xsL x) (aA i)))∧aG (Int.fdiv x3z (-aK (xsL x) (aA i)))=aG (Int.fdiv x3z (-aK (xsL x) (aA i)))∧asT Int 0=0∧True)∧asT Bool true=true∧(asT Int 0≤3∧asT Int 3 < 4∧True)∧((isz x4z≤1000000000∧isz (-aK (xsL x) (aA i))≤1000000000∧-aK (xsL x) (aA i) ≠ 0)∧True)∧(True∧True)∧((((!aJ (Int.fdiv x4z (-aK (xsL x) (aA i)))) == false)=true→((!aJ (Int.fdiv x4z (-aK (xsL x) (aA i)))) == false)=true∧True)∧((!aJ (Int.fdiv x4z (-aK (xsL x) (aA i))))=false→((!aJ (Int.fdiv x4z (-aK (xsL x) (aA i)))) == false)=true)∧(((bif !aJ (Int.fdiv x4z (-aK (xsL x) (aA i))) then true else decide (aG (Int.fdiv x4z (-aK (xsL x) (aA i))) < -1048576)) == false)=true→((bif !aJ (Int.fdiv x4z (-aK (xsL x) (aA i))) then true else decide (aG (Int.fdiv x4z (-aK (xsL x) (aA i))) < -1048576)) == false)=true∧True)∧((bif !aJ (Int.fdiv x4z (-aK (xsL x) (aA i))) then true else decide (aG (Int.fdiv x4z (-aK (xsL x) (aA i))) < -1048576))=false→((bif !aJ (Int.fdiv x4z (-aK (xsL x) (aA i))) then true else decide (aG (Int.fdiv x4z (-aK (xsL x) (aA i))) < -1048576)) == false)=true)∧True)∧ifB (bif bif !aJ (Int.fdiv x4z (-aK (xsL x) (aA i))) then true else decide (aG (Int.fdiv x4z (-aK (xsL x) (aA i))) < -1048576) then true else decide (aG (Int.fdiv x4z (-aK (xsL x) (aA i))) > 1048576)) x0z ((asT Int 0=0∧asT Int 0=0∧asT Int 0=0∧asT Int 0=0∧-aK (xsL x) (aA i)=-aK (xsL x) (aA i)∧kF (xsL x) (aA i)=kF (xsL x) (aA i)∧aG (Int.fdiv x1z (-aK (xsL x) (aA i)))=aG (Int.fdiv x1z (-aK (xsL x) (aA i)))∧aG (Int.fdiv x2z (-aK (xsL x) (aA i)))=aG (Int.fdiv x2z (-aK (xsL x) (aA i)))∧aG (Int.fdiv x3z (-aK (xsL x) (aA i)))=aG (Int.fdiv x3z (-aK (xsL x) (aA i)))∧aG (Int.fdiv x4z (-aK (xsL x) (aA i)))=aG (Int.fdiv x4z (-aK (xsL x) (aA i)))∧True)∧asT Bool true=true∧True∧(aG (Int.fdiv x1z (-aK (xsL x) (aA i))),aG (Int.fdiv x2z (-aK (xsL x) (aA i))),aG (Int.fdiv x3z (-aK (xsL x) (aA i))),aG (Int.fdiv x4z (-aK (xsL x) (aA i))),())=Prod.fst (aY (xsL x))∧True∧0=Prod.fst (Prod.snd (aY (xsL x)))∧True))))) ((asT Int 0≤0∧asT Int 0 < 4∧True)∧((isz x1z≤1000000000∧isz (aK (xsL x) (aA i))≤1000000000∧aK (xsL x) (aA i) ≠ 0)∧True)∧(True∧True)∧((((!aJ (Int.fdiv x1z (aK (xsL x) (aA i)))) == false)=true→((!aJ (Int.fdiv x1z (aK (xsL x) (aA i)))) == false)=true∧True)∧((!aJ (Int.fdiv x1z (aK (xsL x) (aA i))))=false→((!aJ (Int.fdiv x1z (aK (xsL x) (aA i)))) == false)=true)∧(((bif !aJ (Int.fdiv x1z (aK (xsL x) (aA i))) then true else decide (aG (Int.fdiv x1z (aK (xsL x) (aA i))) < -1048576)) == false)=true→((bif !aJ (Int.fdiv x1z (aK (xsL x) (aA i))) then true else decide (aG (Int.fdiv x1z (aK (xsL x) (aA i))) < -1048576)) == false)=true∧True)∧((bif !aJ (Int.fdiv x1z (aK (xsL x) (aA i))) then true else decide (aG (Int.fdiv x1z (aK (xsL x) (aA i))) < -1048576))=false→((bif !aJ (Int.fdiv x1z (aK (xsL x) (aA i))) then true else decide (aG (Int.fdiv x1z (aK (xsL x) (aA i))) < -1048576)) == false)=true)∧True)∧ifB (bif bif !aJ (Int.fdiv x1z (aK (xsL x) (aA i))) then true else decide (aG (Int.fdiv x1z (aK (xsL x) (aA i))) < -1048576) then true else decide (aG (Int.fdiv x1z (aK (xsL x) (aA i))) > 1048576)) x0z ((asT Int 0=0∧asT Int 0=0∧asT Int 0=0∧asT Int 0=0∧aK (xsL x) (aA i)=aK (xsL x) (aA i)∧kF (xsL x) (aA i)=kF (xsL x) (aA i)∧aG (Int.fdiv x1z (aK (xsL x) (aA i)))=aG (Int.fdiv x1z (aK (xsL x) (aA i)))∧asT Int 0=0∧asT Int 0=0∧asT Int 0=0∧True)∧asT Bool true=true∧(asT Int 0≤1∧asT Int 1 < 4∧True)∧((isz x2z≤1000000000∧isz (aK (xsL x) (aA i))≤1000000000∧aK (xsL x) (aA i) ≠ 0)∧True)∧(True∧True)∧((((!aJ (Int.fdiv x2z (aK (xsL x) (aA i)))) == false)=true→((!aJ (Int.fdiv x2z (aK (xsL x) (aA i)))) == false)=true∧True)∧((!aJ (Int.fdiv x2z (aK (xsL x) (aA i))))=false→((!aJ (Int.fdiv x2z (aK (xsL x) (aA i)))) == false)=true)∧(((bif !aJ (Int.fdiv x2z (aK (xsL x) (aA i))) then true else decide (aG (Int.fdiv x2z (aK (xsL x) (aA i))) < -1048576)) == false)=true→((bif !aJ (Int.fdiv x2z (aK (xsL x) (aA i))) then true else decide (aG (Int.fdiv x2z (aK (xsL x) (aA i))) < -1048576)) == false)=true∧True)∧((bif !aJ (Int.fdiv x2z (aK (xsL x) (aA i))) then true else decide (aG (Int.fdiv x2z (aK (xsL x) (aA i))) < -1048576))=false→((bif !aJ (Int.fdiv x2z (aK (xsL x) (aA i))) then true else decide (aG (Int.fdiv x2z (aK (xsL x) (aA i))) < -1048576)) == false)=true)∧True)∧ifB (bif bif !aJ (Int.fdiv x2z (aK (xsL x) (aA i))) then true else decide (aG (Int.fdiv x2z (aK (xsL x) (aA i))) < -1048576) then true else decide (aG (Int.fdiv x2z (aK (xsL x) (aA i))) > 1048576)) x0z ((asT Int 0=0∧asT Int 0=0∧asT Int 0=0∧asT Int 0=0∧aK (xsL x) (aA i)=aK (xsL x) (aA i)∧kF (xsL x) (aA i)=kF (xsL x) (aA i)∧aG (Int.fdiv x1z (aK (xsL x) (aA i)))=aG (Int.fdiv x1z (aK (xsL x) (aA i)))∧aG (Int.fdiv x2z (aK (xsL x) (aA i)))=aG (Int.fdiv x2z (aK (xsL x) (aA i)))∧asT Int 0=0∧asT Int 0=0∧True)∧asT Bool true=true∧(asT Int 0≤2∧asT Int 2 < 4∧True)∧((isz x3z≤1000000000∧isz (aK (xsL x) (aA i))≤1000000000∧aK (xsL x) (aA i) ≠ 0)∧True)∧(True∧True)∧((((!aJ (Int.fdiv x3z (aK (xsL x) (aA i)))) == false)=true→((!aJ (Int.fdiv x3z (aK (xsL x) (aA i)))) == false)=true∧True)∧((!aJ (Int.fdiv x3z (aK (xsL x) (aA i))))=false→((!aJ (Int.fdiv x3z (aK (xsL x) (aA i)))) == false)=true)∧(((bif !aJ (Int.fdiv x3z (aK (xsL x) (aA i))) then true else decide (aG (Int.fdiv x3z (aK (xsL x) (aA i))) < -1048576)) == false)=true→((bif !aJ (Int.fdiv x3z (aK (xsL x) (aA i))) then true else decide (aG (Int.fdiv x3z (aK (xsL x) (aA i))) < -1048576)) == false)=true∧True)∧((bif !aJ (Int.fdiv x3z (aK (xsL x) (aA i))) then true else decide (aG (Int.fdiv x3z (aK (xsL x) (aA i))) < -1048576))=false→((bif !aJ (Int.fdiv x3z (aK (xsL x) (aA i))) then true else decide (aG (Int.fdiv x3z (aK (xsL x) (aA i))) < -1048576)) == false)=true)∧True)∧ifB (bif bif !aJ (Int.fdiv x3z (aK (xsL x) (aA i))) then true else decide (aG (Int.fdiv x3z (aK (xsL x) (aA i))) < -1048576) then true else decide (aG (Int.fdiv x3z (aK (xsL x) (aA i))) > 1048576)) x0z ((asT Int 0=0∧asT Int 0=0∧asT Int 0=0∧asT Int 0=0∧aK (xsL x) (aA i)=aK (xsL x) (aA i)∧kF (xsL x) (aA i)=kF (xsL x) (aA i)∧aG (Int.fdiv x1z (aK (xsL x) (aA i)))=aG (Int.fdiv x1z (aK (xsL x) (aA i)))∧aG (Int.fdiv x2z (aK (xsL x) (aA i)))=aG (Int.fdiv x2z (aK (xsL x) (aA i)))∧aG (Int.fdiv x3z (aK (xsL x) (aA i)))=aG (Int.fdiv x3z (aK (xsL x) (aA i)))∧asT Int 0=0∧True)∧asT Bool true=true∧(asT Int 0≤3∧asT Int 3 < 4∧True)∧((isz x4z≤1000000000∧isz (aK (xsL x) (aA i))≤1000000000∧aK (xsL x) (aA i) ≠ 0)∧True)∧(True∧True)∧((((!aJ (Int.fdiv x4z (aK (xsL x) (aA i)))) == false)=true→((!aJ (Int.fdiv x4z (aK (xsL x) (aA i)))) == false)=true∧True)∧((!aJ (Int.fdiv x4z (aK (xsL x) (aA i))))=false→((!aJ (Int.fdiv x4z (aK (xsL x) (aA i)))) == false)=true)∧(((bif !aJ (Int.fdiv x4z (aK (xsL x) (aA i))) then true else decide (aG (Int.fdiv x4z (aK (xsL x) (aA i))) < -1048576)) == false)=true→((bif !aJ (Int.fdiv x4z (aK (xsL x) (aA i))) then true else decide (aG (Int.fdiv x4z (aK (xsL x) (aA i))) < -1048576)) == false)=true∧True)∧((bif !aJ (Int.fdiv x4z (aK (xsL x) (aA i))) then true else decide (aG (Int.fdiv x4z (aK (xsL x) (aA i))) < -1048576))=false→((bif !aJ (Int.fdiv x4z (aK (xsL x) (aA i))) then true else decide (aG (Int.fdiv x4z (aK (xsL x) (aA i))) < -1048576)) == false)=true)∧True)∧ifB (bif bif !aJ (Int.fdiv x4z (aK (xsL x) (aA i))) then true else decide (aG (Int.fdiv x4z (aK (xsL x) (aA i))) < -1048576) then true else decide (aG (Int.fdiv x4z (aK (xsL x) (aA i))) > 1048576)) x0z ((asT Int 0=0∧asT Int 0=0∧asT Int 0=0∧asT Int 0=0∧aK (xsL x) (aA i)=aK (xsL x) (aA i)∧kF (xsL x) (aA i)=kF (xsL x) (aA i)∧aG (Int.fdiv x1z (aK (xsL x) (aA i)))=aG (Int.fdiv x1z (aK (xsL x) (aA i)))∧aG (Int.fdiv x2z (aK (xsL x) (aA i)))=aG (Int.fdiv x2z (aK (xsL x) (aA i)))∧aG (Int.fdiv x3z (aK (xsL x) (aA i)))=aG (Int.fdiv x3z (aK (xsL x) (aA i)))∧aG (Int.fdiv x4z (aK (xsL x) (aA i)))=aG (Int.fdiv x4z (aK (xsL x) (aA i)))∧True)∧asT Bool true=true∧True∧(aG (Int.fdiv x1z (aK (xsL x) (aA i))),aG (Int.fdiv x2z (aK (xsL x) (aA i))),aG (Int.fdiv x3z (aK (xsL x) (aA i))),aG (Int.fdiv x4z (aK (xsL x) (aA i))),())=Prod.fst (aY (xsL x))∧True∧0=Prod.fst (Prod.snd (aY (xsL x)))∧True))))))) (by kernel_rfl) ?_
 obtain ⟨hl,hb,hn⟩:=hp
 dsimp only [aF,aA,asT,aU,lM] at *
 simp only [bad_eq,iH,true_and,and_true,imp_self,Bool.not_eq_true',Bool.not_eq_false',decide_eq_true_eq,decide_eq_false_iff_not,Int.toNat_natCast,true_implies,implies_true,beq_iff_eq,bne_iff_ne,ne_eq,beq_eq_false_iff_ne,bne_eq_false_iff_eq]
 have hx:∀ j,x.getD j 0=xsL x j:=fun _=>rfl
 simp only [hx]
 generalize xsL x=X at *
 have gs:∀ k,k≤4→isz (aK X k)≤1000000000:=fun k hk=>Nat.le_trans (EC (K:=400000000) k (fun j hj=>hb j (by omega))) (by omega)
 have xs:∀ j,j < 4→isz (X j)≤1000000000:=fun j hj=>Nat.le_trans (hb j hj) (by omega)
 refine ⟨⟨rfl,rfl⟩,fun i=>⟨fun h1=>?_,fun h1=>?_⟩⟩
 ·have hi:=i.2
  refine ⟨⟨by omega,by omega⟩,⟨gs _ hi,xs _ (by omega)⟩,fun h2=>⟨⟨i.1+1,by omega⟩,by simp only;omega,?_,rfl,?_⟩,fun h2=>⟨⟨i.1+1,by omega⟩,by simp only;omega,?_,rfl,?_⟩⟩
  ·rw [fM (by omega) (by omega)];rfl
  ·rw [Int.sign_eq_zero_iff_zero] at h2
   simp only [kF,if_pos h2]
  ·rw [fM (by omega) (by omega)];rfl
  ·rw [Int.sign_eq_zero_iff_zero] at h2
   simp only [kF,if_neg h2]
 ·have hi:=i.2
  have hi:i.1=4:=by omega
  rw [hi]
  have g0:kC X ≠ 0:=by obtain ⟨j,h1,h2⟩:=hn;exact a0x h1 h2
  have tl:∀ G,kC X=G→isz G≤1000000000→(∀ j,j < 4→¬ okc ((X j).fdiv G)→(0,0,0,0,())=(aY X).1∧3=(aY X).2.1)∧(okc ((X 0).fdiv G)→okc ((X 1).fdiv G)→okc ((X 2).fdiv G)→okc ((X 3).fdiv G)→(aG ((X 0).fdiv G),aG ((X 1).fdiv G),aG ((X 2).fdiv G),aG ((X 3).fdiv G),())=(aY X).1∧0=(aY X).2.1):=by
   rintro G rfl hG
   refine ⟨fun j hj h=>?_,fun k0 k1 k2 k3=>?_⟩
   ·have:aY X=((0,0,0,0,()),3,()):=if_neg (fun e=>h (e j hj))
    rw [this];exact ⟨rfl,rfl⟩
   ·have:aY X=((dX X 0,dX X 1,dX X 2,dX X 3,()),0,()):=if_pos (fun j hj=>by
     match j,hj with
     | 0,_=>exact k0
     | 1,_=>exact k1
     | 2,_=>exact k2
     | 3,_=>exact k3)
    rw [this,rX k0,rX k1,rX k2,rX k3];exact ⟨rfl,rfl⟩
  have g4:=gs 4 (by omega)
  refine ⟨fun h2=>?_,fun h2=>?_⟩
  ·rw [Int.sign_neg_iff] at h2
   have hG:kC X=-aK X 4:=if_pos h2
   have g5:isz (-aK X 4)≤1000000000:=by rw [lZ];exact g4
   obtain ⟨no,yes⟩:=tl _ hG g5
   rw [hG] at g0
   exact ⟨g4,⟨by omega,by omega⟩,⟨xs 0 (by omega),g5,g0⟩,no 0 (by omega),fun k0=>⟨⟨by omega,by omega⟩,⟨xs 1 (by omega),g5,g0⟩,no 1 (by omega),fun k1=>⟨⟨by omega,by omega⟩,⟨xs 2 (by omega),g5,g0⟩,no 2 (by omega),fun k2=>⟨⟨by omega,by omega⟩,⟨xs 3 (by omega),g5,g0⟩,no 3 (by omega),fun k3=>yes k0 k1 k2 k3⟩⟩⟩⟩
  ·rw [Int.sign_neg_iff] at h2
   have hG:kC X=aK X 4:=if_neg h2
   obtain ⟨no,yes⟩:=tl _ hG g4
   rw [hG] at g0
   exact ⟨⟨by omega,by omega⟩,⟨xs 0 (by omega),g4,g0⟩,no 0 (by omega),fun k0=>⟨⟨by omega,by omega⟩,⟨xs 1 (by omega),g4,g0⟩,no 1 (by omega),fun k1=>⟨⟨by omega,by omega⟩,⟨xs 2 (by omega),g4,g0⟩,no 2 (by omega),fun k2=>⟨⟨by omega,by omega⟩,⟨xs 3 (by omega),g4,g0⟩,no 3 (by omega),fun k3=>yes k0 k1 k2 k3⟩⟩⟩⟩
noncomputable def LP:Lib:=LZ.add 93 b0E RX
end Go.Proofs.YtidfgdchcpmnfaaGreat
namespace Go.Proofs.YtidfgdchcpmnfaaGreat
open Go Go.RowKit
set_option maxRecDepth 100000
set_option maxHeartbeats 1000000
set_option linter.unusedVariables false
set_option linter.unusedSimpArgs false
def a6G:Ctr:=⟨[nR],[.arr 4 tI],fun x=>True,fun x=>([x.1.1,x.1.2.1,x.1.2.2.1,x.1.2.2.2.1],())⟩
theorem a5w:dL Tryz.prog 81 a6G:=by
 refine gK LP [2] Tryz.func81 rfl (by decide) (fun x=>[]) (fun x hp=>?_)
 obtain ⟨⟨a,b,c,d,v⟩,u⟩:=x
 change Int at a;change Int at b;change Int at c;change Int at d
 refine jC (True∧a :: b :: c :: d :: aU Int=a :: b :: c :: d :: aU Int∧True) (by kernel_rfl) ?_
 exact ⟨trivial,rfl,trivial⟩
noncomputable def LB1:Lib:=LP.add 81 a6G a5w
theorem a4L:dL Tryz.prog 28 (cHI (fun _ _ _ _=>True) dK):=by
 refine gK LB1 [] Tryz.func28 rfl (by decide) (fun x=>[.rounds 5 [10] []]) (fun x hp=>?_)
 obtain ⟨⟨a,b,c,d,v⟩,u⟩:=x
 change Int at a;change Int at b;change Int at c;change Int at d
 refine jC (ifB (eqI a 0 && (eqI b 0 && (eqI c 0 && (eqI d 0 && true)))) (True∧1=dK a b c d∧True) ((True∧True)∧(asT Int 0≤0∧asT Int 0 < 4∧True)∧(((decide (a < -1048576) == false)=true→(decide (a < -1048576) == false)=true∧True)∧(decide (a < -1048576)=false→(decide (a < -1048576) == false)=true)∧True)∧ifB (bif decide (a < -1048576) then true else decide (a > 1048576)) (True∧3=dK a b c d∧True) ((asT Int 0≤1∧asT Int 1 < 4∧True)∧(((decide (b < -1048576) == false)=true→(decide (b < -1048576) == false)=true∧True)∧(decide (b < -1048576)=false→(decide (b < -1048576) == false)=true)∧True)∧ifB (bif decide (b < -1048576) then true else decide (b > 1048576)) (True∧3=dK a b c d∧True) ((asT Int 0≤2∧asT Int 2 < 4∧True)∧(((decide (c < -1048576) == false)=true→(decide (c < -1048576) == false)=true∧True)∧(decide (c < -1048576)=false→(decide (c < -1048576) == false)=true)∧True)∧ifB (bif decide (c < -1048576) then true else decide (c > 1048576)) (True∧3=dK a b c d∧True) ((asT Int 0≤3∧asT Int 3 < 4∧True)∧(((decide (d < -1048576) == false)=true→(decide (d < -1048576) == false)=true∧True)∧(decide (d < -1048576)=false→(decide (d < -1048576) == false)=true)∧True)∧ifB (bif decide (d < -1048576) then true else decide (d > 1048576)) (True∧3=dK a b c d∧True) (True∧0=dK a b c d∧True)))))) (by kernel_rfl) ?_
 have e:∀ q:Int,(bif decide (q < -1048576) then true else decide (q > 1048576))=!decide (okc q):=fun q=>by
  rw [Bool.eq_iff_iff]
  by_cases h:okc q
  ·have h':=h;unfold okc at h'
   rw [decide_eq_false (p:=q < -1048576) (by omega),decide_eq_false (p:=q > 1048576) (by omega),decide_eq_true h]
   exact Iff.rfl
  ·have h':q < -1048576 ∨ q > 1048576:=by unfold okc at h;omega
   rw [decide_eq_false h]
   rcases h' with h' | h'
   ·rw [decide_eq_true h'];exact Iff.rfl
   ·rw [decide_eq_true h'];cases decide (q < -1048576) <;> exact Iff.rfl
 dsimp only [aF,asT,aU] at *
 simp only [e,List.getD_cons_zero,List.getD_cons_succ]
 simp only [eqI,iH,dK,Bool.and_eq_true,Bool.not_eq_true',decide_eq_false_iff_not,Bool.not_eq_false',decide_eq_true_eq,beq_iff_eq,and_true,true_and]
 refine ⟨fun h=>(if_pos h).symm,fun h=>?_⟩
 have hz:¬ (a=0∧b=0∧c=0∧d=0):=by
  rintro ⟨rfl,rfl,rfl,rfl⟩
  simp at h
 simp only [if_neg hz]
 exact ⟨⟨by omega,by omega⟩,⟨id,id⟩,fun k=>(if_neg (fun e=>k e.1)).symm,fun ka=>⟨⟨by omega,by omega⟩,⟨id,id⟩,fun k=>(if_neg (fun e=>k e.2.1)).symm,fun kb=>⟨⟨by omega,by omega⟩,⟨id,id⟩,fun k=>(if_neg (fun e=>k e.2.2.1)).symm,fun kc=>⟨⟨by omega,by omega⟩,⟨id,id⟩,fun k=>(if_neg (fun e=>k e.2.2.2)).symm,fun kd=>(if_pos ⟨ka,kb,kc,kd⟩).symm⟩⟩⟩⟩
theorem a7Z:dL Tryz.prog 65 (cHI (fun a b c d=>okc a∧okc b∧okc c∧okc d) fK):=by
 refine gK LB1 [] Tryz.func65 rfl (by decide) (fun x=>[]) (fun x hp=>?_)
 obtain ⟨⟨a,b,c,d,v⟩,u⟩:=x
 change Int at a;change Int at b;change Int at c;change Int at d
 refine jC (True∧IntKind.wrap IntKind.i64 (IntKind.wrap IntKind.i64 (IntKind.wrap IntKind.i64 (IntKind.wrap IntKind.i64 (a * a)+IntKind.wrap IntKind.i64 (b * b))+IntKind.wrap IntKind.i64 (c * c))+IntKind.wrap IntKind.i64 (d * d))=fK a b c d∧True) (by kernel_rfl) ?_
 obtain ⟨ha,hb,hc,hd⟩:=hp
 obtain ⟨p0,p1⟩:=bP ha ha
 obtain ⟨p2,p3⟩:=bP hb hb
 obtain ⟨p4,p5⟩:=bP hc hc
 obtain ⟨p6,p7⟩:=bP hd hd
 refine ⟨trivial,?_,trivial⟩
 dsimp only at p0 p1 p2 p3 p4 p5 p6 p7
 rw [fM (n:=a * a) (by omega) (by omega),fM (n:=b * b) (by omega) (by omega),fM (n:=c * c) (by omega) (by omega),fM (n:=d * d) (by omega) (by omega),fM (n:=a * a+b * b) (by omega) (by omega),fM (n:=a * a+b * b+c * c) (by omega) (by omega),fM (by omega) (by omega)]
 rfl
theorem tV {X Y:Nat→Int} (h:∀ k,k < 4→X k=Y k):aY X=aY Y:=by
 have hg:aK X 4=aK Y 4:=by simp only [aK,h 0 (by omega),h 1 (by omega),h 2 (by omega),h 3 (by omega)]
 have hf:kF X 4=kF Y 4:=by simp only [kF,h 0 (by omega),h 1 (by omega),h 2 (by omega),h 3 (by omega)]
 have hG:kC X=kC Y:=by unfold kC;rw [hg,hf]
 have hn:∀ k,k < 4→dX X k=dX Y k:=fun k hk=>by unfold dX;rw [h k hk,hG]
 have ho:IL X ↔ IL Y:=⟨fun e k hk=>hn k hk ▸ e k hk,fun e k hk=>(hn k hk).symm ▸ e k hk⟩
 unfold aY
 by_cases e:IL Y
 ·rw [if_pos e,if_pos (ho.2 e),hn 0 (by omega),hn 1 (by omega),hn 2 (by omega),hn 3 (by omega)]
 ·rw [if_neg e,if_neg (fun e'=>e (ho.1 e'))]
def b5F:Ctr:=⟨[tI,tI,tI,tI],[nR,tI],fun x=>(dN x.1∧dN x.2.1∧dN x.2.2.1∧dN x.2.2.2.1)∧¬ ((show Int from x.1)=0∧(show Int from x.2.1)=0∧(show Int from x.2.2.1)=0∧(show Int from x.2.2.2.1)=0),fun x=>aY (xs4 x.1 x.2.1 x.2.2.1 x.2.2.2.1)⟩
theorem a0G:dL Tryz.prog 67 b5F:=by
 refine gK LB1 [8] Tryz.func67 rfl (by decide) (fun x=>[]) (fun x hp=>?_)
 obtain ⟨a,b,c,d,u⟩:=x
 change Int at a;change Int at b;change Int at c;change Int at d
 refine jC ((dN a∧dN b∧dN c∧dN d∧(List.length (a :: b :: c :: d :: aU Int)=4∧(∀ (j:Nat),j < 4→isz (xsL (a :: b :: c :: d :: aU Int) j)≤400000000)∧∃ (j:Nat),j < 4∧xsL (a :: b :: c :: d :: aU Int) j ≠ 0)∧True)∧True∧(Prod.fst (Prod.fst (aY (xsL (a :: b :: c :: d :: aU Int)))),Prod.fst (Prod.snd (Prod.fst (aY (xsL (a :: b :: c :: d :: aU Int))))),Prod.fst (Prod.snd (Prod.snd (Prod.fst (aY (xsL (a :: b :: c :: d :: aU Int)))))),Prod.fst (Prod.snd (Prod.snd (Prod.snd (Prod.fst (aY (xsL (a :: b :: c :: d :: aU Int))))))),())=Prod.fst (aY (xs4 a b c d))∧True∧Prod.fst (Prod.snd (aY (xsL (a :: b :: c :: d :: aU Int))))=Prod.fst (Prod.snd (aY (xs4 a b c d)))∧True) (by kernel_rfl) ?_
 obtain ⟨⟨ha,hb,hc,hd⟩,hn⟩:=hp
 dsimp only at ha hb hc hd hn
 dsimp only [aF,asT,aU] at *
 have hx:∀ k,k < 4→xsL [a,b,c,d] k=xs4 a b c d k:=fun k hk=>by
  match k,hk with
  | 0,_=>rfl
  | 1,_=>rfl
  | 2,_=>rfl
  | 3,_=>rfl
 rw [tV hx]
 refine ⟨⟨ha,hb,hc,hd,⟨rfl,fun j hj=>?_,?_⟩,trivial⟩,trivial,rfl,trivial,rfl,trivial⟩
 ·rw [hx j hj]
  match j,hj with
  | 0,_=>exact EK ha.1 ha.2
  | 1,_=>exact EK hb.1 hb.2
  | 2,_=>exact EK hc.1 hc.2
  | 3,_=>exact EK hd.1 hd.2
 ·by_cases h0:a=0
  ·by_cases h1:b=0
   ·by_cases h2:c=0
    ·exact ⟨3,by omega,fun h3=>hn ⟨h0,h1,h2,h3⟩⟩
    ·exact ⟨2,by omega,h2⟩
   ·exact ⟨1,by omega,h1⟩
  ·exact ⟨0,by omega,h0⟩
noncomputable def LB2:Lib:=(((LB1.add 28 (cHI (fun _ _ _ _=>True) dK) a4L).add 65 (cHI (fun a b c d=>okc a∧okc b∧okc c∧okc d) fK) a7Z).add 67 b5F a0G)
end Go.Proofs.YtidfgdchcpmnfaaGreat
namespace Go.Proofs.YtidfgdchcpmnfaaGreat
open Go Go.RowKit
set_option maxRecDepth 100000
set_option maxHeartbeats 1000000
set_option linter.unusedVariables false
set_option linter.unusedSimpArgs false
theorem pW {q:Int} (h:okc q):dN q:=by
 unfold okc at h
 unfold dN
 omega
theorem SQ:dL Tryz.prog 18 (cHQ (fun _ _ _ _=>True) uG):=by
 refine gK LB2 [2] Tryz.func18 rfl (by decide) (fun x=>[]) (fun x hp=>?_)
 obtain ⟨⟨a,b,c,d,v⟩,u⟩:=x
 change Int at a;change Int at b;change Int at c;change Int at d
 refine jC ((True∧True)∧ifB (dK a b c d != 0) (True∧(0,0,0,0,())=Prod.fst (uG a b c d)∧True∧dK a b c d=Prod.fst (Prod.snd (uG a b c d))∧True) ((((dN a∧dN b∧dN c∧dN d)∧¬(a=0∧b=0∧c=0∧d=0))∧True)∧True∧(Prod.fst (Prod.fst (aY (xs4 a b c d))),Prod.fst (Prod.snd (Prod.fst (aY (xs4 a b c d)))),Prod.fst (Prod.snd (Prod.snd (Prod.fst (aY (xs4 a b c d))))),Prod.fst (Prod.snd (Prod.snd (Prod.snd (Prod.fst (aY (xs4 a b c d)))))),())=Prod.fst (uG a b c d)∧True∧Prod.fst (Prod.snd (aY (xs4 a b c d)))=Prod.fst (Prod.snd (uG a b c d))∧True)) (by kernel_rfl) ?_
 refine ⟨⟨trivial,trivial⟩,iH.2 ⟨fun h=>?_,fun h=>?_⟩⟩
 ·have h:=bne_iff_ne.1 h
  have e:uG a b c d=((0,0,0,0,()),dK a b c d,()):=if_neg h
  rw [e]
  exact ⟨trivial,rfl,trivial,rfl,trivial⟩
 ·have h:dK a b c d=0:=by simpa using h
  obtain ⟨hn,oa,ob,oc,od⟩:=rZ h
  have e:uG a b c d=aY (xs4 a b c d):=if_pos h
  rw [e]
  exact ⟨⟨⟨⟨pW oa,pW ob,pW oc,pW od⟩,hn⟩,trivial⟩,trivial,rfl,trivial,rfl,trivial⟩
theorem a6T:dL Tryz.prog 33 (cHQ (fun _ _ _ _=>True) JG):=by
 refine gK LB2 [2] Tryz.func33 rfl (by decide) (fun x=>[]) (fun x hp=>?_)
 obtain ⟨⟨a,b,c,d,v⟩,u⟩:=x
 change Int at a;change Int at b;change Int at c;change Int at d
 refine jC ((True∧True)∧ifB (dK a b c d != 0) (True∧(0,0,0,0,())=Prod.fst (JG a b c d)∧True∧dK a b c d=Prod.fst (Prod.snd (JG a b c d))∧True) ((((dN a∧dN (IntKind.wrap IntKind.i64 (0 - b))∧dN (IntKind.wrap IntKind.i64 (0 - c))∧dN (IntKind.wrap IntKind.i64 (0 - d)))∧¬(a=0∧IntKind.wrap IntKind.i64 (0 - b)=0∧IntKind.wrap IntKind.i64 (0 - c)=0∧IntKind.wrap IntKind.i64 (0 - d)=0))∧True)∧True∧(Prod.fst (Prod.fst (aY (xs4 a (IntKind.wrap IntKind.i64 (0 - b)) (IntKind.wrap IntKind.i64 (0 - c)) (IntKind.wrap IntKind.i64 (0 - d))))),Prod.fst (Prod.snd (Prod.fst (aY (xs4 a (IntKind.wrap IntKind.i64 (0 - b)) (IntKind.wrap IntKind.i64 (0 - c)) (IntKind.wrap IntKind.i64 (0 - d)))))),Prod.fst (Prod.snd (Prod.snd (Prod.fst (aY (xs4 a (IntKind.wrap IntKind.i64 (0 - b)) (IntKind.wrap IntKind.i64 (0 - c)) (IntKind.wrap IntKind.i64 (0 - d))))))),Prod.fst (Prod.snd (Prod.snd (Prod.snd (Prod.fst (aY (xs4 a (IntKind.wrap IntKind.i64 (0 - b)) (IntKind.wrap IntKind.i64 (0 - c)) (IntKind.wrap IntKind.i64 (0 - d)))))))),())=Prod.fst (JG a b c d)∧True∧Prod.fst (Prod.snd (aY (xs4 a (IntKind.wrap IntKind.i64 (0 - b)) (IntKind.wrap IntKind.i64 (0 - c)) (IntKind.wrap IntKind.i64 (0 - d)))))=Prod.fst (Prod.snd (JG a b c d))∧True)) (by kernel_rfl) ?_
 refine ⟨⟨trivial,trivial⟩,iH.2 ⟨fun h=>?_,fun h=>?_⟩⟩
 ·have h:=bne_iff_ne.1 h
  have e:JG a b c d=((0,0,0,0,()),dK a b c d,()):=if_neg h
  rw [e]
  exact ⟨trivial,rfl,trivial,rfl,trivial⟩
 ·have h:dK a b c d=0:=by simpa using h
  obtain ⟨hn,oa,ob,oc,od⟩:=rZ h
  have eb:IntKind.wrap IntKind.i64 (0 - b)=-b:=by unfold okc at ob;rw [fM (by omega) (by omega)];omega
  have nb:okc (-b):=by unfold okc at *;omega
  have ec:IntKind.wrap IntKind.i64 (0 - c)=-c:=by unfold okc at oc;rw [fM (by omega) (by omega)];omega
  have nc:okc (-c):=by unfold okc at *;omega
  have ed:IntKind.wrap IntKind.i64 (0 - d)=-d:=by unfold okc at od;rw [fM (by omega) (by omega)];omega
  have nd:okc (-d):=by unfold okc at *;omega
  rw [eb,ec,ed]
  have e:JG a b c d=aY (xs4 a (-b) (-c) (-d)):=if_pos h
  rw [e]
  exact ⟨⟨⟨⟨pW oa,pW nb,pW nc,pW nd⟩,fun h=>hn ⟨h.1,by omega,by omega,by omega⟩⟩,trivial⟩,trivial,rfl,trivial,rfl,trivial⟩
abbrev Q4:Type:=Int × Int × Int × Int × Unit
def qc (q:Q4):Int:=dK q.1 q.2.1 q.2.2.1 q.2.2.2.1
def oJ (l:List Q4):Int:=match l with
 | []=>0
 | q :: l=>if qc q=0 then oJ l else qc q
def b1h:Ctr:=⟨[.list nR],[tI],fun x=>(show List Q4 from x.1).length≤1000000000,fun x=>(oJ x.1,())⟩
abbrev b1a (l:List Q4):Type:={i:Nat // i≤l.length∧oJ l=oJ (l.drop i)}
theorem YW:dL Tryz.prog 68 b1h:=by
 refine gK LB2 [4] Tryz.func68 rfl (by decide) (fun x=>[.inv (b1a x.1) (fun i=>[(8,.val tI (i.1:Int))]) (fun i=>[]) (fun i=>(show List Q4 from x.1).length - i.1) ⟨0,Nat.zero_le _,rfl⟩ (fun _=>[])]) (fun x hp=>?_)
 obtain ⟨x,u⟩:=x
 change List Q4 at x
 refine jC ((asT Int 0=0∧True)∧∀ (i:b1a x),asT Bool true=true∧ifB (decide (aF (aA i) < aF (List.length x))) ((0≤aF (aA i)∧aF (aA i) < aF (List.length x)∧True)∧(True∧True)∧ifB (dK (Prod.fst (List.getD x (Int.toNat (aF (aA i))) (0,0,0,0,PUnit.unit))) (Prod.fst (Prod.snd (List.getD x (Int.toNat (aF (aA i))) (0,0,0,0,PUnit.unit)))) (Prod.fst (Prod.snd (Prod.snd (List.getD x (Int.toNat (aF (aA i))) (0,0,0,0,PUnit.unit))))) (Prod.fst (Prod.snd (Prod.snd (Prod.snd (List.getD x (Int.toNat (aF (aA i))) (0,0,0,0,PUnit.unit)))))) != 0) (True∧dK (Prod.fst (List.getD x (Int.toNat (aF (aA i))) (0,0,0,0,PUnit.unit))) (Prod.fst (Prod.snd (List.getD x (Int.toNat (aF (aA i))) (0,0,0,0,PUnit.unit)))) (Prod.fst (Prod.snd (Prod.snd (List.getD x (Int.toNat (aF (aA i))) (0,0,0,0,PUnit.unit))))) (Prod.fst (Prod.snd (Prod.snd (Prod.snd (List.getD x (Int.toNat (aF (aA i))) (0,0,0,0,PUnit.unit))))))=oJ x∧True) (∃ (i':b1a x),List.length x - aA i' < List.length x - aA i∧IntKind.wrap IntKind.i64 (aF (aA i)+1)=aF (aA i')∧True)) (True∧0=oJ x∧True)) (by kernel_rfl) ?_
 dsimp only [aF,aA,asT] at *
 have step:∀ i:Nat,i < x.length→oJ (x.drop i)=if qc (x.getD i (0,0,0,0,()))=0 then oJ (x.drop (i+1)) else qc (x.getD i (0,0,0,0,())):=fun i hi=>by
  rw [List.drop_eq_getElem_cons hi,List.getD_eq_getElem?_getD,List.getElem?_eq_getElem hi]
  rfl
 refine ⟨⟨rfl,trivial⟩,fun i=>⟨rfl,iH.2 ⟨fun h1=>?_,fun h1=>⟨trivial,?_,trivial⟩⟩⟩⟩
 all_goals
  obtain ⟨i,h2,h3⟩:=i
  dsimp only at h1 ⊢
  simp only [decide_eq_true_eq,decide_eq_false_iff_not,Int.ofNat_lt] at h1
 ·have st:=step i h1
  rw [Int.toNat_natCast]
  refine ⟨⟨by omega,by omega,trivial⟩,⟨trivial,trivial⟩,iH.2 ⟨fun h4=>⟨trivial,?_,trivial⟩,fun h4=>⟨⟨i+1,h1,?_⟩,by simp only;omega,?_,trivial⟩⟩⟩
  ·have h4:=bne_iff_ne.1 h4
   rw [h3,st]
   exact (if_neg h4).symm
  ·have h4:=bne_eq_false_iff_eq.1 h4
   rw [h3,st]
   exact if_pos h4
  ·rw [fM (by omega) (by have:=hp;dsimp only [b1h] at this;omega)];rfl
 ·rw [h3,List.drop_eq_nil_of_le (by omega)];rfl
noncomputable def LC1:Lib:=((LB2.add 18 (cHQ (fun _ _ _ _=>True) uG) SQ).add 33 (cHQ (fun _ _ _ _=>True) JG) a6T).add 68 b1h YW
theorem a7a (a b c d e f g h:Int) (v z:Unit):oJ [(a,b,c,d,v),(e,f,g,h,z)]=nN a b c d e f g h:=by
 show (if dK a b c d=0 then (if dK e f g h=0 then 0 else dK e f g h) else dK a b c d)=if dK a b c d=0 then dK e f g h else dK a b c d
 by_cases h1:dK a b c d=0
 ·rw [if_pos h1,if_pos h1]
  by_cases h2:dK e f g h=0
  ·rw [if_pos h2,h2]
  ·rw [if_neg h2]
 ·rw [if_neg h1,if_neg h1]
theorem a0z:dL Tryz.prog 26 (b1i RV):=by
 refine gK LC1 [4] Tryz.func26 rfl (by decide) (fun x=>[]) (fun x hp=>?_)
 obtain ⟨⟨a,b,c,d,v⟩,⟨e,f,g,h,z⟩,u⟩:=x
 change Int at a;change Int at b;change Int at c;change Int at d;change Int at e;change Int at f;change Int at g;change Int at h
 change Unit at v;change Unit at z
 refine jC (let x0z:=(IntKind.wrap IntKind.i64 (IntKind.wrap IntKind.i64 (IntKind.wrap IntKind.i64 (a * e) - IntKind.wrap IntKind.i64 (b * f)) - IntKind.wrap IntKind.i64 (c * g)) - IntKind.wrap IntKind.i64 (d * h));let x1z:=(IntKind.wrap IntKind.i64 (IntKind.wrap IntKind.i64 (IntKind.wrap IntKind.i64 (a * f)+IntKind.wrap IntKind.i64 (b * e))+IntKind.wrap IntKind.i64 (c * h)) - IntKind.wrap IntKind.i64 (d * g));let x2z:=(aY (xs4 (IntKind.wrap IntKind.i64 x0z) (IntKind.wrap IntKind.i64 x1z) (IntKind.wrap IntKind.i64 (IntKind.wrap IntKind.i64 (IntKind.wrap IntKind.i64 (IntKind.wrap IntKind.i64 (a * g) - IntKind.wrap IntKind.i64 (b * h))+IntKind.wrap IntKind.i64 (c * e))+IntKind.wrap IntKind.i64 (d * f))) (IntKind.wrap IntKind.i64 (IntKind.wrap IntKind.i64 (IntKind.wrap IntKind.i64 (IntKind.wrap IntKind.i64 (a * h)+IntKind.wrap IntKind.i64 (b * g)) - IntKind.wrap IntKind.i64 (c * f))+IntKind.wrap IntKind.i64 (d * e)))));(List.length ((a,b,c,d,v) :: (e,f,g,h,z) :: aU (Int × Int × Int × Int × PUnit))≤1000000000∧True)∧ifB (oJ ((a,b,c,d,v) :: (e,f,g,h,z) :: aU (Int × Int × Int × Int × PUnit)) != 0) (True∧(0,0,0,0,())=Prod.fst (RV a b c d e f g h)∧True∧oJ ((a,b,c,d,v) :: (e,f,g,h,z) :: aU (Int × Int × Int × Int × PUnit))=Prod.fst (Prod.snd (RV a b c d e f g h))∧True) ((((dN (IntKind.wrap IntKind.i64 x0z)∧dN (IntKind.wrap IntKind.i64 x1z)∧dN (IntKind.wrap IntKind.i64 (IntKind.wrap IntKind.i64 (IntKind.wrap IntKind.i64 (IntKind.wrap IntKind.i64 (a * g) - IntKind.wrap IntKind.i64 (b * h))+IntKind.wrap IntKind.i64 (c * e))+IntKind.wrap IntKind.i64 (d * f)))∧dN (IntKind.wrap IntKind.i64 (IntKind.wrap IntKind.i64 (IntKind.wrap IntKind.i64 (IntKind.wrap IntKind.i64 (a * h)+IntKind.wrap IntKind.i64 (b * g)) - IntKind.wrap IntKind.i64 (c * f))+IntKind.wrap IntKind.i64 (d * e))))∧¬(IntKind.wrap IntKind.i64 x0z=0∧IntKind.wrap IntKind.i64 x1z=0∧IntKind.wrap IntKind.i64 (IntKind.wrap IntKind.i64 (IntKind.wrap IntKind.i64 (IntKind.wrap IntKind.i64 (a * g) - IntKind.wrap IntKind.i64 (b * h))+IntKind.wrap IntKind.i64 (c * e))+IntKind.wrap IntKind.i64 (d * f))=0∧IntKind.wrap IntKind.i64 (IntKind.wrap IntKind.i64 (IntKind.wrap IntKind.i64 (IntKind.wrap IntKind.i64 (a * h)+IntKind.wrap IntKind.i64 (b * g)) - IntKind.wrap IntKind.i64 (c * f))+IntKind.wrap IntKind.i64 (d * e))=0))∧True)∧True∧(Prod.fst (Prod.fst x2z),Prod.fst (Prod.snd (Prod.fst x2z)),Prod.fst (Prod.snd (Prod.snd (Prod.fst x2z))),Prod.fst (Prod.snd (Prod.snd (Prod.snd (Prod.fst x2z)))),())=Prod.fst (RV a b c d e f g h)∧True∧Prod.fst (Prod.snd x2z)=Prod.fst (Prod.snd (RV a b c d e f g h))∧True)) (by kernel_rfl) ?_
 dsimp only [aU] at *
 have hf:=a7a a b c d e f g h v z
 rw [hf]
 refine ⟨⟨by show 2≤1000000000;omega,trivial⟩,iH.2 ⟨fun k=>?_,fun k=>?_⟩⟩
 ·have k:=bne_iff_ne.1 k
  have ee:RV a b c d e f g h=((0,0,0,0,()),nN a b c d e f g h,()):=if_neg k
  rw [ee]
  exact ⟨trivial,rfl,trivial,rfl,trivial⟩
 ·have k:nN a b c d e f g h=0:=by simpa using k
  have k1:dK a b c d=0:=by
   by_cases h1:dK a b c d=0
   ·exact h1
   ·rw [nN,if_neg h1] at k;exact k
  have k2:dK e f g h=0:=by rwa [nN,if_pos k1] at k
  obtain ⟨hn,oa,ob,oc,od⟩:=rZ k1
  obtain ⟨hm,oe,of,og,oh⟩:=rZ k2
  obtain ⟨b8k,b8l⟩:=bP oa oe
  obtain ⟨b8Z,b9a⟩:=bP oa of
  obtain ⟨b9b,b9c⟩:=bP oa og
  obtain ⟨b9d,b9e⟩:=bP oa oh
  obtain ⟨b9f,b9g⟩:=bP ob oe
  obtain ⟨b8m,b8n⟩:=bP ob of
  obtain ⟨b9h,b9i⟩:=bP ob og
  obtain ⟨b9j,b9k⟩:=bP ob oh
  obtain ⟨b9l,b9m⟩:=bP oc oe
  obtain ⟨b9n,b9o⟩:=bP oc of
  obtain ⟨b8o,b8p⟩:=bP oc og
  obtain ⟨b9p,b9q⟩:=bP oc oh
  obtain ⟨b9r,b9s⟩:=bP od oe
  obtain ⟨b9t,b9u⟩:=bP od of
  obtain ⟨b9v,b9w⟩:=bP od og
  obtain ⟨b8q,b8r⟩:=bP od oh
  have ee:RV a b c d e f g h=aY (b0V a b c d e f g h):=if_pos k
  rw [ee]
  simp (disch:=omega) only [fM]
  refine ⟨⟨⟨⟨⟨by omega,by omega⟩,⟨by omega,by omega⟩,⟨by omega,by omega⟩,⟨by omega,by omega⟩⟩,b0f hn hm⟩,trivial⟩,trivial,rfl,trivial,rfl,trivial⟩
noncomputable def LC2:Lib:=LC1.add 26 (b1i RV) a0z
end Go.Proofs.YtidfgdchcpmnfaaGreat
