/-
  Lemmas for the theorem vcayley_holds, part 30 of 33.
-/
import Derived.Test.YtidfgdchcpmnfaaGreatCy29
namespace Go.Proofs.YtidfgdchcpmnfaaGreat
open Go Go.RowKit
set_option maxRecDepth 100000
set_option maxHeartbeats 1000000
set_option linter.unusedVariables false
set_option linter.unusedSimpArgs false
def qL (l:List Rat) (k:Nat):Rat:=l.getD k 0
theorem XD {q:Nat→Rat} {j:Nat} (hj:j < 4) (h:sgn (q j).num ≠ 0):true=nzB q:=by
 symm
 unfold nzB
 rw [Bool.not_eq_true',← Bool.not_eq_true]
 intro e
 have:=jX.1 e j hj
 rw [decide_eq_true_eq] at this
 rw [this] at h
 exact h rfl
theorem b6y {q:Nat→Rat} (h:∀ j,j < 4→sgn (q j).num=0):false=nzB q:=by
 symm
 unfold nzB
 rw [Bool.not_eq_false']
 refine jX.2 (fun j hj=>?_)
 rw [decide_eq_true_eq]
 exact Rat.num_eq_zero.1 (wK.1 (h j hj))
def cNz:Ctr:=⟨[.arr 4 tQ],[tB],fun x=>(show List Rat from x.1).length=4∧∀ j,j < 4→rsz (qL x.1 j)≤400000000,fun x=>(nzB (qL x.1),())⟩
noncomputable def LD0:Lib:=LC2.add 109 (cQI (fun x=>rsz x≤1000000000) (fun x=>sgn x.num)) (b1k fun v x w h hl=>lI v x w h hl)
theorem a0s:dL Tryz.prog 57 cNz:=by
 refine gK LD0 [4] Tryz.func57 rfl (by decide) (fun x=>[.turns 5 [6] [] []]) (fun x hp=>?_)
 obtain ⟨x,u⟩:=x
 change List Rat at x
 refine jC ((asT Int 0≤0∧asT Int 0 < 4∧True)∧(rsz (List.getD x 0 0)≤1000000000∧True)∧ifB (sgn (Rat.num (List.getD x 0 0)) != 0) (True∧true=nzB (qL x)∧True) (True∧asT Bool true=true∧(asT Int 0≤1∧asT Int 1 < 4∧True)∧(rsz (List.getD x 1 0)≤1000000000∧True)∧ifB (sgn (Rat.num (List.getD x 1 0)) != 0) (True∧true=nzB (qL x)∧True) (True∧asT Bool true=true∧(asT Int 0≤2∧asT Int 2 < 4∧True)∧(rsz (List.getD x 2 0)≤1000000000∧True)∧ifB (sgn (Rat.num (List.getD x 2 0)) != 0) (True∧true=nzB (qL x)∧True) (True∧asT Bool true=true∧(asT Int 0≤3∧asT Int 3 < 4∧True)∧(rsz (List.getD x 3 0)≤1000000000∧True)∧ifB (sgn (Rat.num (List.getD x 3 0)) != 0) (True∧true=nzB (qL x)∧True) (True∧asT Bool true=true∧True∧false=nzB (qL x)∧True))))) (by kernel_rfl) ?_
 obtain ⟨hl,hb⟩:=hp
 dsimp only [aF,asT] at *
 have hx:∀ j,x.getD j 0=qL x j:=fun _=>rfl
 simp only [hx]
 generalize qL x=q at *
 have r:∀ j,j < 4→rsz (q j)≤1000000000:=fun j hj=>Nat.le_trans (hb j hj) (by omega)
 simp only [iH,bne_iff_ne,bne_eq_false_iff_eq,ne_eq,true_and,and_true]
 exact ⟨⟨by omega,by omega⟩,r 0 (by omega),fun h=>XD (j:=0) (by omega) h,fun h0=>⟨⟨by omega,by omega⟩,r 1 (by omega),fun h=>XD (j:=1) (by omega) h,fun h1=>⟨⟨by omega,by omega⟩,r 2 (by omega),fun h=>XD (j:=2) (by omega) h,fun h2=>⟨⟨by omega,by omega⟩,r 3 (by omega),fun h=>XD (j:=3) (by omega) h,fun h3=>b6y (fun j hj=>by
  match j,hj with
  | 0,_=>exact h0
  | 1,_=>exact h1
  | 2,_=>exact h2
  | 3,_=>exact h3)⟩⟩⟩⟩
def b5C:Ctr:=⟨[.arr 4 tQ],[nR,tI],fun x=>(show List Rat from x.1).length=4∧(∀ j,j < 4→rsz (qL x.1 j)≤50000000)∧∃ j,j < 4∧qL x.1 j ≠ 0,fun x=>aY (aW (qL x.1))⟩
theorem YZ:dL Tryz.prog 58 b5C:=by
 refine gK LD0 [2,4,6,7,9,10,11] Tryz.func58 rfl (by decide) (fun x=>[.inv Le4 (fun k=>[(15,.val tI (k.1:Int))]) (fun k=>[(2,.box [⟨tI,(0:Int)⟩,⟨tI,(0:Int)⟩,⟨tI,(0:Int)⟩,⟨tI,(0:Int)⟩]),(4,.box [⟨tZ,dJ (qL x.1) k.1⟩])]) (fun k=>4 - k.1) ⟨0,by omega⟩ (fun _=>[]),.turns 5 [24] [2,4,7] []]) (fun x hp=>?_)
 obtain ⟨x,u⟩:=x
 change List Rat at x
 refine jC (let x0z:=(aF (Rat.den (List.getD x 0 0)));let x1z:=(aF (Rat.den (List.getD x 1 0)));(dN 1∧True)∧(asT Int 0=0∧asT Int 0=0∧asT Int 0=0∧asT Int 0=0∧asT Int 0=0∧1=dJ (qL x) 0∧True)∧∀ (i:Le4),asT Bool true=true∧ifB (decide (aF (aA i) < 4)) ((0≤aF (aA i)∧aF (aA i) < 4∧True)∧((isz (dJ (qL x) (aA i))≤1000000000∧isz (aF (Rat.den (List.getD x (Int.toNat (aF (aA i))) 0)))≤1000000000)∧True)∧∃ (i':Le4),4 - aA i' < 4 - aA i∧IntKind.wrap IntKind.i64 (aF (aA i)+1)=aF (aA i')∧asT Int 0=0∧asT Int 0=0∧asT Int 0=0∧asT Int 0=0∧dJ (qL x) (aA i) * aF (Rat.den (List.getD x (Int.toNat (aF (aA i))) 0))=dJ (qL x) (aA i')∧True) ((asT Int 0≤0∧asT Int 0 < 4∧True)∧((isz (dJ (qL x) (aA i))≤1000000000∧isz x0z≤1000000000∧aF (Rat.den (List.getD x 0 0)) ≠ 0)∧True)∧((isz (Rat.num (List.getD x 0 0))≤1000000000∧isz (Int.fdiv (dJ (qL x) (aA i)) x0z)≤1000000000)∧True)∧(asT Int 0=0∧asT Int 0=0∧asT Int 0=0∧asT Int 0=0∧dJ (qL x) (aA i)=dJ (qL x) (aA i)∧Rat.num (List.getD x 0 0) * Int.fdiv (dJ (qL x) (aA i)) x0z=Rat.num (List.getD x 0 0) * Int.fdiv (dJ (qL x) (aA i)) x0z∧asT Int 0=0∧asT Int 0=0∧asT Int 0=0∧True)∧asT Bool true=true∧(asT Int 0≤1∧asT Int 1 < 4∧True)∧((isz (dJ (qL x) (aA i))≤1000000000∧isz x1z≤1000000000∧aF (Rat.den (List.getD x 1 0)) ≠ 0)∧True)∧((isz (Rat.num (List.getD x 1 0))≤1000000000∧isz (Int.fdiv (dJ (qL x) (aA i)) x1z)≤1000000000)∧True)∧(asT Int 0=0∧asT Int 0=0∧asT Int 0=0∧asT Int 0=0∧dJ (qL x) (aA i)=dJ (qL x) (aA i)∧Rat.num (List.getD x 0 0) * Int.fdiv (dJ (qL x) (aA i)) x0z=Rat.num (List.getD x 0 0) * Int.fdiv (dJ (qL x) (aA i)) x0z∧Rat.num (List.getD x 1 0) * Int.fdiv (dJ (qL x) (aA i)) x1z=Rat.num (List.getD x 1 0) * Int.fdiv (dJ (qL x) (aA i)) x1z∧asT Int 0=0∧asT Int 0=0∧True)∧asT Bool true=true∧(asT Int 0≤2∧asT Int 2 < 4∧True)∧((isz (dJ (qL x) (aA i))≤1000000000∧isz (aF (Rat.den (List.getD x 2 0)))≤1000000000∧aF (Rat.den (List.getD x 2 0)) ≠ 0)∧True)∧((isz (Rat.num (List.getD x 2 0))≤1000000000∧isz (Int.fdiv (dJ (qL x) (aA i)) (aF (Rat.den (List.getD x 2 0))))≤1000000000)∧True)∧(asT Int 0=0∧asT Int 0=0∧asT Int 0=0∧asT Int 0=0∧dJ (qL x) (aA i)=dJ (qL x) (aA i)∧Rat.num (List.getD x 0 0) * Int.fdiv (dJ (qL x) (aA i)) x0z=Rat.num (List.getD x 0 0) * Int.fdiv (dJ (qL x) (aA i)) x0z∧Rat.num (List.getD x 1 0) * Int.fdiv (dJ (qL x) (aA i)) x1z=Rat.num (List.getD x 1 0) * Int.fdiv (dJ (qL x) (aA i)) x1z∧Rat.num (List.getD x 2 0) * Int.fdiv (dJ (qL x) (aA i)) (aF (Rat.den (List.getD x 2 0)))=Rat.num (List.getD x 2 0) * Int.fdiv (dJ (qL x) (aA i)) (aF (Rat.den (List.getD x 2 0)))∧asT Int 0=0∧True)∧asT Bool true=true∧(asT Int 0≤3∧asT Int 3 < 4∧True)∧((isz (dJ (qL x) (aA i))≤1000000000∧isz (aF (Rat.den (List.getD x 3 0)))≤1000000000∧aF (Rat.den (List.getD x 3 0)) ≠ 0)∧True)∧((isz (Rat.num (List.getD x 3 0))≤1000000000∧isz (Int.fdiv (dJ (qL x) (aA i)) (aF (Rat.den (List.getD x 3 0))))≤1000000000)∧True)∧(asT Int 0=0∧asT Int 0=0∧asT Int 0=0∧asT Int 0=0∧dJ (qL x) (aA i)=dJ (qL x) (aA i)∧Rat.num (List.getD x 0 0) * Int.fdiv (dJ (qL x) (aA i)) x0z=Rat.num (List.getD x 0 0) * Int.fdiv (dJ (qL x) (aA i)) x0z∧Rat.num (List.getD x 1 0) * Int.fdiv (dJ (qL x) (aA i)) x1z=Rat.num (List.getD x 1 0) * Int.fdiv (dJ (qL x) (aA i)) x1z∧Rat.num (List.getD x 2 0) * Int.fdiv (dJ (qL x) (aA i)) (aF (Rat.den (List.getD x 2 0)))=Rat.num (List.getD x 2 0) * Int.fdiv (dJ (qL x) (aA i)) (aF (Rat.den (List.getD x 2 0)))∧Rat.num (List.getD x 3 0) * Int.fdiv (dJ (qL x) (aA i)) (aF (Rat.den (List.getD x 3 0)))=Rat.num (List.getD x 3 0) * Int.fdiv (dJ (qL x) (aA i)) (aF (Rat.den (List.getD x 3 0)))∧True)∧asT Bool true=true∧((List.length (Rat.num (List.getD x 0 0) * Int.fdiv (dJ (qL x) (aA i)) x0z :: Rat.num (List.getD x 1 0) * Int.fdiv (dJ (qL x) (aA i)) x1z :: Rat.num (List.getD x 2 0) * Int.fdiv (dJ (qL x) (aA i)) (aF (Rat.den (List.getD x 2 0))) :: Rat.num (List.getD x 3 0) * Int.fdiv (dJ (qL x) (aA i)) (aF (Rat.den (List.getD x 3 0))) :: aU Int)=4∧(∀ (j:Nat),j < 4→isz (xsL (Rat.num (List.getD x 0 0) * Int.fdiv (dJ (qL x) (aA i)) x0z :: Rat.num (List.getD x 1 0) * Int.fdiv (dJ (qL x) (aA i)) x1z :: Rat.num (List.getD x 2 0) * Int.fdiv (dJ (qL x) (aA i)) (aF (Rat.den (List.getD x 2 0))) :: Rat.num (List.getD x 3 0) * Int.fdiv (dJ (qL x) (aA i)) (aF (Rat.den (List.getD x 3 0))) :: aU Int) j)≤400000000)∧∃ (j:Nat),j < 4∧xsL (Rat.num (List.getD x 0 0) * Int.fdiv (dJ (qL x) (aA i)) x0z :: Rat.num (List.getD x 1 0) * Int.fdiv (dJ (qL x) (aA i)) x1z :: Rat.num (List.getD x 2 0) * Int.fdiv (dJ (qL x) (aA i)) (aF (Rat.den (List.getD x 2 0))) :: Rat.num (List.getD x 3 0) * Int.fdiv (dJ (qL x) (aA i)) (aF (Rat.den (List.getD x 3 0))) :: aU Int) j ≠ 0)∧True)∧True∧(Prod.fst (Prod.fst (aY (xsL (Rat.num (List.getD x 0 0) * Int.fdiv (dJ (qL x) (aA i)) x0z :: Rat.num (List.getD x 1 0) * Int.fdiv (dJ (qL x) (aA i)) x1z :: Rat.num (List.getD x 2 0) * Int.fdiv (dJ (qL x) (aA i)) (aF (Rat.den (List.getD x 2 0))) :: Rat.num (List.getD x 3 0) * Int.fdiv (dJ (qL x) (aA i)) (aF (Rat.den (List.getD x 3 0))) :: aU Int)))),Prod.fst (Prod.snd (Prod.fst (aY (xsL (Rat.num (List.getD x 0 0) * Int.fdiv (dJ (qL x) (aA i)) x0z :: Rat.num (List.getD x 1 0) * Int.fdiv (dJ (qL x) (aA i)) x1z :: Rat.num (List.getD x 2 0) * Int.fdiv (dJ (qL x) (aA i)) (aF (Rat.den (List.getD x 2 0))) :: Rat.num (List.getD x 3 0) * Int.fdiv (dJ (qL x) (aA i)) (aF (Rat.den (List.getD x 3 0))) :: aU Int))))),Prod.fst (Prod.snd (Prod.snd (Prod.fst (aY (xsL (Rat.num (List.getD x 0 0) * Int.fdiv (dJ (qL x) (aA i)) x0z :: Rat.num (List.getD x 1 0) * Int.fdiv (dJ (qL x) (aA i)) x1z :: Rat.num (List.getD x 2 0) * Int.fdiv (dJ (qL x) (aA i)) (aF (Rat.den (List.getD x 2 0))) :: Rat.num (List.getD x 3 0) * Int.fdiv (dJ (qL x) (aA i)) (aF (Rat.den (List.getD x 3 0))) :: aU Int)))))),Prod.fst (Prod.snd (Prod.snd (Prod.snd (Prod.fst (aY (xsL (Rat.num (List.getD x 0 0) * Int.fdiv (dJ (qL x) (aA i)) x0z :: Rat.num (List.getD x 1 0) * Int.fdiv (dJ (qL x) (aA i)) x1z :: Rat.num (List.getD x 2 0) * Int.fdiv (dJ (qL x) (aA i)) (aF (Rat.den (List.getD x 2 0))) :: Rat.num (List.getD x 3 0) * Int.fdiv (dJ (qL x) (aA i)) (aF (Rat.den (List.getD x 3 0))) :: aU Int))))))),())=Prod.fst (aY (aW (qL x)))∧True∧Prod.fst (Prod.snd (aY (xsL (Rat.num (List.getD x 0 0) * Int.fdiv (dJ (qL x) (aA i)) x0z :: Rat.num (List.getD x 1 0) * Int.fdiv (dJ (qL x) (aA i)) x1z :: Rat.num (List.getD x 2 0) * Int.fdiv (dJ (qL x) (aA i)) (aF (Rat.den (List.getD x 2 0))) :: Rat.num (List.getD x 3 0) * Int.fdiv (dJ (qL x) (aA i)) (aF (Rat.den (List.getD x 3 0))) :: aU Int))))=Prod.fst (Prod.snd (aY (aW (qL x))))∧True)) (by kernel_rfl) ?_
 obtain ⟨hl,hb,hn⟩:=hp
 dsimp only [aF,asT,aA] at *
 have hx:∀ j,x.getD j 0=qL x j:=fun _=>rfl
 simp only [hx,Int.toNat_natCast]
 generalize qL x=q at *
 simp only [iH,decide_eq_true_eq,decide_eq_false_iff_not,true_and,and_true,ne_eq]
 have d:∀ k,k≤4→isz (dJ q k)≤1000000000:=fun k hk=>Nat.le_trans (MX hb k hk) (by omega)
 have r:∀ j,j < 4→isz ((q j).den:Int)≤1000000000:=fun j hj=>Nat.le_trans (bZ (q j)) (Nat.le_trans (hb j hj) (by omega))
 have n:∀ j,j < 4→isz (q j).num≤1000000000:=fun j hj=>Nat.le_trans (dI (q j)) (Nat.le_trans (hb j hj) (by omega))
 have z:∀ j,¬ ((q j).den:Int)=0:=fun j=>by have:=(q j).den_nz;omega
 have f:∀ j,j < 4→isz ((dJ q 4).fdiv ((q j).den:Int))≤1000000000:=fun j hj=>Nat.le_trans (qO (z j) (vV q hj)) (d 4 (by omega))
 refine ⟨⟨by omega,by omega⟩,(by and_intros <;> rfl),fun i=>⟨fun h1=>?_,fun h1=>?_⟩⟩
 ·have hi:=i.2
  refine ⟨⟨by omega,by omega⟩,⟨d _ hi,r _ (by omega)⟩,⟨i.1+1,by omega⟩,by simp only;omega,?_,rfl⟩
  rw [fM (by omega) (by omega)];rfl
 ·have hi:=i.2
  have hi:i.1=4:=by omega
  rw [hi]
  dsimp only [aU]
  have hX:∀ k,k < 4→xsL [(q 0).num * (dJ q 4).fdiv ((q 0).den:Int),(q 1).num * (dJ q 4).fdiv ((q 1).den:Int),(q 2).num * (dJ q 4).fdiv ((q 2).den:Int),(q 3).num * (dJ q 4).fdiv ((q 3).den:Int)] k=aW q k:=fun k hk=>by
   match k,hk with
   | 0,_=>rfl
   | 1,_=>rfl
   | 2,_=>rfl
   | 3,_=>rfl
  rw [tV hX]
  refine ⟨⟨by omega,by omega⟩,⟨d 4 (by omega),r 0 (by omega),z 0⟩,⟨n 0 (by omega),f 0 (by omega)⟩,⟨by omega,by omega⟩,⟨d 4 (by omega),r 1 (by omega),z 1⟩,⟨n 1 (by omega),f 1 (by omega)⟩,⟨by omega,by omega⟩,⟨d 4 (by omega),r 2 (by omega),z 2⟩,⟨n 2 (by omega),f 2 (by omega)⟩,⟨by omega,by omega⟩,⟨d 4 (by omega),r 3 (by omega),z 3⟩,⟨n 3 (by omega),f 3 (by omega)⟩,⟨rfl,fun j hj=>?_,?_⟩,?_⟩
  ·rw [hX j hj]
   exact Nat.le_trans (JC hb hj) (by omega)
  ·obtain ⟨j,hj,h⟩:=hn
   exact ⟨j,hj,by rw [hX j hj];exact MP hj h⟩
  ·first | trivial | exact ⟨rfl,rfl⟩ | rfl
noncomputable def LD1:Lib:=(LD0.add 57 cNz a0s).add 58 b5C YZ
end Go.Proofs.YtidfgdchcpmnfaaGreat
namespace Go.Proofs.YtidfgdchcpmnfaaGreat
open Go Go.RowKit
set_option maxRecDepth 100000
set_option maxHeartbeats 1000000
set_option linter.unusedVariables false
set_option linter.unusedSimpArgs false
def OX (a b c d:Int):QM:=(List.range 3).map fun i=>(List.range 3).map fun j=>qA a b c d i j
def cMx:Ctr:=⟨[nR],[tM,tI],fun x=>True,fun x=>(if dK x.1.1 x.1.2.1 x.1.2.2.1 x.1.2.2.2.1=0 then OX x.1.1 x.1.2.1 x.1.2.2.1 x.1.2.2.2.1 else [],dK x.1.1 x.1.2.1 x.1.2.2.1 x.1.2.2.2.1,())⟩
abbrev b5A (a b c d:Int):Res:=.box [⟨tI,dQ a b c d 0 0⟩,⟨tI,dQ a b c d 0 1⟩,⟨tI,dQ a b c d 0 2⟩,⟨tI,dQ a b c d 1 0⟩,⟨tI,dQ a b c d 1 1⟩,⟨tI,dQ a b c d 1 2⟩,⟨tI,dQ a b c d 2 0⟩,⟨tI,dQ a b c d 2 1⟩,⟨tI,dQ a b c d 2 2⟩]
theorem a2f:dL Tryz.prog 16 cMx:=by
 refine gK LD1 [9,12,16] Tryz.func16 rfl (by decide) (fun x=>[.inv Le3 (fun i=>[(129,.val tI (i.1:Int)),(10,.own 10 0)]) (fun i=>[(9,b5A x.1.1 x.1.2.1 x.1.2.2.1 x.1.2.2.2.1),(10,.row 25 (.list tQ) ((List.range i.1).map fun i=>(List.range 3).map fun j=>qA x.1.1 x.1.2.1 x.1.2.2.1 x.1.2.2.2.1 i j) 0)]) (fun i=>3 - i.1) ⟨0,by omega⟩ (fun i=>[.inv Le3 (fun j=>[(133,.val tI (j.1:Int)),(13,.own 13 0)]) (fun j=>[(9,b5A x.1.1 x.1.2.1 x.1.2.2.1 x.1.2.2.2.1),(10,.row 25 (.list tQ) ((List.range i.1).map fun i=>(List.range 3).map fun j=>qA x.1.1 x.1.2.1 x.1.2.2.1 x.1.2.2.2.1 i j) 0),(12,.box [⟨tI,dQ x.1.1 x.1.2.1 x.1.2.2.1 x.1.2.2.2.1 i.1 0⟩,⟨tI,dQ x.1.1 x.1.2.1 x.1.2.2.1 x.1.2.2.2.1 i.1 1⟩,⟨tI,dQ x.1.1 x.1.2.1 x.1.2.2.1 x.1.2.2.2.1 i.1 2⟩]),(13,.row 30 tQ ((List.range j.1).map fun j=>qA x.1.1 x.1.2.1 x.1.2.2.1 x.1.2.2.2.1 i.1 j) 0)]) (fun j=>3 - j.1) ⟨0,by omega⟩ (fun _=>[])])]) (fun x hp=>?_)
 obtain ⟨⟨a,b,c,d,u⟩,v⟩:=x
 change Int at a;change Int at b;change Int at c;change Int at d
 refine jC (let x0z:=(IntKind.wrap IntKind.i64 (IntKind.wrap IntKind.i64 (IntKind.wrap IntKind.i64 (IntKind.wrap IntKind.i64 (a * a)+IntKind.wrap IntKind.i64 (b * b)) - IntKind.wrap IntKind.i64 (c * c)) - IntKind.wrap IntKind.i64 (d * d)) :: IntKind.wrap IntKind.i64 (2 * IntKind.wrap IntKind.i64 (IntKind.wrap IntKind.i64 (b * c) - IntKind.wrap IntKind.i64 (a * d))) :: IntKind.wrap IntKind.i64 (2 * IntKind.wrap IntKind.i64 (IntKind.wrap IntKind.i64 (b * d)+IntKind.wrap IntKind.i64 (a * c))) :: aU Int);let x1z:=(IntKind.wrap IntKind.i64 (2 * IntKind.wrap IntKind.i64 (IntKind.wrap IntKind.i64 (b * c)+IntKind.wrap IntKind.i64 (a * d))) :: IntKind.wrap IntKind.i64 (IntKind.wrap IntKind.i64 (IntKind.wrap IntKind.i64 (IntKind.wrap IntKind.i64 (a * a) - IntKind.wrap IntKind.i64 (b * b))+IntKind.wrap IntKind.i64 (c * c)) - IntKind.wrap IntKind.i64 (d * d)) :: IntKind.wrap IntKind.i64 (2 * IntKind.wrap IntKind.i64 (IntKind.wrap IntKind.i64 (c * d) - IntKind.wrap IntKind.i64 (a * b))) :: aU Int);let x2z:=(x0z :: x1z :: (IntKind.wrap IntKind.i64 (2 * IntKind.wrap IntKind.i64 (IntKind.wrap IntKind.i64 (b * d) - IntKind.wrap IntKind.i64 (a * c))) :: IntKind.wrap IntKind.i64 (2 * IntKind.wrap IntKind.i64 (IntKind.wrap IntKind.i64 (c * d)+IntKind.wrap IntKind.i64 (a * b))) :: IntKind.wrap IntKind.i64 (IntKind.wrap IntKind.i64 (IntKind.wrap IntKind.i64 (IntKind.wrap IntKind.i64 (a * a) - IntKind.wrap IntKind.i64 (b * b)) - IntKind.wrap IntKind.i64 (c * c))+IntKind.wrap IntKind.i64 (d * d)) :: aU Int) :: aU (List Int));(True∧True)∧ifB (dK a b c d != 0) (True∧(aU (List Rat)=if dK a b c d=0 then OX a b c d else aU (List Rat))∧True∧dK a b c d=dK a b c d∧True) ((asT Int 0=0∧(True∧asT (List (List Rat)) (aU (List Rat))=aU (List Rat))∧IntKind.wrap IntKind.i64 (IntKind.wrap IntKind.i64 (IntKind.wrap IntKind.i64 (IntKind.wrap IntKind.i64 (a * a)+IntKind.wrap IntKind.i64 (b * b)) - IntKind.wrap IntKind.i64 (c * c)) - IntKind.wrap IntKind.i64 (d * d))=dQ a b c d 0 0∧IntKind.wrap IntKind.i64 (2 * IntKind.wrap IntKind.i64 (IntKind.wrap IntKind.i64 (b * c) - IntKind.wrap IntKind.i64 (a * d)))=dQ a b c d 0 1∧IntKind.wrap IntKind.i64 (2 * IntKind.wrap IntKind.i64 (IntKind.wrap IntKind.i64 (b * d)+IntKind.wrap IntKind.i64 (a * c)))=dQ a b c d 0 2∧IntKind.wrap IntKind.i64 (2 * IntKind.wrap IntKind.i64 (IntKind.wrap IntKind.i64 (b * c)+IntKind.wrap IntKind.i64 (a * d)))=dQ a b c d 1 0∧IntKind.wrap IntKind.i64 (IntKind.wrap IntKind.i64 (IntKind.wrap IntKind.i64 (IntKind.wrap IntKind.i64 (a * a) - IntKind.wrap IntKind.i64 (b * b))+IntKind.wrap IntKind.i64 (c * c)) - IntKind.wrap IntKind.i64 (d * d))=dQ a b c d 1 1∧IntKind.wrap IntKind.i64 (2 * IntKind.wrap IntKind.i64 (IntKind.wrap IntKind.i64 (c * d) - IntKind.wrap IntKind.i64 (a * b)))=dQ a b c d 1 2∧IntKind.wrap IntKind.i64 (2 * IntKind.wrap IntKind.i64 (IntKind.wrap IntKind.i64 (b * d) - IntKind.wrap IntKind.i64 (a * c)))=dQ a b c d 2 0∧IntKind.wrap IntKind.i64 (2 * IntKind.wrap IntKind.i64 (IntKind.wrap IntKind.i64 (c * d)+IntKind.wrap IntKind.i64 (a * b)))=dQ a b c d 2 1∧IntKind.wrap IntKind.i64 (IntKind.wrap IntKind.i64 (IntKind.wrap IntKind.i64 (IntKind.wrap IntKind.i64 (a * a) - IntKind.wrap IntKind.i64 (b * b)) - IntKind.wrap IntKind.i64 (c * c))+IntKind.wrap IntKind.i64 (d * d))=dQ a b c d 2 2∧(asT (List (List Rat)) (aU (List Rat))=aU (List Rat)∧0=0∧asT Bool true=true)∧True)∧∀ (i:Le3),asT Bool true=true∧ifB (decide (aF (aA i) < 3)) ((0≤aF (aA i)∧aF (aA i) < 3∧True)∧(asT Int 0=0∧(True∧asT (List Rat) (aU Rat)=aU Rat)∧dQ a b c d 0 0=dQ a b c d 0 0∧dQ a b c d 0 1=dQ a b c d 0 1∧dQ a b c d 0 2=dQ a b c d 0 2∧dQ a b c d 1 0=dQ a b c d 1 0∧dQ a b c d 1 1=dQ a b c d 1 1∧dQ a b c d 1 2=dQ a b c d 1 2∧dQ a b c d 2 0=dQ a b c d 2 0∧dQ a b c d 2 1=dQ a b c d 2 1∧dQ a b c d 2 2=dQ a b c d 2 2∧List.map (fun (i:Nat)=>List.map (fun (j:Nat)=>qA a b c d i j) (List.range 3)) (List.range (aA i))=List.map (fun (i:Nat)=>List.map (fun (j:Nat)=>qA a b c d i j) (List.range 3)) (List.range (aA i))∧List.getD (List.getD x2z (Int.toNat (aF (aA i))) (0 :: List.replicate 2 0)) 0 0=dQ a b c d (aA i) 0∧List.getD (List.getD x2z (Int.toNat (aF (aA i))) (0 :: List.replicate 2 0)) (0+1) 0=dQ a b c d (aA i) 1∧List.getD (List.getD x2z (Int.toNat (aF (aA i))) (0 :: List.replicate 2 0)) (0+1+1) 0=dQ a b c d (aA i) 2∧(asT (List Rat) (aU Rat)=aU Rat∧0=0∧asT Bool true=true)∧True)∧∀ (i_1:Le3),asT Bool true=true∧ifB (decide (aF (aA i_1) < 3)) ((0≤aF (aA i_1)∧aF (aA i_1) < 3∧True)∧((okc a∧okc b∧okc c∧okc d)∧(dN (List.getD (List.getD (List.getD x2z (Int.toNat (aF (aA i))) (0 :: List.replicate 2 0)) 0 0 :: List.getD (List.getD x2z (Int.toNat (aF (aA i))) (0 :: List.replicate 2 0)) (0+1) 0 :: List.getD (List.getD x2z (Int.toNat (aF (aA i))) (0 :: List.replicate 2 0)) (0+1+1) 0 :: aU Int) (Int.toNat (aF (aA i_1))) 0)∧dN (fK a b c d)∧fK a b c d ≠ 0)∧True)∧(List.length (List.map (fun (j:Nat)=>qA a b c d (aA i) j) (List.range (aA i_1)))+List.length (Rat.divInt (List.getD (List.getD (List.getD x2z (Int.toNat (aF (aA i))) (0 :: List.replicate 2 0)) 0 0 :: List.getD (List.getD x2z (Int.toNat (aF (aA i))) (0 :: List.replicate 2 0)) (0+1) 0 :: List.getD (List.getD x2z (Int.toNat (aF (aA i))) (0 :: List.replicate 2 0)) (0+1+1) 0 :: aU Int) (Int.toNat (aF (aA i_1))) 0) (fK a b c d) :: aU Rat)≤1000000000∧True)∧∃ (i':Le3),3 - aA i' < 3 - aA i_1∧IntKind.wrap IntKind.i64 (aF (aA i_1)+1)=aF (aA i')∧dQ a b c d 0 0=dQ a b c d 0 0∧dQ a b c d 0 1=dQ a b c d 0 1∧dQ a b c d 0 2=dQ a b c d 0 2∧dQ a b c d 1 0=dQ a b c d 1 0∧dQ a b c d 1 1=dQ a b c d 1 1∧dQ a b c d 1 2=dQ a b c d 1 2∧dQ a b c d 2 0=dQ a b c d 2 0∧dQ a b c d 2 1=dQ a b c d 2 1∧dQ a b c d 2 2=dQ a b c d 2 2∧List.map (fun (i:Nat)=>List.map (fun (j:Nat)=>qA a b c d i j) (List.range 3)) (List.range (aA i))=List.map (fun (i:Nat)=>List.map (fun (j:Nat)=>qA a b c d i j) (List.range 3)) (List.range (aA i))∧dQ a b c d (aA i) 0=dQ a b c d (aA i) 0∧dQ a b c d (aA i) 1=dQ a b c d (aA i) 1∧dQ a b c d (aA i) 2=dQ a b c d (aA i) 2∧List.map (fun (j:Nat)=>qA a b c d (aA i) j) (List.range (aA i_1)) ++ Rat.divInt (List.getD (List.getD (List.getD x2z (Int.toNat (aF (aA i))) (0 :: List.replicate 2 0)) 0 0 :: List.getD (List.getD x2z (Int.toNat (aF (aA i))) (0 :: List.replicate 2 0)) (0+1) 0 :: List.getD (List.getD x2z (Int.toNat (aF (aA i))) (0 :: List.replicate 2 0)) (0+1+1) 0 :: aU Int) (Int.toNat (aF (aA i_1))) 0) (fK a b c d) :: aU Rat=List.map (fun (j:Nat)=>qA a b c d (aA i) j) (List.range (aA i'))∧True) ((List.length (List.map (fun (i:Nat)=>List.map (fun (j:Nat)=>qA a b c d i j) (List.range 3)) (List.range (aA i)))+List.length (List.map (fun (j:Nat)=>qA a b c d (aA i) j) (List.range (aA i_1)) :: aU (List Rat))≤1000000000∧True)∧∃ (i':Le3),3 - aA i' < 3 - aA i∧IntKind.wrap IntKind.i64 (aF (aA i)+1)=aF (aA i')∧dQ a b c d 0 0=dQ a b c d 0 0∧dQ a b c d 0 1=dQ a b c d 0 1∧dQ a b c d 0 2=dQ a b c d 0 2∧dQ a b c d 1 0=dQ a b c d 1 0∧dQ a b c d 1 1=dQ a b c d 1 1∧dQ a b c d 1 2=dQ a b c d 1 2∧dQ a b c d 2 0=dQ a b c d 2 0∧dQ a b c d 2 1=dQ a b c d 2 1∧dQ a b c d 2 2=dQ a b c d 2 2∧List.map (fun (i:Nat)=>List.map (fun (j:Nat)=>qA a b c d i j) (List.range 3)) (List.range (aA i)) ++ List.map (fun (j:Nat)=>qA a b c d (aA i) j) (List.range (aA i_1)) :: aU (List Rat)=List.map (fun (i:Nat)=>List.map (fun (j:Nat)=>qA a b c d i j) (List.range 3)) (List.range (aA i'))∧True)) (True∧(List.map (fun (i:Nat)=>List.map (fun (j:Nat)=>qA a b c d i j) (List.range 3)) (List.range (aA i))=if dK a b c d=0 then OX a b c d else aU (List Rat))∧True∧0=dK a b c d∧True))) (by kernel_rfl) ?_
 dsimp only [aF,aA,asT,aU,lM] at *
 simp only [iH,true_and,and_true,decide_eq_true_eq,decide_eq_false_iff_not,Int.toNat_natCast,Option.some.injEq,List.length_map,List.length_range,List.length_cons,List.length_nil,true_implies,implies_true,bne_iff_ne,ne_eq,bne_eq_false_iff_eq]
 refine ⟨fun h=>(if_neg h).symm,fun h=>?_⟩
 obtain ⟨hn,oa,ob,oc,od⟩:=rZ h
 have hN:=uY hn
 obtain ⟨b7Q,b7R⟩:=bP oa oa
 obtain ⟨b7S,b7T⟩:=bP oa ob
 obtain ⟨b7U,b7V⟩:=bP oa oc
 obtain ⟨b7W,b7X⟩:=bP oa od
 obtain ⟨b7Y,b7Z⟩:=bP ob ob
 obtain ⟨b8a,b8b⟩:=bP ob oc
 obtain ⟨b8c,b8d⟩:=bP ob od
 obtain ⟨b8e,b8f⟩:=bP oc oc
 obtain ⟨b8g,b8h⟩:=bP oc od
 obtain ⟨b8i,b8j⟩:=bP od od
 simp (disch:=omega) only [fM,if_pos h]
 refine ⟨(by and_intros <;> rfl),fun i=>⟨fun h1=>?_,fun h1=>?_⟩⟩
 ·have hi:=i.2
  have h1:i.1 < 3:=by omega
  have hM:∀ k,k < 3→([([[a * a+b * b - c * c - d * d,2 * (b * c - a * d),2 * (b * d+a * c)],[2 * (b * c+a * d),a * a - b * b+c * c - d * d,2 * (c * d - a * b)],[2 * (b * d - a * c),2 * (c * d+a * b),a * a - b * b - c * c+d * d]].getD i.1 (0 :: List.replicate 2 0)).getD 0 0,([[a * a+b * b - c * c - d * d,2 * (b * c - a * d),2 * (b * d+a * c)],[2 * (b * c+a * d),a * a - b * b+c * c - d * d,2 * (c * d - a * b)],[2 * (b * d - a * c),2 * (c * d+a * b),a * a - b * b - c * c+d * d]].getD i.1 (0 :: List.replicate 2 0)).getD (0+1) 0,([[a * a+b * b - c * c - d * d,2 * (b * c - a * d),2 * (b * d+a * c)],[2 * (b * c+a * d),a * a - b * b+c * c - d * d,2 * (c * d - a * b)],[2 * (b * d - a * c),2 * (c * d+a * b),a * a - b * b - c * c+d * d]].getD i.1 (0 :: List.replicate 2 0)).getD (0+1+1) 0]:List Int).getD k 0=dQ a b c d i.1 k:=by
   intro k hk
   have e:i.1=0 ∨ i.1=1 ∨ i.1=2:=by omega
   have e':k=0 ∨ k=1 ∨ k=2:=by omega
   rcases e with e | e | e <;> rw [e] <;> rcases e' with rfl | rfl | rfl <;> rfl
  refine ⟨⟨by omega,by omega⟩,⟨hM 0 (by omega),hM 1 (by omega),hM 2 (by omega)⟩,fun k=>⟨fun h2=>?_,fun h2=>?_⟩⟩
  all_goals
   have hk:=k.2
  ·have hk3:k.1 < 3:=by omega
   rw [hM k.1 hk3]
   have rb:=a2C oa ob oc od h1 hk3
   have nb:dN (fK a b c d):=by unfold dN fK;omega
   refine ⟨⟨by omega,by omega⟩,⟨⟨oa,ob,oc,od⟩,⟨by omega,by omega⟩,nb,by omega⟩,by omega,⟨k.1+1,by omega⟩,by simp only;omega,by simp only;omega,?_⟩
   simp only [List.range_succ,List.map_append,List.map_cons,List.map_nil]
   rfl
  ·have hk:k.1=3:=by omega
   refine ⟨by omega,⟨i.1+1,by omega⟩,by simp only;omega,by simp only;omega,?_⟩
   rw [hk]
   simp only [List.range_succ (n:=i.1),List.map_append,List.map_cons,List.map_nil]
 ·have hi:=i.2
  have hi:i.1=3:=by omega
  rw [hi]
  exact ⟨rfl,h.symm⟩
end Go.Proofs.YtidfgdchcpmnfaaGreat
namespace Go.Proofs.YtidfgdchcpmnfaaGreat
open Go Go.RowKit
set_option maxRecDepth 100000
set_option maxHeartbeats 1000000
set_option linter.unusedVariables false
set_option linter.unusedSimpArgs false
def kH:aS:=⟨false,0,[],[]⟩
abbrev tR:Ty:=.lf .iE
abbrev tMR:Ty:=.list (.list tR)
theorem a2U {F:Nat→Prop} {w:World} {v:Value} {x:Rat} (h:RQ w v x):iR F w tR v (mG x):=by
 obtain ⟨b,p,c,b',p',c',rfl,r1,r2⟩:=a0D h
 exact ⟨_,rfl,b,p,c,b',p',c',rfl,h.raw,r1,r2⟩
theorem a8U {F:Nat→Prop} {w:World}:iR F w tR (.agg #[.bool false,.slice none 0 0,.bool false,.slice none 0 0]) kH :=
 ⟨[.bool false,.slice none 0 0,.bool false,.slice none 0 0],rfl,wU (.lf .iE) _ rfl⟩
def cVal (K:Nat):Ctr:=⟨[tR],[tB],fun x=>(show aS from x.1).n≤K∧(show aS from x.1).m≤K,fun x=>((show aS from x.1).ok,())⟩
theorem b6G {F:Nat→Prop} {w:World} {v:Value} {x:aS} (h:iR F w tR v x):fC w v x.ok x.x∧∀ K,x.n≤K→x.m≤K→Qn v K:=by
 obtain ⟨cs,rfl,b,p,c,b',p',c',rfl,h2,_,_⟩:=h
 exact ⟨h2,fun K h1 h2=>⟨b,p,_,c,b',p',_,c',rfl,h1,h2⟩⟩
theorem a3p {f:FuncId} {K:Nat} (h:∀ (v:Value) (ok:Bool) (q:Rat) (w:World),fC w v ok q→Qn v K→Calls Tryz.prog f #[v] w (fun e w'=>e=.returned (.bool ok)∧Below w.heap.size w w')):dL Tryz.prog f (cVal K):=by
 intro F w vs x hF hvs hp
 obtain ⟨v,vs',rfl,h1,h3⟩:=hvs
 have h3:vs'=[]:=h3
 subst h3
 obtain ⟨h4,h5⟩:=b6G h1
 refine (h v _ _ w h4 (h5 K hp.1 hp.2)).mono ?_
 rintro e w' ⟨rfl,hb⟩
 exact ⟨_,rfl,QT _,hb⟩
def newT (e x y:Int):aS × Int × Unit:=if y=0 then (kH,e,()) else (mG (Rat.divInt x y),(0:Int),())
def cNew (K:Nat) (e:Int):Ctr:=⟨[tZ,tZ],[tR,tI],fun x=>isz x.1≤K∧isz x.2.1≤K,fun x=>newT e x.1 x.2.1⟩
theorem a9f {f:FuncId} {K:Nat} {c:Int} (h:∀ (v u:Value) (x y:Int) (w:World),bU w v x→bU w u y→isz x≤K→isz y≤K→y ≠ 0→Calls Tryz.prog f #[v,u] w (GQC (Rat.divInt x y) 0 w)) (h0:∀ (v u:Value) (x y:Int) (w:World),bU w v x→bU w u y→y=0→Calls Tryz.prog f #[v,u] w (a8W c w)):dL Tryz.prog f (cNew K c):=by
 intro F w vs x hF hvs hp
 obtain ⟨v,vs',rfl,h1,u,vs'',rfl,h2,h3⟩:=hvs
 have h3:vs''=[]:=h3
 subst h3
 by_cases hy:(show Int from x.2.1)=0
 ·refine (h0 v u x.1 x.2.1 w (rJ h1) (rJ h2) hy).mono ?_
  rintro e w' ⟨rfl,hb⟩
  refine ⟨_,rfl,?_,hb⟩
  rw [show (cNew K c).fn x=(kH,c,()) from if_pos hy]
  exact ⟨[_,_],rfl,_,_,rfl,a8U,_,_,rfl,tY _,rfl⟩
 ·refine (h v u x.1 x.2.1 w (rJ h1) (rJ h2) hp.1 hp.2 hy).mono ?_
  rintro e w' ⟨r,rfl,hr,hb⟩
  refine ⟨_,rfl,?_,hb⟩
  rw [show (cNew K c).fn x=(mG (Rat.divInt x.1 x.2.1),(0:Int),()) from if_neg hy]
  exact ⟨[_,_],rfl,_,_,rfl,a2U hr,_,_,rfl,tY _,rfl⟩
def b7c (e:Int) (x y:Rat):aS × Int × Unit:=if y=0 then (kH,e,()) else (mG (x / y),(0:Int),())
def a3m (K:Nat) (e:Int):Ctr:=⟨[tQ,tQ],[tR,tI],fun x=>rsz x.1≤K∧rsz x.2.1≤K,fun x=>b7c e x.1 x.2.1⟩
theorem a6A {f:FuncId} {K:Nat} {c:Int} (h:∀ (v u:Value) (x y:Rat) (w:World),RQ w v x→RQ w u y→rsz x≤K→rsz y≤K→y ≠ 0→Calls Tryz.prog f #[v,u] w (GQC (x / y) 0 w)) (h0:∀ (v u:Value) (x y:Rat) (w:World),RQ w v x→RQ w u y→rsz x≤K→rsz y≤K→y=0→Calls Tryz.prog f #[v,u] w (a8W c w)):dL Tryz.prog f (a3m K c):=by
 intro F w vs x hF hvs hp
 obtain ⟨v,vs',rfl,h1,u,vs'',rfl,h2,h3⟩:=hvs
 have h3:vs''=[]:=h3
 subst h3
 by_cases hy:(show Rat from x.2.1)=0
 ·refine (h0 v u x.1 x.2.1 w (vC h1) (vC h2) hp.1 hp.2 hy).mono ?_
  rintro e w' ⟨rfl,hb⟩
  refine ⟨_,rfl,?_,hb⟩
  rw [show (a3m K c).fn x=(kH,c,()) from if_pos hy]
  exact ⟨[_,_],rfl,_,_,rfl,a8U,_,_,rfl,tY _,rfl⟩
 ·refine (h v u x.1 x.2.1 w (vC h1) (vC h2) hp.1 hp.2 hy).mono ?_
  rintro e w' ⟨r,rfl,hr,hb⟩
  refine ⟨_,rfl,?_,hb⟩
  rw [show (a3m K c).fn x=(mG ((show Rat from x.1) / (show Rat from x.2.1)),(0:Int),()) from if_neg hy]
  exact ⟨[_,_],rfl,_,_,rfl,a2U hr,_,_,rfl,tY _,rfl⟩
def cQZ (K:Nat) (g:Rat→Int):Ctr:=⟨[tQ],[tZ],fun x=>rsz x.1≤K,fun x=>(g x.1,())⟩
theorem b1l {f:FuncId} {K:Nat} {g:Rat→Int} (h:∀ (v:Value) (x:Rat) (w:World),RQ w v x→rsz x≤K→Calls Tryz.prog f #[v] w (kK (g x) w)):dL Tryz.prog f (cQZ K g):=by
 intro F w vs x hF hvs hp
 obtain ⟨v,vs',rfl,h1,h3⟩:=hvs
 have h3:vs'=[]:=h3
 subst h3
 refine (h v x.1 w (vC h1) hp).mono ?_
 rintro e w' ⟨r,rfl,hr,hb⟩
 exact ⟨_,rfl,JZ hr,hb⟩
abbrev s4 (x:Rat):Prop:=rsz x≤400000000
abbrev s44 (x y:Rat):Prop:=rsz x≤400000000∧rsz y≤400000000
noncomputable def LF:Lib:=((((((((((LD1
 ).add 51 (cIQ dN (fun i=>(i:Rat))) (a6D fun x w h=>jT x w h.1 h.2)
 ).add 122 (cVal 1000000000) (a3p fun v ok q w h hn=>wQ v ok q w h hn)
 ).add 70 (cNew 1000000000 14) (a9f (fun v u x y w h1 h2 l1 l2 hy=>a4b v u _ _ x y w h1.PW h2.PW l1 l2 hy) (fun v u x y w h1 h2 hy=>a9Z v u _ _ x y w h1.PW h2.PW hy))
 ).add 52 (cQ2 s44 (·+·)) (MN fun v u x y w a b h=>YL v u x y w a b h.1 h.2)
 ).add 53 (cQ2 s44 (· * ·)) (MN fun v u x y w a b h=>EP v u x y w a b h.1 h.2)
 ).add 56 (cQ2 s44 (· - ·)) (MN fun v u x y w a b h=>a0Z v u x y w a b h.1 h.2)
 ).add 90 (b5D s44 sK) (a9g fun v u x y w a b h=>qK v u x y w a b h.1 h.2)
 ).add 91 (a3m 400000000 14) (a6A (fun v u x y w a b h1 h2 hy=>a3w v u x y w a b h1 h2 hy) (fun v u x y w a b l1 l2 hy=>a1H v u true true x y w a.raw b.raw (a.qn l1) (b.qn l2) hy))
 ).add 89 (cQ1 s4 a1t) (a6H fun v x w a h=>a6n v x w a (Nat.le_trans h (by omega)))
 ).add 92 (cQZ 400000000 Rat.floor) (b1l fun v x w a h=>a1L v x w a (Nat.le_trans h (by omega)))
def cRL:Ctr:=⟨[nR],[.list tI],fun x=>True,fun x=>([x.1.1,x.1.2.1,x.1.2.2.1,x.1.2.2.2.1],())⟩
theorem a5H:dL Tryz.prog 66 cRL:=by
 refine gK LZ [] Tryz.func66 rfl (by decide) (fun x=>[]) (fun x hp=>?_)
 obtain ⟨⟨a,b,c,d,v⟩,u⟩:=x
 change Int at a;change Int at b;change Int at c;change Int at d
 refine jC (True∧a :: b :: c :: d :: aU Int=a :: b :: c :: d :: aU Int∧True) (by kernel_rfl) ?_
 exact ⟨trivial,rfl,trivial⟩
noncomputable def LE0:Lib:=LF.add 66 cRL a5H
theorem a2w:dL Tryz.prog 17 (cHI (fun _ _ _ _=>True) dK):=by
 refine gK LE0 [] Tryz.func17 rfl (by decide) (fun x=>[.rounds 5 [4] []]) (fun x hp=>?_)
 obtain ⟨⟨a,b,c,d,v⟩,u⟩:=x
 change Int at a;change Int at b;change Int at c;change Int at d
 refine jC (((((a == 0) == true)=true→((a == 0) == true)=true∧True)∧(((a == 0) == true)=true→((a == 0) == true)=true∧True)∧((a == 0)=true→((a == 0) == true)=true)∧(((bif a == 0 then b == 0 else false) == true)=true→((bif a == 0 then b == 0 else false) == true)=true∧True)∧(((bif a == 0 then b == 0 else false) == true)=true→((bif a == 0 then b == 0 else false) == true)=true∧True)∧((bif a == 0 then b == 0 else false)=true→((bif a == 0 then b == 0 else false) == true)=true)∧(((bif bif a == 0 then b == 0 else false then c == 0 else false) == true)=true→((bif bif a == 0 then b == 0 else false then c == 0 else false) == true)=true∧True)∧(((bif bif a == 0 then b == 0 else false then c == 0 else false) == true)=true→((bif bif a == 0 then b == 0 else false then c == 0 else false) == true)=true∧True)∧((bif bif a == 0 then b == 0 else false then c == 0 else false)=true→((bif bif a == 0 then b == 0 else false then c == 0 else false) == true)=true)∧True)∧ifB (bif bif bif a == 0 then b == 0 else false then c == 0 else false then d == 0 else false) (True∧1=dK a b c d∧True) ((True∧True)∧(asT Int 0≤0∧0 < aF (List.length (a :: b :: c :: d :: aU Int))∧((decide (a > 1048576) == false)=true→(decide (a > 1048576) == false)=true∧(decide (a > 1048576) == false)=true∧asT Int 0≤0∧0 < aF (List.length (a :: b :: c :: d :: aU Int))∧True)∧((decide (a > 1048576) == false)=true→(decide (a > 1048576) == false)=true∧True)∧((decide (a > 1048576) == false)=true→(decide (a > 1048576) == false)=true∧True)∧(decide (a > 1048576)=false→(decide (a > 1048576) == false)=true)∧True)∧ifB (bif decide (a > 1048576) then true else decide (a < -1048576)) (True∧3=dK a b c d∧True) ((asT Int 0≤1∧1 < aF (List.length (a :: b :: c :: d :: aU Int))∧((decide (b > 1048576) == false)=true→(decide (b > 1048576) == false)=true∧(decide (b > 1048576) == false)=true∧asT Int 0≤1∧1 < aF (List.length (a :: b :: c :: d :: aU Int))∧True)∧((decide (b > 1048576) == false)=true→(decide (b > 1048576) == false)=true∧True)∧((decide (b > 1048576) == false)=true→(decide (b > 1048576) == false)=true∧True)∧(decide (b > 1048576)=false→(decide (b > 1048576) == false)=true)∧True)∧ifB (bif decide (b > 1048576) then true else decide (b < -1048576)) (True∧3=dK a b c d∧True) ((asT Int 0≤2∧2 < aF (List.length (a :: b :: c :: d :: aU Int))∧((decide (c > 1048576) == false)=true→(decide (c > 1048576) == false)=true∧(decide (c > 1048576) == false)=true∧asT Int 0≤2∧2 < aF (List.length (a :: b :: c :: d :: aU Int))∧True)∧((decide (c > 1048576) == false)=true→(decide (c > 1048576) == false)=true∧True)∧((decide (c > 1048576) == false)=true→(decide (c > 1048576) == false)=true∧True)∧(decide (c > 1048576)=false→(decide (c > 1048576) == false)=true)∧True)∧ifB (bif decide (c > 1048576) then true else decide (c < -1048576)) (True∧3=dK a b c d∧True) ((asT Int 0≤3∧3 < aF (List.length (a :: b :: c :: d :: aU Int))∧((decide (d > 1048576) == false)=true→(decide (d > 1048576) == false)=true∧(decide (d > 1048576) == false)=true∧asT Int 0≤3∧3 < aF (List.length (a :: b :: c :: d :: aU Int))∧True)∧((decide (d > 1048576) == false)=true→(decide (d > 1048576) == false)=true∧True)∧((decide (d > 1048576) == false)=true→(decide (d > 1048576) == false)=true∧True)∧(decide (d > 1048576)=false→(decide (d > 1048576) == false)=true)∧True)∧ifB (bif decide (d > 1048576) then true else decide (d < -1048576)) (True∧3=dK a b c d∧True) (True∧0=dK a b c d∧True)))))) (by kernel_rfl) ?_
 have e:∀ q:Int,(bif decide (q > 1048576) then true else decide (q < -1048576))=!decide (okc q):=fun q=>by
  by_cases h:okc q
  ·have h':=h;unfold okc at h'
   rw [decide_eq_false (p:=q > 1048576) (by omega),decide_eq_false (p:=q < -1048576) (by omega),decide_eq_true h];rfl
  ·have h':q < -1048576 ∨ q > 1048576:=by unfold okc at h;omega
   rw [decide_eq_false h]
   rcases h' with h' | h'
   ·rw [decide_eq_true h'];cases decide (q > 1048576) <;> rfl
   ·rw [decide_eq_true h'];rfl
 dsimp only [aF,asT,aU] at *
 simp only [e]
 have z:(bif bif bif a == 0 then b == 0 else false then c == 0 else false then d == 0 else false)=decide (a=0∧b=0∧c=0∧d=0):=by
  by_cases h0:a=0 <;> by_cases h1:b=0 <;> by_cases h2:c=0 <;> by_cases h3:d=0 <;> simp [h0,h1,h2,h3]
 rw [z]
 by_cases hz:a=0∧b=0∧c=0∧d=0
 ·obtain ⟨rfl,rfl,rfl,rfl⟩:=hz
  simp [ifB,dK]
 ·have hq:dK a b c d=if okc a∧okc b∧okc c∧okc d then 0 else 3:=if_neg hz
  rw [hq,decide_eq_false hz]
  by_cases oa:okc a
  ·by_cases ob:okc b
   ·by_cases oc:okc c
    ·by_cases od:okc d <;> simp [ifB,oa,ob,oc,od]
    ·simp [ifB,oa,ob,oc]
   ·simp [ifB,oa,ob]
  ·simp [ifB,oa]
noncomputable def LE1:Lib:=LE0.add 17 (cHI (fun _ _ _ _=>True) dK) a2w
theorem a0y {a b c d e f g h:Int}:nN a b c d e f g h=0 ↔ dK a b c d=0∧dK e f g h=0:=by
 unfold nN
 by_cases h:dK a b c d=0
 ·rw [if_pos h];simp [h]
 ·rw [if_neg h];simp [h]
def vT (a b c d e f g h:Int):aS × Int × Unit:=if nN a b c d e f g h=0 then (mG (a1B a b c d e f g h),0,()) else (kH,nN a b c d e f g h,())
def a1x:Ctr:=⟨[nR,nR],[tR,tI],fun x=>True,fun x=>vT x.1.1 x.1.2.1 x.1.2.2.1 x.1.2.2.2.1 x.2.1.1 x.2.1.2.1 x.2.1.2.2.1 x.2.1.2.2.2.1⟩
theorem SS:dL Tryz.prog 19 a1x:=by
 refine gK LE1 [4,7,8] Tryz.func19 rfl (by decide) (fun x=>[]) (fun x hp=>?_)
 obtain ⟨⟨a,b,c,d,v⟩,⟨e,f,g,h,z⟩,u⟩:=x
 change Int at a;change Int at b;change Int at c;change Int at d;change Int at e;change Int at f;change Int at g;change Int at h
 change Unit at v;change Unit at z
 refine jC (let x0z:=(IntKind.wrap IntKind.i64 (IntKind.wrap IntKind.i64 (IntKind.wrap IntKind.i64 (a * e)+IntKind.wrap IntKind.i64 (b * f))+IntKind.wrap IntKind.i64 (c * g))+IntKind.wrap IntKind.i64 (d * h));(List.length ((a,b,c,d,v) :: (e,f,g,h,z) :: aU (Int × Int × Int × Int × PUnit))≤1000000000∧True)∧ifB (oJ ((a,b,c,d,v) :: (e,f,g,h,z) :: aU (Int × Int × Int × Int × PUnit)) != 0) (True∧{ ok:=false,x:=0,g:=aU Nat,h:=aU Nat }=Prod.fst (vT a b c d e f g h)∧True∧oJ ((a,b,c,d,v) :: (e,f,g,h,z) :: aU (Int × Int × Int × Int × PUnit))=Prod.fst (Prod.snd (vT a b c d e f g h))∧True) ((dN (IntKind.wrap IntKind.i64 x0z)∧True)∧((isz (IntKind.wrap IntKind.i64 x0z)≤1000000000∧isz (IntKind.wrap IntKind.i64 x0z)≤1000000000)∧(okc a∧okc b∧okc c∧okc d)∧dN (fK a b c d)∧(okc e∧okc f∧okc g∧okc h)∧dN (fK e f g h)∧(isz (fK a b c d)≤1000000000∧isz (fK e f g h)≤1000000000)∧(isz (IntKind.wrap IntKind.i64 x0z * IntKind.wrap IntKind.i64 x0z)≤1000000000∧isz (fK a b c d * fK e f g h)≤1000000000)∧True)∧(dN 1∧aS.ok (Prod.fst (newT 14 (IntKind.wrap IntKind.i64 x0z * IntKind.wrap IntKind.i64 x0z) (fK a b c d * fK e f g h)))=true∧s44 (lM 1) (aS.x (Prod.fst (newT 14 (IntKind.wrap IntKind.i64 x0z * IntKind.wrap IntKind.i64 x0z) (fK a b c d * fK e f g h))))∧True)∧True∧mG (lM 1 - aS.x (Prod.fst (newT 14 (IntKind.wrap IntKind.i64 x0z * IntKind.wrap IntKind.i64 x0z) (fK a b c d * fK e f g h))))=Prod.fst (vT a b c d e f g h)∧True∧0=Prod.fst (Prod.snd (vT a b c d e f g h))∧True)) (by kernel_rfl) ?_
 dsimp only [aU,lM] at *
 rw [a7a a b c d e f g h v z]
 by_cases k:nN a b c d e f g h=0
 ·obtain ⟨k1,k2⟩:=a0y.1 k
  obtain ⟨hn,oa,ob,oc,od⟩:=rZ k1
  obtain ⟨hm,oe,of,og,oh⟩:=rZ k2
  have ee:vT a b c d e f g h=(mG (a1B a b c d e f g h),0,()):=if_pos k
  obtain ⟨b8k,b8l⟩:=bP oa oe
  obtain ⟨b8m,b8n⟩:=bP ob of
  obtain ⟨b8o,b8p⟩:=bP oc og
  obtain ⟨b8q,b8r⟩:=bP od oh
  obtain ⟨q0,q1⟩:=a2r oa ob oc od oe of og oh
  have eS:IntKind.wrap IntKind.i64 (IntKind.wrap IntKind.i64 (IntKind.wrap IntKind.i64 (IntKind.wrap IntKind.i64 (a * e)+IntKind.wrap IntKind.i64 (b * f))+IntKind.wrap IntKind.i64 (c * g))+IntKind.wrap IntKind.i64 (d * h))=BI a b c d e f g h:=by
   unfold BI at *
   simp (disch:=omega) only [fM]
  rw [eS,ee]
  obtain ⟨hk10,b7q⟩:=JR oa ob oc od
  obtain ⟨b7r,b7s⟩:=JR oe of og oh
  have hu1:=a1Z hk10 b7q
  have hu2:=a1Z b7r b7s
  have hu3:=a1Z q0 q1
  have hu4:=dW (fK a b c d) (fK e f g h)
  have hu5:=dW (BI a b c d e f g h) (BI a b c d e f g h)
  have hNN:=Int.mul_pos (uY hn) (uY hm)
  have hN0:fK a b c d * fK e f g h ≠ 0:=by omega
  have hu6:=wH (BI a b c d e f g h * BI a b c d e f g h) (fK a b c d * fK e f g h) hN0 (k:=4) (by omega) (by omega)
  have hu7:rsz ((1:Int):Rat)≤1:=by decide +kernel
  have w1:dN 1:=by unfold dN;omega
  have wS:dN (BI a b c d e f g h):=by unfold dN;omega
  have wn:dN (fK a b c d):=by unfold dN;omega
  have wm:dN (fK e f g h):=by unfold dN;omega
  have eN:newT 14 (BI a b c d e f g h * BI a b c d e f g h) (fK a b c d * fK e f g h)=(mG (Rat.divInt (BI a b c d e f g h * BI a b c d e f g h) (fK a b c d * fK e f g h)),0,()):=if_neg hN0
  rw [eN,k]
  exact ⟨⟨by show 2≤1000000000;omega,trivial⟩,⟨wS,trivial⟩,⟨⟨by omega,by omega⟩,⟨oa,ob,oc,od⟩,wn,⟨oe,of,og,oh⟩,wm,⟨by omega,by omega⟩,⟨by omega,by omega⟩,trivial⟩,⟨w1,rfl,⟨by omega,by show rsz (Rat.divInt _ _)≤_;omega⟩,trivial⟩,trivial,rfl,trivial,rfl,trivial⟩
 ·have ee:vT a b c d e f g h=(kH,nN a b c d e f g h,()):=if_neg k
  have kb:(nN a b c d e f g h != 0)=true:=by simpa using k
  rw [ee,kb]
  exact ⟨⟨by show 2≤1000000000;omega,trivial⟩,trivial,rfl,trivial,rfl,trivial⟩
noncomputable def LE2:Lib:=LE1.add 19 a1x SS
end Go.Proofs.YtidfgdchcpmnfaaGreat
