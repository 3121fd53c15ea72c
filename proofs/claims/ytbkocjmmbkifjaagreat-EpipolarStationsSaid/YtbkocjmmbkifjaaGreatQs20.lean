/-
  Lemmas for the theorem vstations28_holds, part 20 of 34.
-/
import Derived.Deep.RegionLawGrows
import Derived.Test.YtbkocjmmbkifjaaGreatQs19
namespace Go.Proofs.YtbkocjmmbkifjaaGreat
open Go Go.RowKit
theorem Ai:type_of% @List.take_add_one:=@List.take_add_one
set_option maxRecDepth 100000
set_option maxHeartbeats 1000000
set_option linter.unusedVariables false
set_option linter.unusedSimpArgs false
abbrev LR:Type:=List aH
def yA (q:aH):Prop:=q.n<=1000000000/\q.m<=1000000000
def yO {α:Type} (p:α->Bool) (xs:List α):Int:=if xs.any p then (xs.findIdx p:Nat) else -1
theorem RD {α:Type} {p:α->Bool} {xs:List α} {i:Nat} {d:α} (hi:i<xs.length) (h0:(xs.take i).any p=false) (h:p (xs.getD i d)=true):yO p xs=(i:Nat):=by
 have h1:xs.getD i d=xs[i]:=by rw[iy,jc hi];rfl
 rw[h1] at h
 have h2:xs.findIdx p=i:=by
  rw[List.findIdx_eq hi]
  refine⟨h,fun j hj=>?_⟩
  have:=List.any_eq_false.mp h0 xs[j] (List.mem_take_iff_getElem.mpr ⟨j,by omega,rfl⟩)
  simpa using this
 unfold yO
 rw[jm (List.any_eq_true.mpr ⟨_,vk hi,h⟩),h2]
theorem a0p {α:Type} {p:α->Bool} {xs:List α} (h:xs.any p=false):yO p xs=-1:=by unfold yO;rw[h];rfl
theorem RF {α:Type} (p:α->Bool) (xs:List α):decide (yO p xs ≥ 0)=xs.any p:=by
 unfold yO;cases h:xs.any p
 ·rfl
 ·simp
theorem lW {α:Type} {p:α->Bool} {xs:List α} {i:Nat} {d:α} (hi:i<xs.length):(xs.take (i+1)).any p=((xs.take i).any p || p (xs.getD i d)):=by
 rw[Ai,List.any_append,iy,jc hi]
 simp
theorem bU {α:Type} {p:α->Prop} {xs:List α} (h:∀ x ∈ xs,p x) {i:Nat} (hi:i<xs.length) {d:α}:p (xs.getD i d):=by
 rw[iy,jc hi];exact h _ (vk hi)
theorem aP {n:Int} (h0:-9223372036854775808<=n) (h1:n<=9223372036854775807):IntKind.wrap .i64 n=n:=by
 unfold IntKind.wrap
 simp only[IntKind.bits,IntKind.signed,Bool.true_and,aj,Nat.reduceSub,Int.reducePow,ge_iff_le]
 split<;>omega
noncomputable def c3P:Ctr:=⟨[tR],[tB],fun x=>yA x.1,fun x=>(!(show aH from x.1).ok,())⟩
theorem ZY:aI Tryz.prog 275 c3P:=by
 refine kS (nil0.ad a1l) [] Tryz.func275 rfl (by decide) (fun x=>[]) (fun x hp=>?_)
 obtain⟨x,u⟩:=x
 change aH at x
 refine aU (((aH.n x<=1000000000/\aH.m x<=1000000000)/\True)/\True/\(!aH.ok x)=!aH.ok x/\True) (by kernel_rfl) ?_
 exact⟨⟨hp,trivial⟩,trivial,rfl,trivial⟩
noncomputable def c4h:Ctr:=⟨[.list tR,.clo 275 .unit],[tI],fun x=>(show LR from x.1).length<=1000000/\∀ q ∈ (show LR from x.1),yA q,fun x=>(yO (fun q:aH=>!q.ok) (show LR from x.1),())⟩
theorem b3W:aI Tryz.prog 211 c4h:=by
 refine kS (nil0.ad ZY) [] Tryz.func211 rfl (by decide) (fun x=>[.inv {k:Nat // k<=(show LR from x.1).length/\((show LR from x.1).take k).any (fun q=>!q.ok)=false} (fun k=>[(8,.val tI (k.1:Int))]) (fun k=>[]) (fun k=>(show LR from x.1).length-k.1) ⟨0,by omega,rfl⟩ (fun _=>[])]) (fun x hp=>?_)
 obtain⟨x,c,u⟩:=x
 change List aH at x
 refine aU ((asT Int 0=0/\True)/\∀ (i:{ k:Nat // k<=List.length x/\(List.any (List.take k x) fun(q:aH)=>!aH.ok q)=false }),asT Bool true=true/\ifB (decide (aB (aA i)<aB x.length)) ((0<=aB (aA i)/\aB (aA i)<aB x.length/\yA (List.getD x (aB (aA i)).toNat { ok:=false,x:=0,g:=aF Nat,h:=aF Nat })/\True)/\ifB (!aH.ok (List.getD x (aB (aA i)).toNat { ok:=false,x:=0,g:=aF Nat,h:=aF Nat })) (True/\aB (aA i)=yO (fun(q:aH)=>!aH.ok q) x/\True) (∃ (i':{ k:Nat // k<=List.length x/\(List.any (List.take k x) fun(q:aH)=>!aH.ok q)=false }),List.length x-aA i'<List.length x-aA i/\IntKind.wrap IntKind.i64 (aB (aA i)+1)=aB (aA i')/\True)) (True/\-1=yO (fun(q:aH)=>!aH.ok q) x/\True)) (by kernel_rfl) ?_
 obtain⟨hl,hb⟩:=hp
 have hZ:(⟨false,0,[],[]⟩:aH)=bF:=rfl
 dsimp only[aB,asT,aA,aF] at *
 simp only[hZ,Int.toNat_natCast,aC,aj,ah,jh,jg,dw,ig]
 refine fun i=>⟨fun h1=>⟨⟨by omega,h1,bU hb (by omega)⟩,fun h2=>?_,fun h2=>⟨⟨i.1+1,by omega,?_⟩,by simp only;omega,?_⟩⟩,fun h1=>?_⟩
 ·exact(RD (d:=bF) (by omega) i.2.2 (by rw[h2];rfl)).symm
 ·rw[lW (d:=bF) (by omega),i.2.2,h2];rfl
 ·rw[aP (by omega) (by omega)];rfl
 ·have h3:=i.2.2
  rw[jv (by omega)] at h3
  exact(a0p h3).symm
noncomputable def c3Y:Ctr:=⟨[.list tR,.clo 275 .unit],[tB],fun x=>(show LR from x.1).length<=1000000/\∀ q ∈ (show LR from x.1),yA q,fun x=>((show LR from x.1).any (fun q:aH=>!q.ok),())⟩
theorem b3q:aI Tryz.prog 123 c3Y:=by
 refine kS ((nil0.ad ZY).ad b3W) [] Tryz.func123 rfl (by decide) (fun x=>[]) (fun x hp=>?_)
 obtain⟨x,c,u⟩:=x
 change List aH at x
 refine aU (((List.length x<=1000000/\∀ (q:aH),q ∈ x->yA q)/\True)/\True/\(decide (yO (fun(q:aH)=>!aH.ok q) x ≥ 0)=List.any x fun(q:aH)=>!aH.ok q)/\True) (by kernel_rfl) ?_
 exact⟨⟨hp,trivial⟩,trivial,RF _ _,trivial⟩
noncomputable def c1A:Ctr:=⟨[.list tR],[tB],fun x=>(show LR from x.1).length<=1000000/\∀ q ∈ (show LR from x.1),yA q,fun x=>(!(show LR from x.1).any (fun q:aH=>!q.ok),())⟩
theorem TD:aI Tryz.prog 243 c1A:=by
 refine kS ((nil0.ad ZY).ad b3q) [] Tryz.func243 rfl (by decide) (fun x=>[]) (fun x hp=>?_)
 obtain⟨x,u⟩:=x
 change List aH at x
 refine aU (((List.length x<=1000000/\∀ (q:aH),q ∈ x->yA q)/\True)/\True/\((!List.any x fun(q:aH)=>!aH.ok q)=!List.any x fun(q:aH)=>!aH.ok q)/\True) (by kernel_rfl) ?_
 exact⟨⟨hp,trivial⟩,trivial,rfl,trivial⟩
abbrev MR:Type:=List (List aH)
abbrev wdM {α:Type} (a:List (List α)):Nat:=(a.getD 0 []).length
def badR (n:Nat) (r:LR):Bool:=!(r.length==n) || r.any (fun q=>!q.ok)
def BG (r:LR):Prop:=r.length<=1000000/\∀ q ∈ r,yA q
theorem a5x (m n:Nat):((m:Int) != (n:Int))=!(m==n):=by
 by_cases h:m=n
 ·subst h;simp
 ·rw[dn.mpr h,jy.mpr (fun h2=>h (by exact_mod_cast h2))];rfl
noncomputable def c1x:Ctr:=⟨[.list tR,.ref tMR],[tB],fun x=>BG x.1/\0<(show MR from x.2.1).length,fun x=>(badR (wdM (show MR from x.2.1)) x.1,())⟩
theorem QH:aI Tryz.prog 242 c1x:=by
 refine kS (nil0.ad TD) [] Tryz.func242 rfl (by decide) (fun x=>[]) (fun x hp=>?_)
 obtain⟨x,a,u⟩:=x
 change List aH at x
 change List (List aH) at a
 refine aU (let A₁:=(List.getD a 0 (aF aH)).length;let A₀:=(aB x.length != aB A₁);(asT Int 0<=0/\0<aB a.length/\((A₀==false)=true->(A₀==false)=true/\(List.length x<=1000000/\∀ (q:aH),q ∈ x->yA q)/\True)/\((A₀==false)=true->(A₀==false)=true/\True)/\(A₀=false->(A₀==false)=true)/\True)/\True/\(bif aB x.length != aB A₁ then true else !!List.any x fun(q:aH)=>!aH.ok q)=badR (wdM a) x/\True) (by kernel_rfl) ?_
 obtain⟨hs,h0⟩:=hp
 dsimp only[aB,asT,aA,aF] at *
 refine⟨⟨by omega,by omega,fun h=>⟨h,hs,trivial⟩,fun h=>⟨h,trivial⟩,fun h=>by rw[h];rfl,trivial⟩,trivial,?_,trivial⟩
 unfold badR
 rw[Bool.not_not,a5x]
 cases x.length==wdM a<;>rfl
noncomputable def c4f:Ctr:=⟨[tMR,.clo 242 (.pair (.ref tMR) .unit)],[tI],fun x=>(show MR from x.1).length<=1000000/\(∀ r ∈ (show MR from x.1),BG r)/\0<(show MR from x.2.1.1).length,fun x=>(yO (badR (wdM (show MR from x.2.1.1))) (show MR from x.1),())⟩
theorem b3U:aI Tryz.prog 166 c4f:=by
 refine kS (nil0.ad QH) [] Tryz.func166 rfl (by decide) (fun x=>[.inv {k:Nat // k<=(show MR from x.1).length/\((show MR from x.1).take k).any (badR (wdM (show MR from x.2.1.1)))=false} (fun k=>[(8,.val tI (k.1:Int))]) (fun k=>[]) (fun k=>(show MR from x.1).length-k.1) ⟨0,by omega,rfl⟩ (fun _=>[])]) (fun x hp=>?_)
 obtain⟨x,⟨a,c⟩,u⟩:=x
 change List (List aH) at x
 change List (List aH) at a
 refine aU ((asT Int 0=0/\True)/\∀ (i:{ k:Nat // k<=List.length x/\List.any (List.take k x) (badR (wdM a))=false }),asT Bool true=true/\ifB (decide (aB (aA i)<aB x.length)) ((0<=aB (aA i)/\aB (aA i)<aB x.length/\(BG (List.getD x (aB (aA i)).toNat (aF aH))/\0<List.length a)/\True)/\ifB (badR (wdM a) (List.getD x (aB (aA i)).toNat (aF aH))) (True/\aB (aA i)=yO (badR (wdM a)) x/\True) (∃ (i':{ k:Nat // k<=List.length x/\List.any (List.take k x) (badR (wdM a))=false }),List.length x-aA i'<List.length x-aA i/\IntKind.wrap IntKind.i64 (aB (aA i)+1)=aB (aA i')/\True)) (True/\-1=yO (badR (wdM a)) x/\True)) (by kernel_rfl) ?_
 obtain⟨hl,hb,h0⟩:=hp
 dsimp only[aB,asT,aA,aF] at *
 simp only[Int.toNat_natCast,aC,aj,ah,jh,jg]
 refine fun i=>⟨fun h1=>⟨⟨by omega,h1,bU hb (by omega),h0⟩,fun h2=>?_,fun h2=>⟨⟨i.1+1,by omega,?_⟩,by simp only;omega,?_⟩⟩,fun h1=>?_⟩
 ·exact(RD (d:=[]) (by omega) i.2.2 h2).symm
 ·rw[lW (d:=[]) (by omega),i.2.2,h2];rfl
 ·rw[aP (by omega) (by omega)];rfl
 ·have h3:=i.2.2
  rw[jv (by omega)] at h3
  exact(a0p h3).symm
noncomputable def c3W:Ctr:=⟨[tMR,.clo 242 (.pair (.ref tMR) .unit)],[tB],fun x=>(show MR from x.1).length<=1000000/\(∀ r ∈ (show MR from x.1),BG r)/\0<(show MR from x.2.1.1).length,fun x=>((show MR from x.1).any (badR (wdM (show MR from x.2.1.1))),())⟩
theorem b3o:aI Tryz.prog 82 c3W:=by
 refine kS ((nil0.ad QH).ad b3U) [] Tryz.func82 rfl (by decide) (fun x=>[]) (fun x hp=>?_)
 obtain⟨x,⟨a,c⟩,u⟩:=x
 change List (List aH) at x
 change List (List aH) at a
 refine aU (((List.length x<=1000000/\(∀ (r:List aH),r ∈ x->BG r)/\0<List.length a)/\True)/\True/\decide (yO (badR (wdM a)) x ≥ 0)=List.any x (badR (wdM a))/\True) (by kernel_rfl) ?_
 exact⟨⟨hp,trivial⟩,trivial,RF _ _,trivial⟩
def rU (a:MR):Int:=if 1<=a.length/\a.length<=64/\1<=wdM a/\wdM a<=64/\a.any (badR (wdM a))=false then 0 else 1
def xZ (a:MR):Prop:=a.length<=1000000/\∀ r ∈ a,BG r
noncomputable def c3R:Ctr:=⟨[tMR],[tI],fun x=>xZ x.1,fun x=>(rU x.1,())⟩
theorem FC:aI Tryz.prog 167 c3R:=by
 refine kS ((nil0.ad QH).ad b3o) [] Tryz.func167 rfl (by decide) (fun x=>[]) (fun x hp=>?_)
 obtain⟨a,u⟩:=x
 change List (List aH) at a
 refine aU (let A₂:=(aB a.length<1);let aT:=(List.getD a 0 (aF aH)).length;let bV:=(aB a.length > 64);let A₀:=(bif bif decide A₂ then true else decide bV then true else decide (aB aT<1));let aJ:=((A₀==false)=true->(A₀==false)=true/\True);let dH:=((decide A₂==false)=true->(decide A₂==false)=true/\True);let eP:=(bif decide A₂ then true else decide bV);let A₁:=(eP==false);let dD:=(A₁=true->A₁=true/\True);(dH/\dH/\(decide A₂=false->(decide A₂==false)=true)/\(A₁=true->A₁=true/\asT Int 0<=0/\0<aB a.length/\True)/\dD/\dD/\dD/\(eP=false->A₁=true)/\((A₀==false)=true->(A₀==false)=true/\asT Int 0<=0/\0<aB a.length/\True)/\aJ/\aJ/\aJ/\(A₀=false->(A₀==false)=true)/\True)/\ifB (bif bif bif decide A₂ then true else decide bV then true else decide (aB aT<1) then true else decide (aB aT > 64)) (True/\1=rU a/\True) (((List.length a<=1000000/\(∀ (r:List aH),r ∈ a->BG r)/\0<List.length a)/\True)/\ifB (List.any a (badR (wdM a))) (True/\1=rU a/\True) (True/\0=rU a/\True))) (by kernel_rfl) ?_
 dsimp only[aB,asT,aA,aF] at *
 simp only[Int.toNat_natCast,aC,aj,ah,jh,jg]
 have eL:∀ n:Nat,decide ((n:Int)<1)=decide (n<1):=fun n=>decide_eq_decide.mpr (by omega)
 have eG:∀ n:Nat,decide ((n:Int) > 64)=decide (n > 64):=fun n=>decide_eq_decide.mpr (by omega)
 rw[eL,eG,eL,eG]
 have g1:decide (a.length<1)=false->0<(a.length:Int):=fun h=>by have:=ug h;omega
 have g2:rU a=bif (decide (a.length<1) || decide (a.length > 64) || decide ((a.getD 0 []).length<1) || decide ((a.getD 0 []).length > 64) || a.any (badR (wdM a))) then 1 else 0:=by
  unfold rU
  by_cases h1:a.length<1
  ·rw[ji (by omega),uf h1];rfl
  ·by_cases h2:a.length > 64
   ·rw[ji (by omega),uf h2];simp
   ·by_cases h3:(a.getD 0 []).length<1
    ·rw[ji (fun h=>by have:=h.2.2.1;unfold wdM at this;omega),uf h3];simp
    ·by_cases h4:(a.getD 0 []).length > 64
     ·rw[ji (fun h=>by have:=h.2.2.2.1;unfold wdM at this;omega),uf h4];simp
     ·rw[ny h1,ny h2,ny h3,ny h4]
      cases h5:a.any (badR (wdM a))
      ·rw[jm ⟨by omega,by omega,by unfold wdM;omega,by unfold wdM;omega,rfl⟩];rfl
      ·rw[ji (fun h=>Bool.noConfusion h.2.2.2.2)];rfl
 have hl:a.length<=1000000:=hp.1
 have hr:∀ r,r ∈ a->BG r:=hp.2
 rw[g2]
 have g4:decide (a.length<1)=true->(a.length:Int)<1:=fun h=>by have:=qw h;omega
 have g3:(decide (a.length<1)=false->0<a.length):=fun h=>by have:=ug h;omega
 generalize decide (a.length<1)=b1 at *
 generalize decide (a.length > 64)=b2 at *
 generalize decide ((a.getD 0 []).length<1)=b3 at *
 generalize decide ((a.getD 0 []).length > 64)=b4 at *
 generalize a.any (badR (wdM a))=b5 at *
 clear eL eG g2
 cases b1
 ·have k1:=g1 rfl
  have k3:=g3 rfl
  cases b2<;>cases b3<;>cases b4<;>cases b5<;>simp[k1,k3,hl]<;>exact hr
 ·simp[g4 rfl]
set_option maxHeartbeats 2000000
theorem OC {P:Program} {ops:Array Oper} {o:Oper} {a:Act} {w:World} {K:Act->World->Prop} {Q:Exit->Act->World->Prop} {E:Prop}
  (hg:o.guard=none) (s x:Operand) (t:TypeId) (hop:o.op=Op.call { callee:=Callee.builtin Builtin.append,args:=#[s,x],argTypes:=#[t,t] })
  (base:Nat) (e:TypeId) (i:TypeInfo) (z:Value) (size bytes:Nat) (h1:P.underlying t=some (.slice e)) (h2:P.info? e=some i) (h3:i.zero=some z) (h4:i.size=size) (h5:i.bytes=bytes) (h6:z.cells.size=size) (h7:0<size)
  (v:Value) (n:Nat) (xs:List Value) (hs:a.eval s=v) (hown:w.ownsRow base e size v n xs)
  (ad:Addr) (m c:Nat) (news:List Value) (hx:a.eval x=.slice (some ad) m c) (hn:news.length=m*size) (hc:∀ j u,news[j]?=some u->w.cell? (ad.add j)=some u) (h1c:∀ u ∈ news,u.oneCell'=true)
  (b1:n+m<=maxLen) (b2:(n+m)*bytes<=140737488355328) (hbase:base<=w.heap.size)
  (hK:∀ v' w',w'.ownsRow base e size v' (n+m) (xs++news)->w.grownBy w' v.ownBlock->(v'=.slice none 0 0↔v=.slice none 0 0/\m=0)->K (a.put o.dst v') w') :
  if Region.wanted o (yielded ops a.tmps)=true then Oper.wp P o a w K Q else E:=by
 have hw:Region.wanted o (yielded ops a.tmps)=true:=by simp[Region.wanted,hg]
 rw[jm hw]
 exact wp_append_own w s x t hop base e i z size bytes h1 h2 h3 h4 h5 h6 h7 v n xs hs hown ad m c news hx hn hc h1c b1 b2 hbase hK
theorem JV {P:Program} {ops:Array Oper} {o:Oper} {a:Act} {w:World} {K:Act->World->Prop} {Q:Exit->Act->World->Prop} {E:Prop}
  (hg:o.guard=none) (s x:Operand) (t:TypeId) (hop:o.op=Op.call { callee:=Callee.builtin Builtin.append,args:=#[s,x],argTypes:=#[t,t] })
  (e:TypeId) (i:TypeInfo) (h1:P.underlying t=some (.slice e)) (h2:P.info? e=some i)
  (b:Addr) (hs:a.eval s=.slice (some b) 0 0) {q:Option Addr} (hx:a.eval x=.slice q 0 0)
  (hK:K (a.put o.dst (.slice (some b) 0 0)) w) :
  if Region.wanted o (yielded ops a.tmps)=true then Oper.wp P o a w K Q else E:=by
 have hw:Region.wanted o (yielded ops a.tmps)=true:=by simp[Region.wanted,hg]
 rw[jm hw]
 have hrun:(Builtin.append_ #[t,t] o.type #[.slice (some b) 0 0,.slice q 0 0]).run P w=.ok (.slice (some b) 0 0) w:=by
  cases q<;>simp[Builtin.append_,qo h1,sizeOf,typeInfo,h2,Builtin.lenOf,Builtin.firstCells,loadCells,loadCellsFrom,jq,storeCells]
 unfold Oper.wp
 simp[execOp,hop,resolve,invoke,builtin,hs,hx,hrun,Result.andThen]
 exact hK
theorem a8l {neg:Bool} {l:List Nat} {k:Nat} (hk:k<l.length) (h:1000000000<=gr l k):KD neg l=false:=by
 cases hv:KD neg l with
 | false=>rfl
 | true =>
  have:=(KE.1 hv).1.1 _ (a9P hk)
  rw[bM] at this
  omega
theorem a8k {neg:Bool} {l:List Nat} (hl:l≠[]) (h:∀ j,j<l.length->gr l j<1000000000):KD neg l=((gr l (l.length-1):Int) != 0):=by
 rw[a1n hl]
 have:(l.any fun g=>decide (1000000000<=g))=false:=by
  rw[List.any_eq_false]
  intro g hg
  obtain⟨i,hi,rfl⟩:=Df hg
  have:=h i hi
  rw[pK hi] at this
  simp;omega
 rw[this,Bool.eq_iff_iff]
 simp
theorem xW (v:Value) (ok:Bool) (x:Int) (w:World) (h:kN w v ok x) :
  Calls Tryz.prog 129 #[v] w fun e w'=>e=.returned (.bool ok)/\Below w.heap.size w w':=by
 obtain⟨neg,s,l,rfl,hs,hb,hx,hok⟩:=h
 have HOK:=je hok
 clear hok hx hb
 rcases hs with⟨p,rfl,rfl⟩|⟨b,o,c,rfl,h2,h3,h4,h5⟩
 ·go_enter Tryz.func129,Tryz.ntmps129
  go_wp2
  go_loop [4,8,9,10,11,12,13,14,15,16,17,18] (fun i _ _ _ _ _ _ _ _ _ _ _=>i=.int .i64 0) (fun _ _ _ _ _ _ _ _ _ _ _ _=>0)
  case atStart=>rfl
  case round =>
   subst hrel
   go_wp2
   go_ret
   exact⟨uG (by rw[HOK.out,wR]),(jo _ _).alloc (ay _) _⟩
 ·have H5:=je h5
  have hl:l.length<=9223372036854775807:=by omega
  clear h5
  go_enter Tryz.func129,Tryz.ntmps129
  go_wp2
  go_loop [4,8,9,10,11,12,13,14,15,16,17,18] (fun i _ _ _ _ _ _ _ _ _ _ _=>∃ k:Nat,k<=l.length/\i=.int .i64 k/\Hid (∀ j,j<k->gr l j<1000000000)) (fun i _ _ _ _ _ _ _ _ _ _ _=>l.length-(intOf i).toNat)
  case atStart=>exact⟨0,by omega,rfl,fun j hj=>by omega⟩
  case round =>
   obtain⟨k,hk,rfl,hj⟩:=hrel
   by_cases hlt:k<l.length
   ·have hc:=H5.out k hlt
    by_cases hg:1000000000<=gr l k
    ·have HF:=je (a8l (neg:=neg) hlt hg)
     have hg2:decide ((1000000000:Int)<=gr l k)=true:=by simp;omega
     go_wp2
     go_ret
     exact⟨uG (by rw[HOK.out,HF.out]),(jo _ _).alloc (ay _) _⟩
    ·have hg3:gr l k<1000000000:=by omega
     have hg2:decide ((1000000000:Int)<=gr l k)=false:=by simp;omega
     have HG:=je hg3
     clear hg
     go_wp2
     go_round
     case rel=>exact⟨k+1,by omega,by go_num,fun j h=>if e:j<k then hj.out j e else by rw[show j=k by omega];exact HG.out⟩
     case measure=>simp[intOf]<;>omega
   ·obtain rfl:k=l.length:=by omega
    by_cases hz:l=[]
    ·subst hz
     go_wp2
     go_ret
     exact⟨uG (by rw[HOK.out];rfl),(jo _ _).alloc (ay _) _⟩
    ·have hp:0<l.length:=yj.2 hz
     have HD:=je (a8k (neg:=neg) hz hj.out)
     have hc:=H5.out (l.length-1) (by omega)
     have hidx:((l.length:Int)-1).toNat=l.length-1:=by omega
     have hne:((l.length:Int)==0)=false:=by simp;omega
     go_wp2
     go_ret
     exact⟨uG (by rw[HOK.out,HD.out]),(jo _ _).alloc (ay _) _⟩
theorem dX.a1q {w:World} {b:Nat} (h:b<w.heap.size):dX w (.agg #[.bool false,.slice (some ⟨b,0,none⟩) 0 0]) 0:=by
 refine⟨.slice (some ⟨b,0,none⟩) 0 0,by simp,.inr ⟨b,0,0,by simp[dY],by simp[dY],by omega,h,fun i hi=>?_⟩⟩
 simp[dY] at hi
theorem a7Z (v:Value) (x:Int) (w:World) (h:kN w v false x) :
  Calls Tryz.prog 164 #[v] w (DR x w):=by
 obtain⟨b,p,n,c,rfl⟩:=h.raw.form
 have HX:=je h.zero
 have OB:Below w.heap.size w w:=jo _ _
 go_enter Tryz.func164,Tryz.ntmps164
 go_wp2_with fail
 obtain⟨hA1,h0,f0⟩:=bx2 w rfl [.bool b,.slice p n c] 45 [.bool false,.slice none 0 0] 45
 have g0:=(h.below hA1)
 (with_reducible refine(xW _ _ _ _ g0).mono ?_)
 rintro e w1 ⟨rfl,hb1⟩
 have qF:=(f0.to hb1)
 obtain⟨a0,c0,b0,d0⟩:=qF.cf2
 have e0:=(Below.tr (Below.tr OB hA1) hb1)
 go_wp2_with fail
 exact yh (v:=.agg #[.bool false,.slice none 0 0]) (by simp[results,Tryz.results164,go_sem,a0,c0,b0,d0]) rfl ⟨_,rfl,by rw[HX.out];exact dX.zero _,(Below.fP e0 (b:=w.heap.size+1) (by omega) (.bool false) (.slice none 0 0))⟩
theorem a7Y (x:Int) (w:World) (b:Bool) (g o n c:Nat) (h:dX w (.agg #[.bool b,.slice (some ⟨g,o,none⟩) n c]) x) (hg:g<w.heap.size) (hc:∀ i,i<(dig x.natAbs).length->w.cell? ⟨g,o+i,none⟩=some (.int .u32 (gr (dig x.natAbs) i:Nat))) (hx:b=decide (x<0)) (hn:n=(dig x.natAbs).length) (hl:n<=1000000000) :
  Calls Tryz.prog 164 #[.agg #[.bool b,.slice (some ⟨g,o,none⟩) n c]] w (DR x w):=by
 obtain⟨i0,hi,hz0,hz1,hz2⟩:=Ah gI
 have HC:=je hc
 have HX:=je hx
 have HN:=je hn
 clear hc hx hn
 have OB:Below w.heap.size w w:=jo _ _
 go_enter Tryz.func164,Tryz.ntmps164
 go_wp2_with fail
 obtain⟨hA1,e0,g0⟩:=bx2 w rfl [.bool b,.slice (some ⟨g,o,none⟩) n c] 45 [.bool false,.slice none 0 0] 45
 have j0:=(h.below hA1).a7P
 (with_reducible refine(xW _ _ _ _ j0).mono ?_)
 rintro e w1 ⟨rfl,hb1⟩
 have xP:=(e0.to hb1)
 have qF:=(g0.to hb1)
 have b0:=(Below.tr (Below.tr OB hA1) hb1)
 have h_1:=((h.below hA1).below hb1)
 have q0d:=(xP).drew
 have q1d:=(qF).drew
 have hBd:=(b0).drew
 have q1a:=((qF).alloc (.cells #[] 148)).drew
 have a0:=q1a.c0
 have a1:=q1a.c1
 have a2:=q1a.f0
 have a3:=q1a.f1
 have d0:=(qF).c0
 have d1:=(qF).c1
 have d2:=(qF).f0
 have d3:=(qF).f1
 have d4:=(qF).1
 have d5:=(xP).1
 have hRd:=(h_1).drew
 have S0:(fun w':World=>w'.cell? ⟨w.heap.size,0,none⟩=some (.bool b)/\w'.cell? ⟨w.heap.size,1,none⟩=some (.slice (some ⟨g,o,none⟩) n c)/\w.heap.size+1<w'.heap.size) w1.drew:=⟨q0d.c0,q0d.c1,q1d.1⟩
 have S1:(fun w':World=>w'.cell? ⟨w.heap.size,0,none⟩=some (.bool b)/\w'.cell? ⟨w.heap.size,1,none⟩=some (.slice (some ⟨g,o,none⟩) n c)/\w.heap.size+1<w'.heap.size) (w1.alloc (.cells #[] 148)).drew:=⟨((xP).alloc (.cells #[] 148)).drew.c0,((xP).alloc (.cells #[] 148)).drew.c1,((qF).alloc (.cells #[] 148)).drew.1⟩
 have S2:∀ x0 x1:Value,(fun w':World=>w'.cell? ⟨w.heap.size,0,none⟩=some (.bool b)/\w'.cell? ⟨w.heap.size,1,none⟩=some (.slice (some ⟨g,o,none⟩) n c)/\w.heap.size+1<w'.heap.size) (((w1.setCell ⟨w.heap.size+1,0,none⟩ x0).setCell ⟨w.heap.size+1,1,none⟩ x1).alloc (.cells #[] 148)).drew:=fun x0 x1=>⟨(((xP).vV (b:=w.heap.size+1) (by omega) x0 x1).alloc (.cells #[] 148)).drew.c0,(((xP).vV (b:=w.heap.size+1) (by omega) x0 x1).alloc (.cells #[] 148)).drew.c1,(((qF).store2 x0 x1).alloc (.cells #[] 148)).drew.1⟩
 have K:∀ A B:World,(fun w':World=>w'.cell? ⟨w.heap.size,0,none⟩=some (.bool b)/\w'.cell? ⟨w.heap.size,1,none⟩=some (.slice (some ⟨g,o,none⟩) n c)/\w.heap.size+1<w'.heap.size) A->Below A.heap.size A B->(fun w':World=>w'.cell? ⟨w.heap.size,0,none⟩=some (.bool b)/\w'.cell? ⟨w.heap.size,1,none⟩=some (.slice (some ⟨g,o,none⟩) n c)/\w.heap.size+1<w'.heap.size) B:=by
  rintro A B ⟨h0,h1,h2⟩ hb
  have hs:=hb.size
  exact⟨by rw[(iQ hb).1 _ _ (by omega)];exact h0,by rw[(iQ hb).1 _ _ (by omega)];exact h1,by omega⟩
 have KS:∀ (A:World) (x0 x1:Value),(fun w':World=>w'.cell? ⟨w.heap.size,0,none⟩=some (.bool b)/\w'.cell? ⟨w.heap.size,1,none⟩=some (.slice (some ⟨g,o,none⟩) n c)/\w.heap.size+1<w'.heap.size) A->(fun w':World=>w'.cell? ⟨w.heap.size,0,none⟩=some (.bool b)/\w'.cell? ⟨w.heap.size,1,none⟩=some (.slice (some ⟨g,o,none⟩) n c)/\w.heap.size+1<w'.heap.size) ((A.setCell ⟨w.heap.size+1,0,none⟩ x0).setCell ⟨w.heap.size+1,1,none⟩ x1):=by
  rintro A x0 x1 ⟨h0,h1,h2⟩
  simp[go_sem,h0,h1,h2]
 go_wp2_with fail
 have tk1:True:=trivial
 go_region_held3 (fun w':World=>w'.cell? ⟨w.heap.size,0,none⟩=some (.bool b)/\w'.cell? ⟨w.heap.size,1,none⟩=some (.slice (some ⟨g,o,none⟩) n c)/\w.heap.size+1<w'.heap.size) (first|with_reducible exact S0|with_reducible exact S1|with_reducible exact S2 _ _|with_reducible exact K _ _ S0 (by assumption)|with_reducible exact K _ _ (by assumption) ((jo _ _).alloc (ay _) _)|with_reducible exact KS _ _ _ (by assumption)|(simp;done))
  (first
   | ((have:=tk1);clear tk1;refine OC rfl _ _ 43 rfl w1.drew.heap.size 148 i0 (.int .u32 0) 1 4 og hi hz0 hz1 hz2 rfl (by decide) _ _ _ rfl (World.ownsRow_made w1.drew #[] 0 (ay _) (by simp[maxLen]) (by simp)) ⟨g,o,none⟩ n c (cells32 (dig x.natAbs)) rfl (by rw[HN.out];exact iG _) (mW fun i hi=>(zy _ _ ⟨g,o+i,none⟩ (qg hg hBd.size)).trans ((hBd.cell (p:=⟨g,o+i,none⟩) hg).trans (HC.out i hi))) (kQ _) (by unfold maxLen;omega) (by omega) (by simp) ?_;intro v2 w2 hown hgrow _;have hbw:Below w1.drew.heap.size w1.drew w2:=((jo _ _).alloc (ay _) _).grown hgrow (by simp) (fun j e=>Nat.le_of_eq (Option.some.inj e));have hR2:=Rd.dK (l:=dig x.natAbs) (by rw[<-HN.out];simpa using hown);obtain⟨p2,c2,rfl,_,_⟩:=hR2.form;have q1w:=q1d.to hbw;have r0:=q1w.c0;have r1:=q1w.c1;have f0:=q1w.f0;have f1:=q1w.f1))
 go_wp2_with fail
 exact yh (v:=.agg #[.bool b,.slice p2 (dig x.natAbs).length c2]) (by simp[results,Tryz.results164,go_sem,r0,r1]) rfl ⟨_,rfl,dX.fP ⟨_,by rw[HX.out],hR2⟩ q1w rfl rfl _ _,Below.fP (Below.tr hBd hbw) (by omega) _ _⟩
theorem a4r (p:Option Addr) (w:World) (h:dX w (.agg #[.bool false,.slice p 0 0]) 0) :
  Calls Tryz.prog 164 #[.agg #[.bool false,.slice p 0 0]] w (DR 0 w):=by
 obtain⟨i0,hi,hz0,hz1,hz2⟩:=Ah gI
 have OB:Below w.heap.size w w:=jo _ _
 go_enter Tryz.func164,Tryz.ntmps164
 go_wp2_with fail
 obtain⟨hA1,e0,g0⟩:=bx2 w rfl [.bool false,.slice p 0 0] 45 [.bool false,.slice none 0 0] 45
 have j0:=(h.below hA1).a7P
 (with_reducible refine(xW _ _ (0:Int) _ j0).mono ?_)
 rintro e w1 ⟨rfl,hb1⟩
 have xP:=(e0.to hb1)
 have qF:=(g0.to hb1)
 have b0:=(Below.tr (Below.tr OB hA1) hb1)
 have h_1:=((h.below hA1).below hb1)
 have q0d:=(xP).drew
 have q1d:=(qF).drew
 have hBd:=(b0).drew
 have q1a:=((qF).alloc (.cells #[] 148)).drew
 have a0:=q1a.c0
 have a1:=q1a.c1
 have a2:=q1a.f0
 have a3:=q1a.f1
 have d0:=(qF).c0
 have d1:=(qF).c1
 have d2:=(qF).f0
 have d3:=(qF).f1
 have d4:=(qF).1
 have d5:=(xP).1
 have hRd:=(h_1).drew
 have S0:(fun w':World=>w'.cell? ⟨w.heap.size,0,none⟩=some (.bool false)/\w'.cell? ⟨w.heap.size,1,none⟩=some (.slice p 0 0)/\w.heap.size+1<w'.heap.size) w1.drew:=⟨q0d.c0,q0d.c1,q1d.1⟩
 have S1:(fun w':World=>w'.cell? ⟨w.heap.size,0,none⟩=some (.bool false)/\w'.cell? ⟨w.heap.size,1,none⟩=some (.slice p 0 0)/\w.heap.size+1<w'.heap.size) (w1.alloc (.cells #[] 148)).drew:=⟨((xP).alloc (.cells #[] 148)).drew.c0,((xP).alloc (.cells #[] 148)).drew.c1,((qF).alloc (.cells #[] 148)).drew.1⟩
 have S2:∀ x0 x1:Value,(fun w':World=>w'.cell? ⟨w.heap.size,0,none⟩=some (.bool false)/\w'.cell? ⟨w.heap.size,1,none⟩=some (.slice p 0 0)/\w.heap.size+1<w'.heap.size) (((w1.setCell ⟨w.heap.size+1,0,none⟩ x0).setCell ⟨w.heap.size+1,1,none⟩ x1).alloc (.cells #[] 148)).drew:=fun x0 x1=>⟨(((xP).vV (b:=w.heap.size+1) (by omega) x0 x1).alloc (.cells #[] 148)).drew.c0,(((xP).vV (b:=w.heap.size+1) (by omega) x0 x1).alloc (.cells #[] 148)).drew.c1,(((qF).store2 x0 x1).alloc (.cells #[] 148)).drew.1⟩
 have K:∀ A B:World,(fun w':World=>w'.cell? ⟨w.heap.size,0,none⟩=some (.bool false)/\w'.cell? ⟨w.heap.size,1,none⟩=some (.slice p 0 0)/\w.heap.size+1<w'.heap.size) A->Below A.heap.size A B->(fun w':World=>w'.cell? ⟨w.heap.size,0,none⟩=some (.bool false)/\w'.cell? ⟨w.heap.size,1,none⟩=some (.slice p 0 0)/\w.heap.size+1<w'.heap.size) B:=by
  rintro A B ⟨h0,h1,h2⟩ hb
  have hs:=hb.size
  exact⟨by rw[(iQ hb).1 _ _ (by omega)];exact h0,by rw[(iQ hb).1 _ _ (by omega)];exact h1,by omega⟩
 have KS:∀ (A:World) (x0 x1:Value),(fun w':World=>w'.cell? ⟨w.heap.size,0,none⟩=some (.bool false)/\w'.cell? ⟨w.heap.size,1,none⟩=some (.slice p 0 0)/\w.heap.size+1<w'.heap.size) A->(fun w':World=>w'.cell? ⟨w.heap.size,0,none⟩=some (.bool false)/\w'.cell? ⟨w.heap.size,1,none⟩=some (.slice p 0 0)/\w.heap.size+1<w'.heap.size) ((A.setCell ⟨w.heap.size+1,0,none⟩ x0).setCell ⟨w.heap.size+1,1,none⟩ x1):=by
  rintro A x0 x1 ⟨h0,h1,h2⟩
  simp[go_sem,h0,h1,h2]
 go_wp2_with fail
 go_region_held3 (fun w':World=>w'.cell? ⟨w.heap.size,0,none⟩=some (.bool false)/\w'.cell? ⟨w.heap.size,1,none⟩=some (.slice p 0 0)/\w.heap.size+1<w'.heap.size) (first|with_reducible exact S0|with_reducible exact S1|with_reducible exact S2 _ _|with_reducible exact K _ _ S0 (by assumption)|with_reducible exact K _ _ (by assumption) ((jo _ _).alloc (ay _) _)|with_reducible exact KS _ _ _ (by assumption)|(simp;done))
  (refine JV rfl _ _ 43 rfl 148 i0 og hi _ rfl rfl ?_)
 go_wp2_with fail
 exact yh (v:=.agg #[.bool false,.slice (some ⟨w1.heap.size,0,none⟩) 0 0]) (by simp[results,Tryz.results164,go_sem,d0,d1,d2,d3,d4]) rfl ⟨_,rfl,dX.a1q (by simp[World.setCell]),(Below.al (Below.fP b0 (by omega) _ _) _).drew⟩
theorem UK (v:Value) (ok:Bool) (x:Int) (w:World) (h:kN w v ok x) (hl:isz x<=1000000000) :
  Calls Tryz.prog 164 #[v] w (DR x w):=by
 cases ok
 ·exact a7Z v x w h
 ·have hi:=h.int
  obtain⟨s,rfl,hs⟩:=hi
  rcases hs with⟨p,rfl,h0⟩|⟨b,o,c,rfl,h2,h3,h4,h5⟩
  ·have hx:x=0:=by have:=iH.1 h0;omega
   subst hx
   exact a4r p w (h.int)
  ·exact a7Y x w _ b o _ c h.int h4 h5 rfl rfl hl
theorem a4q (v:Value) (x:Int) (w:World) (h:dX w v x) (hl:isz x<=1000000000) :
 Calls Tryz.prog 164 #[v] w (DR x w):=UK v true x w h.a7P hl
theorem Raw.toV {w:World} {v:Value} {x:Int} (h:Raw w v x):∃ ok,kN w v ok x:=by
 obtain⟨neg,s,l,h1,h2,h3,h4⟩:=h
 exact⟨_,neg,s,l,h1,h2,h3,h4,rfl⟩
theorem JL (v:Value) (x:Int) (w:World) (h:Raw w v x) (hl:isz x<=1000000000) :
  Calls Tryz.prog 164 #[v] w (DR x w):=by
 obtain⟨ok,h⟩:=h.toV
 exact UK v ok x w h hl
theorem rQ {P:Program} {w:World} {ops:Array Oper} {rest:List Oper} {o:Oper} {a:Act} {Q:Exit->Act->World->Prop} (hgd:o.guard=none) (s x:Operand) (t:TypeId)
  (hop:o.op=Op.call { callee:=Callee.builtin Builtin.append,args:=#[s,x],argTypes:=#[t,t] })
  (e:TypeId) (i:TypeInfo) (h1:P.underlying t=some (.slice e)) (h2:P.info? e=some i)
  (b:Addr) (hs:a.eval s=.slice (some b) 0 0) {q:Option Addr} (hx:a.eval x=.slice q 0 0)
  (h:wpList P ops Q rest (a.put o.dst (.slice (some b) 0 0)) w):wpList P ops Q (o::rest) a w :=
 wpList_plain hgd fun _ hK=>by
  have hrun:(Builtin.append_ #[t,t] o.type #[.slice (some b) 0 0,.slice q 0 0]).run P w=.ok (.slice (some b) 0 0) w:=by
   cases q<;>simp[Builtin.append_,qo h1,sizeOf,typeInfo,h2,Builtin.lenOf,Builtin.firstCells,loadCells,loadCellsFrom,jq,storeCells]
  unfold Oper.wp
  simp[execOp,hop,resolve,invoke,builtin,hs,hx,hrun,Result.andThen]
  exact hK _ _ h
theorem CO (W:World):(W.alloc (.cells #[] 148)).ownsRow W.heap.size 148 1 (.slice (some ⟨W.heap.size,0,none⟩) 0 0) 0 []:=World.ownsRow_made W #[] 0 (ay _) (by simp[maxLen]) (by simp)
theorem wE (w:World) (cs:List Value) (T:TypeId):((w.alloc (.cells cs.toArray T)).alloc (.cells #[] 148)).ownsRow (w.heap.size+1) 148 1 (.slice (some ⟨w.heap.size+1,0,none⟩) 0 0) 0 []:=by simpa using CO (w.alloc (.cells cs.toArray T))
theorem CY {w:World} {p:Option Addr} {c k:Nat} {l:List Nat} {flag neg:Bool} {L:List Nat} (hLq:l.take k=L) (hR:Rd w (.slice p L.length c) L) (hL:Low l) (hz:val (l.take k)=val l) (hf:(k=0/\flag=false)\/(0<k/\k<=l.length/\gr l (k-1)≠0/\flag=neg)) :
  dX w (.agg #[.bool flag,.slice p L.length c]) (sg neg (val l)):=by
 subst hLq
 have ht:dig (val l)=l.take k:=by
  rcases hf with⟨rfl,_⟩|⟨h0,h1,h2,_⟩
  ·exact yD hL (uq _) hz (.inl rfl)
  ·exact yD hL h1 hz (.inr h2)
 refine⟨_,?_,by rw[a4u,ht];exact hR⟩
 rcases hf with⟨rfl,rfl⟩|⟨h0,h1,h2,rfl⟩
 ·have:val l=0:=by rw[<-hz];simp[val]
  rw[this,a1b];simp
 ·have:val l≠0:=fun e=>by
   rw[e,dY] at ht
   have:=vg List.length ht
   rw[ni] at this
   simp at this;omega
  rw[b2j this]
def a8w (x:Int) (w:World) (e:Ending) (w':World):Prop:=∃ g p n c,e=.returned (.agg #[.bool g,.slice p n c])/\dX w' (.agg #[.bool g,.slice p n c]) x/\(∀ k,(Value.slice p n c).ownBlock=some k->w.heap.size<=k)/\Below w.heap.size w w'
def a8x (l:List Nat) (w:World) (e:Ending) (w':World):Prop:=∃ s,e=.returned s/\Rd w' s l/\(∀ k,s.ownBlock=some k->w.heap.size<=k)/\Below w.heap.size w w'
theorem a4k (s:Value) (l:List Nat) (w:World) (hs:Rd w s l) (hl:Low l) (hn:l.length<=2000000001) :
  Calls Tryz.prog 115 #[.bool true,s] w (a8w (sg true (val l)) w):=by
 obtain⟨i0,hi,hz0,hz1,hz2⟩:=Ah gI
 have HL:=je hl
 clear hl
 rcases hs with⟨p,rfl,rfl⟩|⟨b,o,c,rfl,h2,h3,h4,h5⟩
 ·go_enter Tryz.func115,Tryz.ntmps115
  go_wp2
  go_loop [5,8,9,10,11,12,13,14,15,16,17,18,19] (fun n _ _ _ _ _ _ _ _ _ _ _ _=>n=.int .i64 0) (fun n _ _ _ _ _ _ _ _ _ _ _ _=>0)
  case atStart=>rfl
  case round =>
   subst hrel
   go_wp2_with (at_builtin;refine rQ rfl _ _ 43 rfl 148 i0 og hi _ rfl rfl ?_)
   exact yh (v:=.agg #[.bool false,.slice (some ⟨w.heap.size+1,0,none⟩) 0 0]) (by simp[results,Tryz.results115,go_sem]) rfl ⟨_,_,_,_,rfl,by simpa [val,sg] using dX.a1q (by simp),fun k hk=>by simp[Value.ownBlock] at hk;omega,((jo _ _).alloc (ay _) _).alloc (by simp) _⟩
 ·have H5:=je h5
  clear h5
  go_enter Tryz.func115,Tryz.ntmps115
  go_wp2
  go_loop [5,8,9,10,11,12,13,14,15,16,17,18,19] (fun n _ _ _ _ _ _ _ _ _ _ _ _=>∃ k:Nat,k<=l.length/\n=.int .i64 (k:Nat)/\Hid (val (l.take k)=val l)) (fun n _ _ _ _ _ _ _ _ _ _ _ _=>(intOf n).toNat)
  case atStart=>exact⟨l.length,ay _,rfl,by simp[Hid]⟩
  case round =>
   obtain⟨k,hk,rfl,hz⟩:=hrel
   cases k with
   | zero =>
    have HK:Hid ((l.take 0).length=0):=by unfold Hid;simp
    obtain⟨L,hL⟩:∃ L,l.take (0)=L:=⟨_,rfl⟩
    have HLn:Hid (L.length=0):=by rw[<-hL];exact HK.out
    have HCL:Hid (∀ i,i<L.length->w.cell? ⟨b,o+i,none⟩=some (.int .u32 (gr L i:Nat))):=fun i hi=>by
     have hi2:i<0:=by have:=HLn.out;omega
     rw[<-hL,CP hi2]
     exact H5.out i (by omega)
    have HLq:=je hL
    clear hL HK
    go_wp2_with (at_builtin;refine yx _ rfl _ _ 43 rfl (w.heap.size+1) 148 i0 (.int .u32 0) 1 4 og hi hz0 hz1 hz2 rfl (by decide) _ _ _ rfl (wE w [.bool false,.slice none 0 0] 45) ⟨b,o,none⟩ (0) c (cells32 L) rfl (by rw[iG,HLn.out]) (mW fun i hi=>(zy _ _ ⟨b,o+i,none⟩ (by simp;omega)).trans ((zy _ _ ⟨b,o+i,none⟩ h4).trans (HCL.out i hi))) (kQ _) (by unfold maxLen;omega) (by omega) (by simp) ?_)
    intro v' w1 hown hgrow _
    have hbw:Below (w.heap.size+1) (w.alloc (.cells #[.bool false,.slice none 0 0] 45)) w1:=((jo _ _).alloc (by simp) _).grown hgrow (by simp) (fun j e=>Nat.le_of_eq (Option.some.inj e))
    have hR:=Rd.dK (l:=L) (by rw[HLn.out];simpa using sD hown (uq _))
    obtain⟨p2,c2,rfl,_,_⟩:=hR.form
    have q1:=(Bx.new w [.bool false,.slice none 0 0] 45).below hbw (by omega)
    have r0:=q1.c0
    have r1:=q1.c1
    have f0:=q1.f0
    have f1:=q1.f1
    go_wp2
    exact yh (v:=.agg #[.bool false,.slice p2 L.length c2]) (by simp[results,Tryz.results115,go_sem,r0,r1]) rfl ⟨_,_,_,_,rfl,dX.fP (CY (neg:=true) (flag:=false) HLq.out hR HL.out hz.out (.inl ⟨rfl,rfl⟩)) q1 rfl rfl _ _,fun k hk=>Nat.le_of_succ_le (hown.lt k hk).1,Below.fP (((jo _ _).alloc (ay _) _).trans (hbw.mono (by simp))) (ay _) _ _⟩
   | succ k =>
    have hc:=H5.out k (by omega)
    by_cases hg:gr l k=0
    ·have HV:=je (vX (by omega) hg)
     rw[hg] at hc
     have HG:=je hg
     clear hg
     go_wp2
     go_round
     case rel=>exact⟨k,by omega,by go_num,by unfold Hid;rw[HV.out,hz.out]⟩
     case measure=>simp[intOf]
    ·have hg':((gr l k:Int)==0)=false:=by simp;omega
     have HG:=je hg
     clear hg
     have HK:Hid ((l.take (k+1)).length=k+1):=by unfold Hid;rw[ni];omega
     obtain⟨L,hL⟩:∃ L,l.take (k+1)=L:=⟨_,rfl⟩
     have HLn:Hid (L.length=k+1):=by rw[<-hL];exact HK.out
     have HCL:Hid (∀ i,i<L.length->w.cell? ⟨b,o+i,none⟩=some (.int .u32 (gr L i:Nat))):=fun i hi=>by
      have hi2:i<k+1:=by have:=HLn.out;omega
      rw[<-hL,CP hi2]
      exact H5.out i (by omega)
     have HLq:=je hL
     clear hL HK
     go_wp2_with (at_builtin;refine yx _ rfl _ _ 43 rfl (w.heap.size+1) 148 i0 (.int .u32 0) 1 4 og hi hz0 hz1 hz2 rfl (by decide) _ _ _ rfl (wE w [.bool false,.slice none 0 0] 45) ⟨b,o,none⟩ (k+1) c (cells32 L) rfl (by rw[iG,HLn.out]) (mW fun i hi=>(zy _ _ ⟨b,o+i,none⟩ (by simp;omega)).trans ((zy _ _ ⟨b,o+i,none⟩ h4).trans (HCL.out i hi))) (kQ _) (by unfold maxLen;omega) (by omega) (by simp) ?_)
     intro v' w1 hown hgrow _
     have hbw:Below (w.heap.size+1) (w.alloc (.cells #[.bool false,.slice none 0 0] 45)) w1:=((jo _ _).alloc (by simp) _).grown hgrow (by simp) (fun j e=>Nat.le_of_eq (Option.some.inj e))
     have hR:=Rd.dK (l:=L) (by rw[HLn.out];simpa using sD hown (uq _))
     obtain⟨p2,c2,rfl,_,_⟩:=hR.form
     have q1:=(Bx.new w [.bool false,.slice none 0 0] 45).below hbw (by omega)
     have r0:=q1.c0
     have r1:=q1.c1
     have f0:=q1.f0
     have f1:=q1.f1
     go_wp2
     exact yh (v:=.agg #[.bool true,.slice p2 L.length c2]) (by simp[results,Tryz.results115,go_sem,r0,r1]) rfl ⟨_,_,_,_,rfl,dX.fP (CY (neg:=true) (flag:=true) HLq.out hR HL.out hz.out (.inr ⟨by omega,hk,HG.out,rfl⟩)) q1 rfl rfl _ _,fun k hk=>Nat.le_of_succ_le (hown.lt k hk).1,Below.fP (((jo _ _).alloc (ay _) _).trans (hbw.mono (by simp))) (ay _) _ _⟩
theorem a2N (s:Value) (l:List Nat) (w:World) (hs:Rd w s l) (hl:Low l) (hn:l.length<=2000000001) :
  Calls Tryz.prog 115 #[.bool false,s] w (a8w (sg false (val l)) w):=by
 obtain⟨i0,hi,hz0,hz1,hz2⟩:=Ah gI
 have HL:=je hl
 clear hl
 rcases hs with⟨p,rfl,rfl⟩|⟨b,o,c,rfl,h2,h3,h4,h5⟩
 ·go_enter Tryz.func115,Tryz.ntmps115
  go_wp2
  go_loop [5,8,9,10,11,12,13,14,15,16,17,18,19] (fun n _ _ _ _ _ _ _ _ _ _ _ _=>n=.int .i64 0) (fun n _ _ _ _ _ _ _ _ _ _ _ _=>0)
  case atStart=>rfl
  case round =>
   subst hrel
   go_wp2_with (at_builtin;refine rQ rfl _ _ 43 rfl 148 i0 og hi _ rfl rfl ?_)
   exact yh (v:=.agg #[.bool false,.slice (some ⟨w.heap.size+1,0,none⟩) 0 0]) (by simp[results,Tryz.results115,go_sem]) rfl ⟨_,_,_,_,rfl,by simpa [val,sg] using dX.a1q (by simp),fun k hk=>by simp[Value.ownBlock] at hk;omega,((jo _ _).alloc (ay _) _).alloc (by simp) _⟩
 ·have H5:=je h5
  clear h5
  go_enter Tryz.func115,Tryz.ntmps115
  go_wp2
  go_loop [5,8,9,10,11,12,13,14,15,16,17,18,19] (fun n _ _ _ _ _ _ _ _ _ _ _ _=>∃ k:Nat,k<=l.length/\n=.int .i64 (k:Nat)/\Hid (val (l.take k)=val l)) (fun n _ _ _ _ _ _ _ _ _ _ _ _=>(intOf n).toNat)
  case atStart=>exact⟨l.length,ay _,rfl,by simp[Hid]⟩
  case round =>
   obtain⟨k,hk,rfl,hz⟩:=hrel
   cases k with
   | zero =>
    have HK:Hid ((l.take 0).length=0):=by unfold Hid;simp
    obtain⟨L,hL⟩:∃ L,l.take (0)=L:=⟨_,rfl⟩
    have HLn:Hid (L.length=0):=by rw[<-hL];exact HK.out
    have HCL:Hid (∀ i,i<L.length->w.cell? ⟨b,o+i,none⟩=some (.int .u32 (gr L i:Nat))):=fun i hi=>by
     have hi2:i<0:=by have:=HLn.out;omega
     rw[<-hL,CP hi2]
     exact H5.out i (by omega)
    have HLq:=je hL
    clear hL HK
    go_wp2_with (at_builtin;refine yx _ rfl _ _ 43 rfl (w.heap.size+1) 148 i0 (.int .u32 0) 1 4 og hi hz0 hz1 hz2 rfl (by decide) _ _ _ rfl (wE w [.bool false,.slice none 0 0] 45) ⟨b,o,none⟩ (0) c (cells32 L) rfl (by rw[iG,HLn.out]) (mW fun i hi=>(zy _ _ ⟨b,o+i,none⟩ (by simp;omega)).trans ((zy _ _ ⟨b,o+i,none⟩ h4).trans (HCL.out i hi))) (kQ _) (by unfold maxLen;omega) (by omega) (by simp) ?_)
    intro v' w1 hown hgrow _
    have hbw:Below (w.heap.size+1) (w.alloc (.cells #[.bool false,.slice none 0 0] 45)) w1:=((jo _ _).alloc (by simp) _).grown hgrow (by simp) (fun j e=>Nat.le_of_eq (Option.some.inj e))
    have hR:=Rd.dK (l:=L) (by rw[HLn.out];simpa using sD hown (uq _))
    obtain⟨p2,c2,rfl,_,_⟩:=hR.form
    have q1:=(Bx.new w [.bool false,.slice none 0 0] 45).below hbw (by omega)
    have r0:=q1.c0
    have r1:=q1.c1
    have f0:=q1.f0
    have f1:=q1.f1
    go_wp2
    exact yh (v:=.agg #[.bool false,.slice p2 L.length c2]) (by simp[results,Tryz.results115,go_sem,r0,r1]) rfl ⟨_,_,_,_,rfl,dX.fP (CY (neg:=false) (flag:=false) HLq.out hR HL.out hz.out (.inl ⟨rfl,rfl⟩)) q1 rfl rfl _ _,fun k hk=>Nat.le_of_succ_le (hown.lt k hk).1,Below.fP (((jo _ _).alloc (ay _) _).trans (hbw.mono (by simp))) (ay _) _ _⟩
   | succ k =>
    have hc:=H5.out k (by omega)
    by_cases hg:gr l k=0
    ·have HV:=je (vX (by omega) hg)
     rw[hg] at hc
     have HG:=je hg
     clear hg
     go_wp2
     go_round
     case rel=>exact⟨k,by omega,by go_num,by unfold Hid;rw[HV.out,hz.out]⟩
     case measure=>simp[intOf]
    ·have hg':((gr l k:Int)==0)=false:=by simp;omega
     have HG:=je hg
     clear hg
     have HK:Hid ((l.take (k+1)).length=k+1):=by unfold Hid;rw[ni];omega
     obtain⟨L,hL⟩:∃ L,l.take (k+1)=L:=⟨_,rfl⟩
     have HLn:Hid (L.length=k+1):=by rw[<-hL];exact HK.out
     have HCL:Hid (∀ i,i<L.length->w.cell? ⟨b,o+i,none⟩=some (.int .u32 (gr L i:Nat))):=fun i hi=>by
      have hi2:i<k+1:=by have:=HLn.out;omega
      rw[<-hL,CP hi2]
      exact H5.out i (by omega)
     have HLq:=je hL
     clear hL HK
     go_wp2_with (at_builtin;refine yx _ rfl _ _ 43 rfl (w.heap.size+1) 148 i0 (.int .u32 0) 1 4 og hi hz0 hz1 hz2 rfl (by decide) _ _ _ rfl (wE w [.bool false,.slice none 0 0] 45) ⟨b,o,none⟩ (k+1) c (cells32 L) rfl (by rw[iG,HLn.out]) (mW fun i hi=>(zy _ _ ⟨b,o+i,none⟩ (by simp;omega)).trans ((zy _ _ ⟨b,o+i,none⟩ h4).trans (HCL.out i hi))) (kQ _) (by unfold maxLen;omega) (by omega) (by simp) ?_)
     intro v' w1 hown hgrow _
     have hbw:Below (w.heap.size+1) (w.alloc (.cells #[.bool false,.slice none 0 0] 45)) w1:=((jo _ _).alloc (by simp) _).grown hgrow (by simp) (fun j e=>Nat.le_of_eq (Option.some.inj e))
     have hR:=Rd.dK (l:=L) (by rw[HLn.out];simpa using sD hown (uq _))
     obtain⟨p2,c2,rfl,_,_⟩:=hR.form
     have q1:=(Bx.new w [.bool false,.slice none 0 0] 45).below hbw (by omega)
     have r0:=q1.c0
     have r1:=q1.c1
     have f0:=q1.f0
     have f1:=q1.f1
     go_wp2
     exact yh (v:=.agg #[.bool false,.slice p2 L.length c2]) (by simp[results,Tryz.results115,go_sem,r0,r1]) rfl ⟨_,_,_,_,rfl,dX.fP (CY (neg:=false) (flag:=false) HLq.out hR HL.out hz.out (.inr ⟨by omega,hk,HG.out,rfl⟩)) q1 rfl rfl _ _,fun k hk=>Nat.le_of_succ_le (hown.lt k hk).1,Below.fP (((jo _ _).alloc (ay _) _).trans (hbw.mono (by simp))) (ay _) _ _⟩
theorem qI (neg:Bool) (s:Value) (l:List Nat) (w:World) (hs:Rd w s l) (hl:Low l) (hn:l.length<=2000000001) :
  Calls Tryz.prog 115 #[.bool neg,s] w (a8w (sg neg (val l)) w):=by
 cases neg
 ·exact a2N s l w hs hl hn
 ·exact a4k s l w hs hl hn
theorem jY (neg:Bool) (s:Value) (l:List Nat) (w:World) (hs:Rd w s l) (hl:Low l) (hn:l.length<=2000000001) :
  Calls Tryz.prog 115 #[.bool neg,s] w (DR (sg neg (val l)) w) :=
 (qI neg s l w hs hl hn).mono fun e w' ⟨g,p,n,c,h1,h2,_,h4⟩=>⟨_,h1,h2,h4⟩
theorem BJ (o:List Nat) (r:Nat):val (o++[r])=val o+BB ^ o.length*r:=by rw[val_append];simp[bZ,val]
theorem zW {o:List Nat} {r:Nat} (h:Low o) (hr:r<=999999999):Low (o++[r]):=Low.append.2 ⟨h,Low.cons.2 ⟨by rw[bM];omega,Low.nil⟩⟩
structure ZP (a b o:List Nat) (k c:Nat):Prop where
 len:o.length=k
 low:Low o
 vl:val o+BB ^ k*c=val (a.take k)+val (b.take k)
 car:c<=1
theorem ZP.zero (a b:List Nat):ZP a b [] 0 0:=⟨rfl,Low.nil,by simp[val],by omega⟩
theorem ZP.step {a b o:List Nat} {k c r q:Nat} (h:ZP a b o k c) (ha:gr a k<=999999999) (hb:gr b k<=999999999) (hs:gr a k+gr b k+c=r+1000000000*q) (hr:r<=999999999):ZP a b (o++[r]) (k+1) q:=by
 have hc:=h.car
 refine⟨by simp[h.len],zW h.low hr,?_,by omega⟩
 rw[BJ,bC,bC,h.len,Nat.pow_succ]
 have:=h.vl
 simp only[bM] at *
 have e:1000000000 ^ k*(gr a k+gr b k+c)=1000000000 ^ k*(r+1000000000*q):=by rw[hs]
 grind
theorem ZP.done {a b o:List Nat} {k c:Nat} (h:ZP a b o k c) (h1:a.length<=k) (h2:b.length<=k):Low (o++[c])/\val (o++[c])=val a+val b:=by
 have hc:=h.car
 have hv:=h.vl
 rw[dP h1,dP h2] at hv
 exact⟨zW h.low (by omega),by rw[BJ,h.len];exact hv⟩
structure ZR (a o:List Nat) (d k c:Nat):Prop where
 len:o.length=k
 low:Low o
 vl:val o+BB ^ k*c=val (a.take k)*d
 car:c<=999999999
theorem ZR.zero (a:List Nat) (d:Nat):ZR a [] d 0 0:=⟨rfl,Low.nil,by simp[val],by omega⟩
theorem ZR.step {a o:List Nat} {d k c r q:Nat} (h:ZR a o d k c) (hs:gr a k*d+c=r+1000000000*q) (hr:r<=999999999) (hq:q<=999999999):ZR a (o++[r]) d (k+1) q:=by
 refine⟨by simp[h.len],zW h.low hr,?_,hq⟩
 rw[BJ,bC,h.len,Nat.pow_succ]
 have:=h.vl
 simp only[bM] at *
 have e:1000000000 ^ k*(gr a k*d+c)=1000000000 ^ k*(r+1000000000*q):=by rw[hs]
 grind
theorem ZR.done {a o:List Nat} {d k c:Nat} (h:ZR a o d k c) (h1:a.length<=k):Low (o++[c])/\val (o++[c])=val a*d:=by
 have hv:=h.vl
 rw[dP h1] at hv
 exact⟨zW h.low h.car,by rw[BJ,h.len];exact hv⟩
structure MInv (a b o:List Nat) (k c:Nat):Prop where
 len:o.length=k
 low:Low o
 vl:val o+val (b.take k)=val (a.take k)+BB ^ k*c
 car:c<=1
theorem MInv.zero (a b:List Nat):MInv a b [] 0 0:=⟨rfl,Low.nil,by simp[val],by omega⟩
theorem MInv.step {a b o:List Nat} {k c r c':Nat} (h:MInv a b o k c) (hs:r+gr b k+c=gr a k+1000000000*c') (hr:r<=999999999) (hc:c'<=1):MInv a b (o++[r]) (k+1) c':=by
 refine⟨by simp[h.len],zW h.low hr,?_,hc⟩
 rw[BJ,bC,bC,h.len,Nat.pow_succ]
 have:=h.vl
 simp only[bM] at *
 have e:1000000000 ^ k*(r+gr b k+c)=1000000000 ^ k*(gr a k+1000000000*c'):=by rw[hs]
 grind
theorem MInv.done {a b o:List Nat} {k c:Nat} (h:MInv a b o k c) (h1:a.length<=k) (h2:b.length<=k) (hle:val b<=val a):val o=val a-val b:=by
 have hv:=h.vl
 rw[dP h1,dP h2] at hv
 have hl:=lG h.low
 rw[h.len] at hl
 have hc:=h.car
 rcases Am c with h0|h0
 ·subst h0;simp at hv;omega
 ·have:c=1:=by omega
  subst this
  simp at hv
  omega
structure ZQ (a o:List Nat) (d k r:Nat):Prop where
 len:o.length=a.length
 low:Low (o.drop k)
 vl:val (a.drop k)=val (o.drop k)*d+r
 rest:r<d
theorem EN {a:List Nat} {k:Nat} (hk:k<a.length):val (a.drop k)=gr a k+BB*val (a.drop (k+1)):=by
 rw[Bg hk,bZ,pK hk]
theorem ZQ.start (a:List Nat) {d:Nat} (hd:0<d):ZQ a (List.replicate a.length 0) d a.length 0:=⟨by simp,by simp[Low.nil],by simp[val],hd⟩
theorem ZQ.step {a o:List Nat} {d k r q r':Nat} (h:ZQ a o d (k+1) r) (hk:k<a.length) (hn:r*1000000000+gr a k=q*d+r') (hr:r'<d) (ha:gr a k<=999999999):ZQ a (o.set k q) d k r'/\q<=999999999:=by
 have hq:q<=999999999:=by
  rcases Af 999999999 q with h1|h1
  ·exfalso
   have e1:1000000000*d<=q*d:=oh _ h1
   have e2:=h.rest
   have e3:(r+1)*1000000000<=d*1000000000:=oh _ e2
   rw[Au] at e3
   rw[xw d] at e3
   omega
  ·exact h1
 have hl:k<o.length:=by rw[h.len];exact hk
 have hs:(o.set k q).drop k=q::o.drop (k+1):=by
  rw[Bg (by simpa using hl),List.drop_set_of_lt (by omega)]
  simp
 refine⟨⟨by simp[h.len],?_,?_,hr⟩,hq⟩
 ·rw[hs];exact Low.cons.2 ⟨by rw[bM];omega,h.low⟩
 ·rw[hs,EN hk,h.vl,bZ,bM]
  grind
theorem ZQ.done {a o:List Nat} {d r:Nat} (h:ZQ a o d 0 r):Low o/\val o=val a / d/\r=val a%d:=by
 have h1:=h.vl
 simp at h1
 have hr:=h.rest
 have hl:=h.low
 simp at hl
 refine⟨hl,?_,?_⟩
 ·rw[h1,xw,Nat.mul_add_div (by omega),En hr];simp
 ·rw[h1,xw,Nat.mul_add_mod,Dw hr]
end Go.Proofs.YtbkocjmmbkifjaaGreat
