/-
  Lemmas for the theorem vinliers_holds, part 22 of 32.
-/
import Derived.Deep.RegionLawGrows
import Derived.Test.YtbkocjmmbkifjaaGreatQi21
namespace Go.Proofs.YtbkocjmmbkifjaaGreat
open Go Go.RowKit
theorem Bc:type_of% @List.any_eq_false:=@List.any_eq_false
theorem Dq:type_of% @List.take_add_one:=@List.take_add_one
theorem au:type_of% @decide_eq_false_iff_not:=@decide_eq_false_iff_not
theorem og:type_of% @true_and:=@true_and
theorem jr:type_of% @Bool.not_eq_false':=@Bool.not_eq_false'
theorem jm:type_of% @beq_eq_false_iff_ne:=@beq_eq_false_iff_ne
theorem xk:type_of% @decide_eq_true:=@decide_eq_true
theorem Bd:type_of% @of_decide_eq_true:=@of_decide_eq_true
set_option maxRecDepth 100000
set_option maxHeartbeats 1000000
set_option linter.unusedVariables false
set_option linter.unusedSimpArgs false
abbrev LR:Type:=List aF
def uT (q:aF):Prop:=q.n<=1000000000/\q.m<=1000000000
def mY {α:Type} (p:α->Bool) (xs:List α):Int:=if xs.any p then (xs.findIdx p:Nat) else -1
theorem uZ {α:Type} {p:α->Bool} {xs:List α} {i:Nat} {d:α} (hi:i<xs.length) (h0:(xs.take i).any p=false) (h:p (xs.getD i d)=true):mY p xs=(i:Nat):=by
 have h1:xs.getD i d=xs[i]:=by rw[dh,dn hi];rfl
 rw[h1] at h
 have h2:xs.findIdx p=i:=by
  rw[List.findIdx_eq hi]
  refine⟨h,fun j hj=>?_⟩
  have:=Bc.mp h0 xs[j] (List.mem_take_iff_getElem.mpr ⟨j,by omega,rfl⟩)
  simpa using this
 unfold mY
 rw[jq (List.any_eq_true.mpr ⟨_,um hi,h⟩),h2]
theorem zW {α:Type} {p:α->Bool} {xs:List α} (h:xs.any p=false):mY p xs=-1:=by unfold mY;rw[h];rfl
theorem vC {α:Type} (p:α->Bool) (xs:List α):decide (mY p xs ≥ 0)=xs.any p:=by
 unfold mY;cases h:xs.any p
 ·rfl
 ·simp
theorem nD {α:Type} {p:α->Bool} {xs:List α} {i:Nat} {d:α} (hi:i<xs.length):(xs.take (i+1)).any p=((xs.take i).any p || p (xs.getD i d)):=by
 rw[Dq,List.any_append,dh,dn hi]
 simp
theorem bF {α:Type} {p:α->Prop} {xs:List α} (h:∀ x ∈ xs,p x) {i:Nat} (hi:i<xs.length) {d:α}:p (xs.getD i d):=by
 rw[dh,dn hi];exact h _ (um hi)
theorem cO {n:Int} (h0:-9223372036854775808<=n) (h1:n<=9223372036854775807):IntKind.wrap .i64 n=n:=by
 unfold IntKind.wrap
 simp only[IntKind.bits,IntKind.signed,Bool.true_and,ay,Nat.reduceSub,Int.reducePow,ge_iff_le]
 split<;>omega
noncomputable def b9W:Ctr:=⟨[tR],[tB],fun x=>uT x.1,fun x=>(!(show aF from x.1).ok,())⟩
theorem WY:aT Tryz.prog 275 b9W:=by
 refine qG (nil0.ad b3w) [] Tryz.func275 rfl (by decide) (fun x=>[]) (fun x hp=>?_)
 obtain⟨x,u⟩:=x
 change aF at x
 refine dM (((aF.n x<=1000000000/\aF.m x<=1000000000)/\True)/\True/\(!aF.ok x)=!aF.ok x/\True) (by kernel_rfl) ?_
 exact⟨⟨hp,trivial⟩,trivial,rfl,trivial⟩
noncomputable def c0l:Ctr:=⟨[.list tR,.clo 275 .unit],[tI],fun x=>(show LR from x.1).length<=1000000/\∀ q ∈ (show LR from x.1),uT q,fun x=>(mY (fun q:aF=>!q.ok) (show LR from x.1),())⟩
theorem b1v:aT Tryz.prog 211 c0l:=by
 refine qG (nil0.ad WY) [] Tryz.func211 rfl (by decide) (fun x=>[.inv {k:Nat // k<=(show LR from x.1).length/\((show LR from x.1).take k).any (fun q=>!q.ok)=false} (fun k=>[(8,.val tI (k.1:Int))]) (fun k=>[]) (fun k=>(show LR from x.1).length-k.1) ⟨0,by omega,rfl⟩ (fun _=>[])]) (fun x hp=>?_)
 obtain⟨x,c,u⟩:=x
 change List aF at x
 refine dM ((asT Int 0=0/\True)/\∀ (i:{ k:Nat // k<=List.length x/\(List.any (List.take k x) fun(q:aF)=>!aF.ok q)=false }),asT Bool true=true/\ifB (decide (aB (aA i)<aB x.length)) ((0<=aB (aA i)/\aB (aA i)<aB x.length/\uT (List.getD x (aB (aA i)).toNat { ok:=false,x:=0,g:=aP Nat,h:=aP Nat })/\True)/\ifB (!aF.ok (List.getD x (aB (aA i)).toNat { ok:=false,x:=0,g:=aP Nat,h:=aP Nat })) (True/\aB (aA i)=mY (fun(q:aF)=>!aF.ok q) x/\True) (∃ (i':{ k:Nat // k<=List.length x/\(List.any (List.take k x) fun(q:aF)=>!aF.ok q)=false }),List.length x-aA i'<List.length x-aA i/\IntKind.wrap IntKind.i64 (aB (aA i)+1)=aB (aA i')/\True)) (True/\-1=mY (fun(q:aF)=>!aF.ok q) x/\True)) (by kernel_rfl) ?_
 obtain⟨hl,hb⟩:=hp
 have hZ:(⟨false,0,[],[]⟩:aF)=cZ:=rfl
 dsimp only[aB,asT,aA,aP] at *
 simp only[hZ,Int.toNat_natCast,aQ,ay,au,og,ny,jc,jr]
 refine fun i=>⟨fun h1=>⟨⟨by omega,h1,bF hb (by omega)⟩,fun h2=>?_,fun h2=>⟨⟨i.1+1,by omega,?_⟩,by simp only;omega,?_⟩⟩,fun h1=>?_⟩
 ·exact(uZ (d:=cZ) (by omega) i.2.2 (by rw[h2];rfl)).symm
 ·rw[nD (d:=cZ) (by omega),i.2.2,h2];rfl
 ·rw[cO (by omega) (by omega)];rfl
 ·have h3:=i.2.2
  rw[jh (by omega)] at h3
  exact(zW h3).symm
noncomputable def c0c:Ctr:=⟨[.list tR,.clo 275 .unit],[tB],fun x=>(show LR from x.1).length<=1000000/\∀ q ∈ (show LR from x.1),uT q,fun x=>((show LR from x.1).any (fun q:aF=>!q.ok),())⟩
theorem b0S:aT Tryz.prog 123 c0c:=by
 refine qG ((nil0.ad WY).ad b1v) [] Tryz.func123 rfl (by decide) (fun x=>[]) (fun x hp=>?_)
 obtain⟨x,c,u⟩:=x
 change List aF at x
 refine dM (((List.length x<=1000000/\∀ (q:aF),q ∈ x->uT q)/\True)/\True/\(decide (mY (fun(q:aF)=>!aF.ok q) x ≥ 0)=List.any x fun(q:aF)=>!aF.ok q)/\True) (by kernel_rfl) ?_
 exact⟨⟨hp,trivial⟩,trivial,vC _ _,trivial⟩
noncomputable def b8s:Ctr:=⟨[.list tR],[tB],fun x=>(show LR from x.1).length<=1000000/\∀ q ∈ (show LR from x.1),uT q,fun x=>(!(show LR from x.1).any (fun q:aF=>!q.ok),())⟩
theorem sF:aT Tryz.prog 243 b8s:=by
 refine qG ((nil0.ad WY).ad b0S) [] Tryz.func243 rfl (by decide) (fun x=>[]) (fun x hp=>?_)
 obtain⟨x,u⟩:=x
 change List aF at x
 refine dM (((List.length x<=1000000/\∀ (q:aF),q ∈ x->uT q)/\True)/\True/\((!List.any x fun(q:aF)=>!aF.ok q)=!List.any x fun(q:aF)=>!aF.ok q)/\True) (by kernel_rfl) ?_
 exact⟨⟨hp,trivial⟩,trivial,rfl,trivial⟩
abbrev MR:Type:=List (List aF)
abbrev wdM {α:Type} (a:List (List α)):Nat:=(a.getD 0 []).length
def badR (n:Nat) (r:LR):Bool:=!(r.length==n) || r.any (fun q=>!q.ok)
def zK (r:LR):Prop:=r.length<=1000000/\∀ q ∈ r,uT q
theorem b9v (m n:Nat):((m:Int) != (n:Int))=!(m==n):=by
 by_cases h:m=n
 ·subst h;simp
 ·rw[jm.mpr h,qo.mpr (fun h2=>h (by exact_mod_cast h2))];rfl
noncomputable def b8r:Ctr:=⟨[.list tR,.ref tMR],[tB],fun x=>zK x.1/\0<(show MR from x.2.1).length,fun x=>(badR (wdM (show MR from x.2.1)) x.1,())⟩
theorem NI:aT Tryz.prog 242 b8r:=by
 refine qG (nil0.ad sF) [] Tryz.func242 rfl (by decide) (fun x=>[]) (fun x hp=>?_)
 obtain⟨x,a,u⟩:=x
 change List aF at x
 change List (List aF) at a
 refine dM (let A₁:=(List.getD a 0 (aP aF)).length;let A₀:=(aB x.length != aB A₁);(asT Int 0<=0/\0<aB a.length/\((A₀==false)=true->(A₀==false)=true/\(List.length x<=1000000/\∀ (q:aF),q ∈ x->uT q)/\True)/\((A₀==false)=true->(A₀==false)=true/\True)/\(A₀=false->(A₀==false)=true)/\True)/\True/\(bif aB x.length != aB A₁ then true else !!List.any x fun(q:aF)=>!aF.ok q)=badR (wdM a) x/\True) (by kernel_rfl) ?_
 obtain⟨hs,h0⟩:=hp
 dsimp only[aB,asT,aA,aP] at *
 refine⟨⟨by omega,by omega,fun h=>⟨h,hs,trivial⟩,fun h=>⟨h,trivial⟩,fun h=>by rw[h];rfl,trivial⟩,trivial,?_,trivial⟩
 unfold badR
 rw[Bool.not_not,b9v]
 cases x.length==wdM a<;>rfl
noncomputable def c0k:Ctr:=⟨[tMR,.clo 242 (.pair (.ref tMR) .unit)],[tI],fun x=>(show MR from x.1).length<=1000000/\(∀ r ∈ (show MR from x.1),zK r)/\0<(show MR from x.2.1.1).length,fun x=>(mY (badR (wdM (show MR from x.2.1.1))) (show MR from x.1),())⟩
theorem b1u:aT Tryz.prog 166 c0k:=by
 refine qG (nil0.ad NI) [] Tryz.func166 rfl (by decide) (fun x=>[.inv {k:Nat // k<=(show MR from x.1).length/\((show MR from x.1).take k).any (badR (wdM (show MR from x.2.1.1)))=false} (fun k=>[(8,.val tI (k.1:Int))]) (fun k=>[]) (fun k=>(show MR from x.1).length-k.1) ⟨0,by omega,rfl⟩ (fun _=>[])]) (fun x hp=>?_)
 obtain⟨x,⟨a,c⟩,u⟩:=x
 change List (List aF) at x
 change List (List aF) at a
 refine dM ((asT Int 0=0/\True)/\∀ (i:{ k:Nat // k<=List.length x/\List.any (List.take k x) (badR (wdM a))=false }),asT Bool true=true/\ifB (decide (aB (aA i)<aB x.length)) ((0<=aB (aA i)/\aB (aA i)<aB x.length/\(zK (List.getD x (aB (aA i)).toNat (aP aF))/\0<List.length a)/\True)/\ifB (badR (wdM a) (List.getD x (aB (aA i)).toNat (aP aF))) (True/\aB (aA i)=mY (badR (wdM a)) x/\True) (∃ (i':{ k:Nat // k<=List.length x/\List.any (List.take k x) (badR (wdM a))=false }),List.length x-aA i'<List.length x-aA i/\IntKind.wrap IntKind.i64 (aB (aA i)+1)=aB (aA i')/\True)) (True/\-1=mY (badR (wdM a)) x/\True)) (by kernel_rfl) ?_
 obtain⟨hl,hb,h0⟩:=hp
 dsimp only[aB,asT,aA,aP] at *
 simp only[Int.toNat_natCast,aQ,ay,au,og,ny]
 refine fun i=>⟨fun h1=>⟨⟨by omega,h1,bF hb (by omega),h0⟩,fun h2=>?_,fun h2=>⟨⟨i.1+1,by omega,?_⟩,by simp only;omega,?_⟩⟩,fun h1=>?_⟩
 ·exact(uZ (d:=[]) (by omega) i.2.2 h2).symm
 ·rw[nD (d:=[]) (by omega),i.2.2,h2];rfl
 ·rw[cO (by omega) (by omega)];rfl
 ·have h3:=i.2.2
  rw[jh (by omega)] at h3
  exact(zW h3).symm
noncomputable def b9Z:Ctr:=⟨[tMR,.clo 242 (.pair (.ref tMR) .unit)],[tB],fun x=>(show MR from x.1).length<=1000000/\(∀ r ∈ (show MR from x.1),zK r)/\0<(show MR from x.2.1.1).length,fun x=>((show MR from x.1).any (badR (wdM (show MR from x.2.1.1))),())⟩
theorem b0R:aT Tryz.prog 82 b9Z:=by
 refine qG ((nil0.ad NI).ad b1u) [] Tryz.func82 rfl (by decide) (fun x=>[]) (fun x hp=>?_)
 obtain⟨x,⟨a,c⟩,u⟩:=x
 change List (List aF) at x
 change List (List aF) at a
 refine dM (((List.length x<=1000000/\(∀ (r:List aF),r ∈ x->zK r)/\0<List.length a)/\True)/\True/\decide (mY (badR (wdM a)) x ≥ 0)=List.any x (badR (wdM a))/\True) (by kernel_rfl) ?_
 exact⟨⟨hp,trivial⟩,trivial,vC _ _,trivial⟩
def uX (a:MR):Int:=if 1<=a.length/\a.length<=64/\1<=wdM a/\wdM a<=64/\a.any (badR (wdM a))=false then 0 else 1
def JM (a:MR):Prop:=a.length<=1000000/\∀ r ∈ a,zK r
noncomputable def b9Y:Ctr:=⟨[tMR],[tI],fun x=>JM x.1,fun x=>(uX x.1,())⟩
theorem DJ:aT Tryz.prog 167 b9Y:=by
 refine qG ((nil0.ad NI).ad b0R) [] Tryz.func167 rfl (by decide) (fun x=>[]) (fun x hp=>?_)
 obtain⟨a,u⟩:=x
 change List (List aF) at a
 refine dM (let A₂:=(aB a.length<1);let jX:=(List.getD a 0 (aP aF)).length;let jQ:=(aB a.length > 64);let A₀:=(bif bif decide A₂ then true else decide jQ then true else decide (aB jX<1));let fO:=((A₀==false)=true->(A₀==false)=true/\True);let pI:=((decide A₂==false)=true->(decide A₂==false)=true/\True);let CJ:=(bif decide A₂ then true else decide jQ);let A₁:=(CJ==false);let xZ:=(A₁=true->A₁=true/\True);(pI/\pI/\(decide A₂=false->(decide A₂==false)=true)/\(A₁=true->A₁=true/\asT Int 0<=0/\0<aB a.length/\True)/\xZ/\xZ/\xZ/\(CJ=false->A₁=true)/\((A₀==false)=true->(A₀==false)=true/\asT Int 0<=0/\0<aB a.length/\True)/\fO/\fO/\fO/\(A₀=false->(A₀==false)=true)/\True)/\ifB (bif bif bif decide A₂ then true else decide jQ then true else decide (aB jX<1) then true else decide (aB jX > 64)) (True/\1=uX a/\True) (((List.length a<=1000000/\(∀ (r:List aF),r ∈ a->zK r)/\0<List.length a)/\True)/\ifB (List.any a (badR (wdM a))) (True/\1=uX a/\True) (True/\0=uX a/\True))) (by kernel_rfl) ?_
 dsimp only[aB,asT,aA,aP] at *
 simp only[Int.toNat_natCast,aQ,ay,au,og,ny]
 have eL:∀ n:Nat,decide ((n:Int)<1)=decide (n<1):=fun n=>Ar.mpr (by omega)
 have eG:∀ n:Nat,decide ((n:Int) > 64)=decide (n > 64):=fun n=>Ar.mpr (by omega)
 rw[eL,eG,eL,eG]
 have g1:decide (a.length<1)=false->0<(a.length:Int):=fun h=>by have:=of_decide_eq_false h;omega
 have g2:uX a=bif (decide (a.length<1) || decide (a.length > 64) || decide ((a.getD 0 []).length<1) || decide ((a.getD 0 []).length > 64) || a.any (badR (wdM a))) then 1 else 0:=by
  unfold uX
  by_cases h1:a.length<1
  ·rw[jk (by omega),xk h1];rfl
  ·by_cases h2:a.length > 64
   ·rw[jk (by omega),xk h2];simp
   ·by_cases h3:(a.getD 0 []).length<1
    ·rw[jk (fun h=>by have:=h.2.2.1;unfold wdM at this;omega),xk h3];simp
    ·by_cases h4:(a.getD 0 []).length > 64
     ·rw[jk (fun h=>by have:=h.2.2.2.1;unfold wdM at this;omega),xk h4];simp
     ·rw[tq h1,tq h2,tq h3,tq h4]
      cases h5:a.any (badR (wdM a))
      ·rw[jq ⟨by omega,by omega,by unfold wdM;omega,by unfold wdM;omega,rfl⟩];rfl
      ·rw[jk (fun h=>Bool.noConfusion h.2.2.2.2)];rfl
 have hl:a.length<=1000000:=hp.1
 have hr:∀ r,r ∈ a->zK r:=hp.2
 rw[g2]
 have g4:decide (a.length<1)=true->(a.length:Int)<1:=fun h=>by have:=Bd h;omega
 have g3:(decide (a.length<1)=false->0<a.length):=fun h=>by have:=of_decide_eq_false h;omega
 generalize decide (a.length<1)=b1 at *
 generalize decide (a.length > 64)=b2 at *
 generalize decide ((a.getD 0 []).length<1)=b3 at *
 generalize decide ((a.getD 0 []).length > 64)=b4 at *
 generalize a.any (badR (wdM a))=b5 at *
 clear eL eG g2
 cases b1
 ·have k1:=g1 rfl
  have k3:=g3 rfl
  cases b2<;>cases b3<;>cases b4<;>cases b5<;>simp[k1,k3,hl]<;>exact hr
 ·simp[g4 rfl]
set_option maxHeartbeats 2000000
theorem LM {P:Program} {ops:Array Oper} {o:Oper} {a:Act} {w:World} {K:Act->World->Prop} {Q:Exit->Act->World->Prop} {E:Prop}
  (hg:o.guard=none) (s x:Operand) (t:TypeId) (hop:o.op=Op.call { callee:=Callee.builtin Builtin.append,args:=#[s,x],argTypes:=#[t,t] })
  (base:Nat) (e:TypeId) (i:TypeInfo) (z:Value) (size bytes:Nat) (h1:P.underlying t=some (.slice e)) (h2:P.info? e=some i) (h3:i.zero=some z) (h4:i.size=size) (h5:i.bytes=bytes) (h6:z.cells.size=size) (h7:0<size)
  (v:Value) (n:Nat) (xs:List Value) (hs:a.eval s=v) (hown:w.ownsRow base e size v n xs)
  (ad:Addr) (m c:Nat) (news:List Value) (hx:a.eval x=.slice (some ad) m c) (hn:news.length=m*size) (hc:∀ j u,news[j]?=some u->w.cell? (ad.add j)=some u) (h1c:∀ u ∈ news,u.oneCell'=true)
  (b1:n+m<=maxLen) (b2:(n+m)*bytes<=140737488355328) (hbase:base<=w.heap.size)
  (hK:∀ v' w',w'.ownsRow base e size v' (n+m) (xs++news)->w.grownBy w' v.ownBlock->(v'=.slice none 0 0↔v=.slice none 0 0/\m=0)->K (a.put o.dst v') w') :
  if Region.wanted o (yielded ops a.tmps)=true then Oper.wp P o a w K Q else E:=by
 have hw:Region.wanted o (yielded ops a.tmps)=true:=by simp[Region.wanted,hg]
 rw[jq hw]
 exact wp_append_own w s x t hop base e i z size bytes h1 h2 h3 h4 h5 h6 h7 v n xs hs hown ad m c news hx hn hc h1c b1 b2 hbase hK
theorem FZ {P:Program} {ops:Array Oper} {o:Oper} {a:Act} {w:World} {K:Act->World->Prop} {Q:Exit->Act->World->Prop} {E:Prop}
  (hg:o.guard=none) (s x:Operand) (t:TypeId) (hop:o.op=Op.call { callee:=Callee.builtin Builtin.append,args:=#[s,x],argTypes:=#[t,t] })
  (e:TypeId) (i:TypeInfo) (h1:P.underlying t=some (.slice e)) (h2:P.info? e=some i)
  (b:Addr) (hs:a.eval s=.slice (some b) 0 0) {q:Option Addr} (hx:a.eval x=.slice q 0 0)
  (hK:K (a.put o.dst (.slice (some b) 0 0)) w) :
  if Region.wanted o (yielded ops a.tmps)=true then Oper.wp P o a w K Q else E:=by
 have hw:Region.wanted o (yielded ops a.tmps)=true:=by simp[Region.wanted,hg]
 rw[jq hw]
 have hrun:(Builtin.append_ #[t,t] o.type #[.slice (some b) 0 0,.slice q 0 0]).run P w=.ok (.slice (some b) 0 0) w:=by
  cases q<;>simp[Builtin.append_,oz h1,sizeOf,typeInfo,h2,Builtin.lenOf,Builtin.firstCells,loadCells,loadCellsFrom,gy,storeCells]
 unfold Oper.wp
 simp[execOp,hop,resolve,invoke,builtin,hs,hx,hrun,Result.andThen]
 exact hK
theorem a6C {neg:Bool} {l:List Nat} {k:Nat} (hk:k<l.length) (h:1000000000<=gr l k):GU neg l=false:=by
 cases hv:GU neg l with
 | false=>rfl
 | true =>
  have:=(GV.1 hv).1.1 _ (a7A hk)
  rw[bI] at this
  omega
theorem a6B {neg:Bool} {l:List Nat} (hl:l≠[]) (h:∀ j,j<l.length->gr l j<1000000000):GU neg l=((gr l (l.length-1):Int) != 0):=by
 rw[ZQ hl]
 have:(l.any fun g=>decide (1000000000<=g))=false:=by
  rw[Bc]
  intro g hg
  obtain⟨i,hi,rfl⟩:=Cb hg
  have:=h i hi
  rw[oG hi] at this
  simp;omega
 rw[this,Bool.eq_iff_iff]
 simp
theorem iP (v:Value) (ok:Bool) (x:Int) (w:World) (h:fC w v ok x) :
  Calls Tryz.prog 129 #[v] w fun e w'=>e=.returned (.bool ok)/\Below w.heap.size w w':=by
 obtain⟨neg,s,l,rfl,hs,hb,hx,hok⟩:=h
 have HOK:=bn hok
 clear hok hx hb
 rcases hs with⟨p,rfl,rfl⟩|⟨b,o,c,rfl,h2,h3,h4,h5⟩
 ·go_enter Tryz.func129,Tryz.ntmps129
  go_wp2
  go_loop [4,8,9,10,11,12,13,14,15,16,17,18] (fun i _ _ _ _ _ _ _ _ _ _ _=>i=.int .i64 0) (fun _ _ _ _ _ _ _ _ _ _ _ _=>0)
  case atStart=>rfl
  case round =>
   subst hrel
   go_wp2
   go_ret
   exact⟨gJ (by rw[HOK.out,vX]),(bg _ _).alloc (ak _) _⟩
 ·have H5:=bn h5
  have hl:l.length<=9223372036854775807:=by omega
  clear h5
  go_enter Tryz.func129,Tryz.ntmps129
  go_wp2
  go_loop [4,8,9,10,11,12,13,14,15,16,17,18] (fun i _ _ _ _ _ _ _ _ _ _ _=>∃ k:Nat,k<=l.length/\i=.int .i64 k/\Hid (∀ j,j<k->gr l j<1000000000)) (fun i _ _ _ _ _ _ _ _ _ _ _=>l.length-(intOf i).toNat)
  case atStart=>exact⟨0,by omega,rfl,fun j hj=>by omega⟩
  case round =>
   obtain⟨k,hk,rfl,hj⟩:=hrel
   by_cases hlt:k<l.length
   ·have hc:=H5.out k hlt
    by_cases hg:1000000000<=gr l k
    ·have HF:=bn (a6C (neg:=neg) hlt hg)
     have hg2:decide ((1000000000:Int)<=gr l k)=true:=by simp;omega
     go_wp2
     go_ret
     exact⟨gJ (by rw[HOK.out,HF.out]),(bg _ _).alloc (ak _) _⟩
    ·have hg3:gr l k<1000000000:=by omega
     have hg2:decide ((1000000000:Int)<=gr l k)=false:=by simp;omega
     have HG:=bn hg3
     clear hg
     go_wp2
     go_round
     case rel=>exact⟨k+1,by omega,by go_num,fun j h=>if e:j<k then hj.out j e else by rw[show j=k by omega];exact HG.out⟩
     case measure=>simp[intOf]<;>omega
   ·obtain rfl:k=l.length:=by omega
    by_cases hz:l=[]
    ·subst hz
     go_wp2
     go_ret
     exact⟨gJ (by rw[HOK.out];rfl),(bg _ _).alloc (ak _) _⟩
    ·have hp:0<l.length:=oq.2 hz
     have HD:=bn (a6B (neg:=neg) hz hj.out)
     have hc:=H5.out (l.length-1) (by omega)
     have hidx:((l.length:Int)-1).toNat=l.length-1:=by omega
     have hne:((l.length:Int)==0)=false:=by simp;omega
     go_wp2
     go_ret
     exact⟨gJ (by rw[HOK.out,HD.out]),(bg _ _).alloc (ak _) _⟩
theorem bW.ZV {w:World} {b:Nat} (h:b<w.heap.size):bW w (.agg #[.bool false,.slice (some ⟨b,0,none⟩) 0 0]) 0:=by
 refine⟨.slice (some ⟨b,0,none⟩) 0 0,by simp,.inr ⟨b,0,0,by simp[dL],by simp[dL],by omega,h,fun i hi=>?_⟩⟩
 simp[dL] at hi
theorem a6u (v:Value) (x:Int) (w:World) (h:fC w v false x) :
  Calls Tryz.prog 164 #[v] w (lU x w):=by
 obtain⟨b,p,n,c,rfl⟩:=h.raw.form
 have HX:=bn h.zero
 have aZ:Below w.heap.size w w:=bg _ _
 go_enter Tryz.func164,Tryz.ntmps164
 go_wp2_with fail
 obtain⟨hA1,h0,f0⟩:=bx2 w rfl [.bool b,.slice p n c] 45 [.bool false,.slice none 0 0] 45
 have g0:=(h.below hA1)
 (with_reducible refine(iP _ _ _ _ g0).mono ?_)
 rintro e w1 ⟨rfl,hb1⟩
 have dA:=(f0.to hb1)
 obtain⟨a0,c0,b0,d0⟩:=dA.cf2
 have e0:=(Below.tr (Below.tr aZ hA1) hb1)
 go_wp2_with fail
 exact iw (v:=.agg #[.bool false,.slice none 0 0]) (by simp[results,Tryz.results164,go_sem,a0,c0,b0,d0]) rfl ⟨_,rfl,by rw[HX.out];exact bW.zero _,(Below.aG e0 (b:=w.heap.size+1) (by omega) (.bool false) (.slice none 0 0))⟩
theorem a6t (x:Int) (w:World) (b:Bool) (g o n c:Nat) (h:bW w (.agg #[.bool b,.slice (some ⟨g,o,none⟩) n c]) x) (hg:g<w.heap.size) (hc:∀ i,i<(dig x.natAbs).length->w.cell? ⟨g,o+i,none⟩=some (.int .u32 (gr (dig x.natAbs) i:Nat))) (hx:b=decide (x<0)) (hn:n=(dig x.natAbs).length) (hl:n<=1000000000) :
  Calls Tryz.prog 164 #[.agg #[.bool b,.slice (some ⟨g,o,none⟩) n c]] w (lU x w):=by
 obtain⟨i0,hi,hz0,hz1,hz2⟩:=zh gB
 have HC:=bn hc
 have HX:=bn hx
 have HN:=bn hn
 clear hc hx hn
 have aZ:Below w.heap.size w w:=bg _ _
 go_enter Tryz.func164,Tryz.ntmps164
 go_wp2_with fail
 obtain⟨hA1,e0,g0⟩:=bx2 w rfl [.bool b,.slice (some ⟨g,o,none⟩) n c] 45 [.bool false,.slice none 0 0] 45
 have j0:=(h.below hA1).QG
 (with_reducible refine(iP _ _ _ _ j0).mono ?_)
 rintro e w1 ⟨rfl,hb1⟩
 have bT:=(e0.to hb1)
 have dA:=(g0.to hb1)
 have b0:=(Below.tr (Below.tr aZ hA1) hb1)
 have h_1:=((h.below hA1).below hb1)
 have q0d:=(bT).drew
 have q1d:=(dA).drew
 have hBd:=(b0).drew
 have q1a:=((dA).alloc (.cells #[] 148)).drew
 have a0:=q1a.c0
 have a1:=q1a.c1
 have a2:=q1a.f0
 have a3:=q1a.f1
 have d0:=(dA).c0
 have d1:=(dA).c1
 have d2:=(dA).f0
 have d3:=(dA).f1
 have d4:=(dA).1
 have d5:=(bT).1
 have hRd:=(h_1).drew
 have S0:(fun w':World=>w'.cell? ⟨w.heap.size,0,none⟩=some (.bool b)/\w'.cell? ⟨w.heap.size,1,none⟩=some (.slice (some ⟨g,o,none⟩) n c)/\w.heap.size+1<w'.heap.size) w1.drew:=⟨q0d.c0,q0d.c1,q1d.1⟩
 have S1:(fun w':World=>w'.cell? ⟨w.heap.size,0,none⟩=some (.bool b)/\w'.cell? ⟨w.heap.size,1,none⟩=some (.slice (some ⟨g,o,none⟩) n c)/\w.heap.size+1<w'.heap.size) (w1.alloc (.cells #[] 148)).drew:=⟨((bT).alloc (.cells #[] 148)).drew.c0,((bT).alloc (.cells #[] 148)).drew.c1,((dA).alloc (.cells #[] 148)).drew.1⟩
 have S2:∀ x0 x1:Value,(fun w':World=>w'.cell? ⟨w.heap.size,0,none⟩=some (.bool b)/\w'.cell? ⟨w.heap.size,1,none⟩=some (.slice (some ⟨g,o,none⟩) n c)/\w.heap.size+1<w'.heap.size) (((w1.setCell ⟨w.heap.size+1,0,none⟩ x0).setCell ⟨w.heap.size+1,1,none⟩ x1).alloc (.cells #[] 148)).drew:=fun x0 x1=>⟨(((bT).aI (b:=w.heap.size+1) (by omega) x0 x1).alloc (.cells #[] 148)).drew.c0,(((bT).aI (b:=w.heap.size+1) (by omega) x0 x1).alloc (.cells #[] 148)).drew.c1,(((dA).store2 x0 x1).alloc (.cells #[] 148)).drew.1⟩
 have K:∀ A B:World,(fun w':World=>w'.cell? ⟨w.heap.size,0,none⟩=some (.bool b)/\w'.cell? ⟨w.heap.size,1,none⟩=some (.slice (some ⟨g,o,none⟩) n c)/\w.heap.size+1<w'.heap.size) A->Below A.heap.size A B->(fun w':World=>w'.cell? ⟨w.heap.size,0,none⟩=some (.bool b)/\w'.cell? ⟨w.heap.size,1,none⟩=some (.slice (some ⟨g,o,none⟩) n c)/\w.heap.size+1<w'.heap.size) B:=by
  rintro A B ⟨h0,h1,h2⟩ hb
  have hs:=hb.size
  exact⟨by rw[(eY hb).1 _ _ (by omega)];exact h0,by rw[(eY hb).1 _ _ (by omega)];exact h1,by omega⟩
 have KS:∀ (A:World) (x0 x1:Value),(fun w':World=>w'.cell? ⟨w.heap.size,0,none⟩=some (.bool b)/\w'.cell? ⟨w.heap.size,1,none⟩=some (.slice (some ⟨g,o,none⟩) n c)/\w.heap.size+1<w'.heap.size) A->(fun w':World=>w'.cell? ⟨w.heap.size,0,none⟩=some (.bool b)/\w'.cell? ⟨w.heap.size,1,none⟩=some (.slice (some ⟨g,o,none⟩) n c)/\w.heap.size+1<w'.heap.size) ((A.setCell ⟨w.heap.size+1,0,none⟩ x0).setCell ⟨w.heap.size+1,1,none⟩ x1):=by
  rintro A x0 x1 ⟨h0,h1,h2⟩
  simp[go_sem,h0,h1,h2]
 go_wp2_with fail
 have tk1:True:=trivial
 go_region_held3 (fun w':World=>w'.cell? ⟨w.heap.size,0,none⟩=some (.bool b)/\w'.cell? ⟨w.heap.size,1,none⟩=some (.slice (some ⟨g,o,none⟩) n c)/\w.heap.size+1<w'.heap.size) (first|with_reducible exact S0|with_reducible exact S1|with_reducible exact S2 _ _|with_reducible exact K _ _ S0 (by assumption)|with_reducible exact K _ _ (by assumption) ((bg _ _).alloc (ak _) _)|with_reducible exact KS _ _ _ (by assumption)|(simp;done))
  (first
   | ((have:=tk1);clear tk1;refine LM rfl _ _ 43 rfl w1.drew.heap.size 148 i0 (.int .u32 0) 1 4 jw hi hz0 hz1 hz2 rfl (by decide) _ _ _ rfl (World.ownsRow_made w1.drew #[] 0 (ak _) (by simp[maxLen]) (by simp)) ⟨g,o,none⟩ n c (cells32 (dig x.natAbs)) rfl (by rw[HN.out];exact iM _) (lW fun i hi=>(yg _ _ ⟨g,o+i,none⟩ (ni hg hBd.size)).trans ((hBd.cell (p:=⟨g,o+i,none⟩) hg).trans (HC.out i hi))) (kF _) (by unfold maxLen;omega) (by omega) (by simp) ?_;intro v2 w2 hown hgrow _;have hbw:Below w1.drew.heap.size w1.drew w2:=((bg _ _).alloc (ak _) _).grown hgrow (by simp) (fun j e=>Nat.le_of_eq (Option.some.inj e));have hR2:=Rd.bU (l:=dig x.natAbs) (by rw[<-HN.out];simpa using hown);obtain⟨p2,c2,rfl,_,_⟩:=hR2.form;have q1w:=q1d.to hbw;have r0:=q1w.c0;have r1:=q1w.c1;have f0:=q1w.f0;have f1:=q1w.f1))
 go_wp2_with fail
 exact iw (v:=.agg #[.bool b,.slice p2 (dig x.natAbs).length c2]) (by simp[results,Tryz.results164,go_sem,r0,r1]) rfl ⟨_,rfl,bW.aG ⟨_,by rw[HX.out],hR2⟩ q1w rfl rfl _ _,Below.aG (Below.tr hBd hbw) (by omega) _ _⟩
theorem a2N (p:Option Addr) (w:World) (h:bW w (.agg #[.bool false,.slice p 0 0]) 0) :
  Calls Tryz.prog 164 #[.agg #[.bool false,.slice p 0 0]] w (lU 0 w):=by
 obtain⟨i0,hi,hz0,hz1,hz2⟩:=zh gB
 have aZ:Below w.heap.size w w:=bg _ _
 go_enter Tryz.func164,Tryz.ntmps164
 go_wp2_with fail
 obtain⟨hA1,e0,g0⟩:=bx2 w rfl [.bool false,.slice p 0 0] 45 [.bool false,.slice none 0 0] 45
 have j0:=(h.below hA1).QG
 (with_reducible refine(iP _ _ (0:Int) _ j0).mono ?_)
 rintro e w1 ⟨rfl,hb1⟩
 have bT:=(e0.to hb1)
 have dA:=(g0.to hb1)
 have b0:=(Below.tr (Below.tr aZ hA1) hb1)
 have h_1:=((h.below hA1).below hb1)
 have q0d:=(bT).drew
 have q1d:=(dA).drew
 have hBd:=(b0).drew
 have q1a:=((dA).alloc (.cells #[] 148)).drew
 have a0:=q1a.c0
 have a1:=q1a.c1
 have a2:=q1a.f0
 have a3:=q1a.f1
 have d0:=(dA).c0
 have d1:=(dA).c1
 have d2:=(dA).f0
 have d3:=(dA).f1
 have d4:=(dA).1
 have d5:=(bT).1
 have hRd:=(h_1).drew
 have S0:(fun w':World=>w'.cell? ⟨w.heap.size,0,none⟩=some (.bool false)/\w'.cell? ⟨w.heap.size,1,none⟩=some (.slice p 0 0)/\w.heap.size+1<w'.heap.size) w1.drew:=⟨q0d.c0,q0d.c1,q1d.1⟩
 have S1:(fun w':World=>w'.cell? ⟨w.heap.size,0,none⟩=some (.bool false)/\w'.cell? ⟨w.heap.size,1,none⟩=some (.slice p 0 0)/\w.heap.size+1<w'.heap.size) (w1.alloc (.cells #[] 148)).drew:=⟨((bT).alloc (.cells #[] 148)).drew.c0,((bT).alloc (.cells #[] 148)).drew.c1,((dA).alloc (.cells #[] 148)).drew.1⟩
 have S2:∀ x0 x1:Value,(fun w':World=>w'.cell? ⟨w.heap.size,0,none⟩=some (.bool false)/\w'.cell? ⟨w.heap.size,1,none⟩=some (.slice p 0 0)/\w.heap.size+1<w'.heap.size) (((w1.setCell ⟨w.heap.size+1,0,none⟩ x0).setCell ⟨w.heap.size+1,1,none⟩ x1).alloc (.cells #[] 148)).drew:=fun x0 x1=>⟨(((bT).aI (b:=w.heap.size+1) (by omega) x0 x1).alloc (.cells #[] 148)).drew.c0,(((bT).aI (b:=w.heap.size+1) (by omega) x0 x1).alloc (.cells #[] 148)).drew.c1,(((dA).store2 x0 x1).alloc (.cells #[] 148)).drew.1⟩
 have K:∀ A B:World,(fun w':World=>w'.cell? ⟨w.heap.size,0,none⟩=some (.bool false)/\w'.cell? ⟨w.heap.size,1,none⟩=some (.slice p 0 0)/\w.heap.size+1<w'.heap.size) A->Below A.heap.size A B->(fun w':World=>w'.cell? ⟨w.heap.size,0,none⟩=some (.bool false)/\w'.cell? ⟨w.heap.size,1,none⟩=some (.slice p 0 0)/\w.heap.size+1<w'.heap.size) B:=by
  rintro A B ⟨h0,h1,h2⟩ hb
  have hs:=hb.size
  exact⟨by rw[(eY hb).1 _ _ (by omega)];exact h0,by rw[(eY hb).1 _ _ (by omega)];exact h1,by omega⟩
 have KS:∀ (A:World) (x0 x1:Value),(fun w':World=>w'.cell? ⟨w.heap.size,0,none⟩=some (.bool false)/\w'.cell? ⟨w.heap.size,1,none⟩=some (.slice p 0 0)/\w.heap.size+1<w'.heap.size) A->(fun w':World=>w'.cell? ⟨w.heap.size,0,none⟩=some (.bool false)/\w'.cell? ⟨w.heap.size,1,none⟩=some (.slice p 0 0)/\w.heap.size+1<w'.heap.size) ((A.setCell ⟨w.heap.size+1,0,none⟩ x0).setCell ⟨w.heap.size+1,1,none⟩ x1):=by
  rintro A x0 x1 ⟨h0,h1,h2⟩
  simp[go_sem,h0,h1,h2]
 go_wp2_with fail
 go_region_held3 (fun w':World=>w'.cell? ⟨w.heap.size,0,none⟩=some (.bool false)/\w'.cell? ⟨w.heap.size,1,none⟩=some (.slice p 0 0)/\w.heap.size+1<w'.heap.size) (first|with_reducible exact S0|with_reducible exact S1|with_reducible exact S2 _ _|with_reducible exact K _ _ S0 (by assumption)|with_reducible exact K _ _ (by assumption) ((bg _ _).alloc (ak _) _)|with_reducible exact KS _ _ _ (by assumption)|(simp;done))
  (refine FZ rfl _ _ 43 rfl 148 i0 jw hi _ rfl rfl ?_)
 go_wp2_with fail
 exact iw (v:=.agg #[.bool false,.slice (some ⟨w1.heap.size,0,none⟩) 0 0]) (by simp[results,Tryz.results164,go_sem,d0,d1,d2,d3,d4]) rfl ⟨_,rfl,bW.ZV (by simp[World.setCell]),(Below.al (Below.aG b0 (by omega) _ _) _).drew⟩
theorem a2O (v:Value) (ok:Bool) (x:Int) (w:World) (h:fC w v ok x) (hl:isz x<=1000000000) :
  Calls Tryz.prog 164 #[v] w (lU x w):=by
 cases ok
 ·exact a6u v x w h
 ·have hi:=h.int
  obtain⟨s,rfl,hs⟩:=hi
  rcases hs with⟨p,rfl,h0⟩|⟨b,o,c,rfl,h2,h3,h4,h5⟩
  ·have hx:x=0:=by have:=iO.1 h0;omega
   subst hx
   exact a2N p w (h.int)
  ·exact a6t x w _ b o _ c h.int h4 h5 rfl rfl hl
theorem Raw.toV {w:World} {v:Value} {x:Int} (h:Raw w v x):∃ ok,fC w v ok x:=by
 obtain⟨neg,s,l,h1,h2,h3,h4⟩:=h
 exact⟨_,neg,s,l,h1,h2,h3,h4,rfl⟩
theorem fM (v:Value) (x:Int) (w:World) (h:Raw w v x) (hl:isz x<=1000000000) :
  Calls Tryz.prog 164 #[v] w (lU x w):=by
 obtain⟨ok,h⟩:=h.toV
 exact a2O v ok x w h hl
theorem qN {P:Program} {w:World} {ops:Array Oper} {rest:List Oper} {o:Oper} {a:Act} {Q:Exit->Act->World->Prop} (hgd:o.guard=none) (s x:Operand) (t:TypeId)
  (hop:o.op=Op.call { callee:=Callee.builtin Builtin.append,args:=#[s,x],argTypes:=#[t,t] })
  (e:TypeId) (i:TypeInfo) (h1:P.underlying t=some (.slice e)) (h2:P.info? e=some i)
  (b:Addr) (hs:a.eval s=.slice (some b) 0 0) {q:Option Addr} (hx:a.eval x=.slice q 0 0)
  (h:wpList P ops Q rest (a.put o.dst (.slice (some b) 0 0)) w):wpList P ops Q (o::rest) a w :=
 wpList_plain hgd fun _ hK=>by
  have hrun:(Builtin.append_ #[t,t] o.type #[.slice (some b) 0 0,.slice q 0 0]).run P w=.ok (.slice (some b) 0 0) w:=by
   cases q<;>simp[Builtin.append_,oz h1,sizeOf,typeInfo,h2,Builtin.lenOf,Builtin.firstCells,loadCells,loadCellsFrom,gy,storeCells]
  unfold Oper.wp
  simp[execOp,hop,resolve,invoke,builtin,hs,hx,hrun,Result.andThen]
  exact hK _ _ h
theorem zY (W:World):(W.alloc (.cells #[] 148)).ownsRow W.heap.size 148 1 (.slice (some ⟨W.heap.size,0,none⟩) 0 0) 0 []:=World.ownsRow_made W #[] 0 (ak _) (by simp[maxLen]) (by simp)
theorem vF (w:World) (cs:List Value) (T:TypeId):((w.alloc (.cells cs.toArray T)).alloc (.cells #[] 148)).ownsRow (w.heap.size+1) 148 1 (.slice (some ⟨w.heap.size+1,0,none⟩) 0 0) 0 []:=by simpa using zY (w.alloc (.cells cs.toArray T))
theorem AU {w:World} {p:Option Addr} {c k:Nat} {l:List Nat} {flag neg:Bool} {L:List Nat} (hLq:l.take k=L) (hR:Rd w (.slice p L.length c) L) (hL:Low l) (hz:val (l.take k)=val l) (hf:(k=0/\flag=false)\/(0<k/\k<=l.length/\gr l (k-1)≠0/\flag=neg)) :
  bW w (.agg #[.bool flag,.slice p L.length c]) (sg neg (val l)):=by
 subst hLq
 have ht:dig (val l)=l.take k:=by
  rcases hf with⟨rfl,_⟩|⟨h0,h1,h2,_⟩
  ·exact xA hL (qw _) hz (.inl rfl)
  ·exact xA hL h1 hz (.inr h2)
 refine⟨_,?_,by rw[a2R,ht];exact hR⟩
 rcases hf with⟨rfl,rfl⟩|⟨h0,h1,h2,rfl⟩
 ·have:val l=0:=by rw[<-hz];simp[val]
  rw[this,ZG];simp
 ·have:val l≠0:=fun e=>by
   rw[e,dL] at ht
   have:=zl List.length ht
   rw[jy] at this
   simp at this;omega
  rw[a9O this]
def a6I (x:Int) (w:World) (e:Ending) (w':World):Prop:=∃ g p n c,e=.returned (.agg #[.bool g,.slice p n c])/\bW w' (.agg #[.bool g,.slice p n c]) x/\(∀ k,(Value.slice p n c).ownBlock=some k->w.heap.size<=k)/\Below w.heap.size w w'
def b0z (l:List Nat) (w:World) (e:Ending) (w':World):Prop:=∃ s,e=.returned s/\Rd w' s l/\(∀ k,s.ownBlock=some k->w.heap.size<=k)/\Below w.heap.size w w'
theorem a2I (s:Value) (l:List Nat) (w:World) (hs:Rd w s l) (hl:Low l) (hn:l.length<=2000000001) :
  Calls Tryz.prog 115 #[.bool true,s] w (a6I (sg true (val l)) w):=by
 obtain⟨i0,hi,hz0,hz1,hz2⟩:=zh gB
 have HL:=bn hl
 clear hl
 rcases hs with⟨p,rfl,rfl⟩|⟨b,o,c,rfl,h2,h3,h4,h5⟩
 ·go_enter Tryz.func115,Tryz.ntmps115
  go_wp2
  go_loop [5,8,9,10,11,12,13,14,15,16,17,18,19] (fun n _ _ _ _ _ _ _ _ _ _ _ _=>n=.int .i64 0) (fun n _ _ _ _ _ _ _ _ _ _ _ _=>0)
  case atStart=>rfl
  case round =>
   subst hrel
   go_wp2_with (at_builtin;refine qN rfl _ _ 43 rfl 148 i0 jw hi _ rfl rfl ?_)
   exact iw (v:=.agg #[.bool false,.slice (some ⟨w.heap.size+1,0,none⟩) 0 0]) (by simp[results,Tryz.results115,go_sem]) rfl ⟨_,_,_,_,rfl,by simpa [val,sg] using bW.ZV (by simp),fun k hk=>by simp[Value.ownBlock] at hk;omega,((bg _ _).alloc (ak _) _).alloc (by simp) _⟩
 ·have H5:=bn h5
  clear h5
  go_enter Tryz.func115,Tryz.ntmps115
  go_wp2
  go_loop [5,8,9,10,11,12,13,14,15,16,17,18,19] (fun n _ _ _ _ _ _ _ _ _ _ _ _=>∃ k:Nat,k<=l.length/\n=.int .i64 (k:Nat)/\Hid (val (l.take k)=val l)) (fun n _ _ _ _ _ _ _ _ _ _ _ _=>(intOf n).toNat)
  case atStart=>exact⟨l.length,ak _,rfl,by simp[Hid]⟩
  case round =>
   obtain⟨k,hk,rfl,hz⟩:=hrel
   cases k with
   | zero =>
    have HK:Hid ((l.take 0).length=0):=by unfold Hid;simp
    obtain⟨L,hL⟩:∃ L,l.take (0)=L:=⟨_,rfl⟩
    have HLn:Hid (L.length=0):=by rw[<-hL];exact HK.out
    have HCL:Hid (∀ i,i<L.length->w.cell? ⟨b,o+i,none⟩=some (.int .u32 (gr L i:Nat))):=fun i hi=>by
     have hi2:i<0:=by have:=HLn.out;omega
     rw[<-hL,AA hi2]
     exact H5.out i (by omega)
    have HLq:=bn hL
    clear hL HK
    go_wp2_with (at_builtin;refine wz _ rfl _ _ 43 rfl (w.heap.size+1) 148 i0 (.int .u32 0) 1 4 jw hi hz0 hz1 hz2 rfl (by decide) _ _ _ rfl (vF w [.bool false,.slice none 0 0] 45) ⟨b,o,none⟩ (0) c (cells32 L) rfl (by rw[iM,HLn.out]) (lW fun i hi=>(yg _ _ ⟨b,o+i,none⟩ (by simp;omega)).trans ((yg _ _ ⟨b,o+i,none⟩ h4).trans (HCL.out i hi))) (kF _) (by unfold maxLen;omega) (by omega) (by simp) ?_)
    intro v' w1 hown hgrow _
    have hbw:Below (w.heap.size+1) (w.alloc (.cells #[.bool false,.slice none 0 0] 45)) w1:=((bg _ _).alloc (by simp) _).grown hgrow (by simp) (fun j e=>Nat.le_of_eq (Option.some.inj e))
    have hR:=Rd.bU (l:=L) (by rw[HLn.out];simpa using qZ hown (qw _))
    obtain⟨p2,c2,rfl,_,_⟩:=hR.form
    have q1:=(Bx.new w [.bool false,.slice none 0 0] 45).below hbw (by omega)
    have r0:=q1.c0
    have r1:=q1.c1
    have f0:=q1.f0
    have f1:=q1.f1
    go_wp2
    exact iw (v:=.agg #[.bool false,.slice p2 L.length c2]) (by simp[results,Tryz.results115,go_sem,r0,r1]) rfl ⟨_,_,_,_,rfl,bW.aG (AU (neg:=true) (flag:=false) HLq.out hR HL.out hz.out (.inl ⟨rfl,rfl⟩)) q1 rfl rfl _ _,fun k hk=>Nat.le_of_succ_le (hown.lt k hk).1,Below.aG (((bg _ _).alloc (ak _) _).trans (hbw.mono (by simp))) (ak _) _ _⟩
   | succ k =>
    have hc:=H5.out k (by omega)
    by_cases hg:gr l k=0
    ·have HV:=bn (uU (by omega) hg)
     rw[hg] at hc
     have HG:=bn hg
     clear hg
     go_wp2
     go_round
     case rel=>exact⟨k,by omega,by go_num,by unfold Hid;rw[HV.out,hz.out]⟩
     case measure=>simp[intOf]
    ·have hg':((gr l k:Int)==0)=false:=by simp;omega
     have HG:=bn hg
     clear hg
     have HK:Hid ((l.take (k+1)).length=k+1):=by unfold Hid;rw[jy];omega
     obtain⟨L,hL⟩:∃ L,l.take (k+1)=L:=⟨_,rfl⟩
     have HLn:Hid (L.length=k+1):=by rw[<-hL];exact HK.out
     have HCL:Hid (∀ i,i<L.length->w.cell? ⟨b,o+i,none⟩=some (.int .u32 (gr L i:Nat))):=fun i hi=>by
      have hi2:i<k+1:=by have:=HLn.out;omega
      rw[<-hL,AA hi2]
      exact H5.out i (by omega)
     have HLq:=bn hL
     clear hL HK
     go_wp2_with (at_builtin;refine wz _ rfl _ _ 43 rfl (w.heap.size+1) 148 i0 (.int .u32 0) 1 4 jw hi hz0 hz1 hz2 rfl (by decide) _ _ _ rfl (vF w [.bool false,.slice none 0 0] 45) ⟨b,o,none⟩ (k+1) c (cells32 L) rfl (by rw[iM,HLn.out]) (lW fun i hi=>(yg _ _ ⟨b,o+i,none⟩ (by simp;omega)).trans ((yg _ _ ⟨b,o+i,none⟩ h4).trans (HCL.out i hi))) (kF _) (by unfold maxLen;omega) (by omega) (by simp) ?_)
     intro v' w1 hown hgrow _
     have hbw:Below (w.heap.size+1) (w.alloc (.cells #[.bool false,.slice none 0 0] 45)) w1:=((bg _ _).alloc (by simp) _).grown hgrow (by simp) (fun j e=>Nat.le_of_eq (Option.some.inj e))
     have hR:=Rd.bU (l:=L) (by rw[HLn.out];simpa using qZ hown (qw _))
     obtain⟨p2,c2,rfl,_,_⟩:=hR.form
     have q1:=(Bx.new w [.bool false,.slice none 0 0] 45).below hbw (by omega)
     have r0:=q1.c0
     have r1:=q1.c1
     have f0:=q1.f0
     have f1:=q1.f1
     go_wp2
     exact iw (v:=.agg #[.bool true,.slice p2 L.length c2]) (by simp[results,Tryz.results115,go_sem,r0,r1]) rfl ⟨_,_,_,_,rfl,bW.aG (AU (neg:=true) (flag:=true) HLq.out hR HL.out hz.out (.inr ⟨by omega,hk,HG.out,rfl⟩)) q1 rfl rfl _ _,fun k hk=>Nat.le_of_succ_le (hown.lt k hk).1,Below.aG (((bg _ _).alloc (ak _) _).trans (hbw.mono (by simp))) (ak _) _ _⟩
theorem a1m (s:Value) (l:List Nat) (w:World) (hs:Rd w s l) (hl:Low l) (hn:l.length<=2000000001) :
  Calls Tryz.prog 115 #[.bool false,s] w (a6I (sg false (val l)) w):=by
 obtain⟨i0,hi,hz0,hz1,hz2⟩:=zh gB
 have HL:=bn hl
 clear hl
 rcases hs with⟨p,rfl,rfl⟩|⟨b,o,c,rfl,h2,h3,h4,h5⟩
 ·go_enter Tryz.func115,Tryz.ntmps115
  go_wp2
  go_loop [5,8,9,10,11,12,13,14,15,16,17,18,19] (fun n _ _ _ _ _ _ _ _ _ _ _ _=>n=.int .i64 0) (fun n _ _ _ _ _ _ _ _ _ _ _ _=>0)
  case atStart=>rfl
  case round =>
   subst hrel
   go_wp2_with (at_builtin;refine qN rfl _ _ 43 rfl 148 i0 jw hi _ rfl rfl ?_)
   exact iw (v:=.agg #[.bool false,.slice (some ⟨w.heap.size+1,0,none⟩) 0 0]) (by simp[results,Tryz.results115,go_sem]) rfl ⟨_,_,_,_,rfl,by simpa [val,sg] using bW.ZV (by simp),fun k hk=>by simp[Value.ownBlock] at hk;omega,((bg _ _).alloc (ak _) _).alloc (by simp) _⟩
 ·have H5:=bn h5
  clear h5
  go_enter Tryz.func115,Tryz.ntmps115
  go_wp2
  go_loop [5,8,9,10,11,12,13,14,15,16,17,18,19] (fun n _ _ _ _ _ _ _ _ _ _ _ _=>∃ k:Nat,k<=l.length/\n=.int .i64 (k:Nat)/\Hid (val (l.take k)=val l)) (fun n _ _ _ _ _ _ _ _ _ _ _ _=>(intOf n).toNat)
  case atStart=>exact⟨l.length,ak _,rfl,by simp[Hid]⟩
  case round =>
   obtain⟨k,hk,rfl,hz⟩:=hrel
   cases k with
   | zero =>
    have HK:Hid ((l.take 0).length=0):=by unfold Hid;simp
    obtain⟨L,hL⟩:∃ L,l.take (0)=L:=⟨_,rfl⟩
    have HLn:Hid (L.length=0):=by rw[<-hL];exact HK.out
    have HCL:Hid (∀ i,i<L.length->w.cell? ⟨b,o+i,none⟩=some (.int .u32 (gr L i:Nat))):=fun i hi=>by
     have hi2:i<0:=by have:=HLn.out;omega
     rw[<-hL,AA hi2]
     exact H5.out i (by omega)
    have HLq:=bn hL
    clear hL HK
    go_wp2_with (at_builtin;refine wz _ rfl _ _ 43 rfl (w.heap.size+1) 148 i0 (.int .u32 0) 1 4 jw hi hz0 hz1 hz2 rfl (by decide) _ _ _ rfl (vF w [.bool false,.slice none 0 0] 45) ⟨b,o,none⟩ (0) c (cells32 L) rfl (by rw[iM,HLn.out]) (lW fun i hi=>(yg _ _ ⟨b,o+i,none⟩ (by simp;omega)).trans ((yg _ _ ⟨b,o+i,none⟩ h4).trans (HCL.out i hi))) (kF _) (by unfold maxLen;omega) (by omega) (by simp) ?_)
    intro v' w1 hown hgrow _
    have hbw:Below (w.heap.size+1) (w.alloc (.cells #[.bool false,.slice none 0 0] 45)) w1:=((bg _ _).alloc (by simp) _).grown hgrow (by simp) (fun j e=>Nat.le_of_eq (Option.some.inj e))
    have hR:=Rd.bU (l:=L) (by rw[HLn.out];simpa using qZ hown (qw _))
    obtain⟨p2,c2,rfl,_,_⟩:=hR.form
    have q1:=(Bx.new w [.bool false,.slice none 0 0] 45).below hbw (by omega)
    have r0:=q1.c0
    have r1:=q1.c1
    have f0:=q1.f0
    have f1:=q1.f1
    go_wp2
    exact iw (v:=.agg #[.bool false,.slice p2 L.length c2]) (by simp[results,Tryz.results115,go_sem,r0,r1]) rfl ⟨_,_,_,_,rfl,bW.aG (AU (neg:=false) (flag:=false) HLq.out hR HL.out hz.out (.inl ⟨rfl,rfl⟩)) q1 rfl rfl _ _,fun k hk=>Nat.le_of_succ_le (hown.lt k hk).1,Below.aG (((bg _ _).alloc (ak _) _).trans (hbw.mono (by simp))) (ak _) _ _⟩
   | succ k =>
    have hc:=H5.out k (by omega)
    by_cases hg:gr l k=0
    ·have HV:=bn (uU (by omega) hg)
     rw[hg] at hc
     have HG:=bn hg
     clear hg
     go_wp2
     go_round
     case rel=>exact⟨k,by omega,by go_num,by unfold Hid;rw[HV.out,hz.out]⟩
     case measure=>simp[intOf]
    ·have hg':((gr l k:Int)==0)=false:=by simp;omega
     have HG:=bn hg
     clear hg
     have HK:Hid ((l.take (k+1)).length=k+1):=by unfold Hid;rw[jy];omega
     obtain⟨L,hL⟩:∃ L,l.take (k+1)=L:=⟨_,rfl⟩
     have HLn:Hid (L.length=k+1):=by rw[<-hL];exact HK.out
     have HCL:Hid (∀ i,i<L.length->w.cell? ⟨b,o+i,none⟩=some (.int .u32 (gr L i:Nat))):=fun i hi=>by
      have hi2:i<k+1:=by have:=HLn.out;omega
      rw[<-hL,AA hi2]
      exact H5.out i (by omega)
     have HLq:=bn hL
     clear hL HK
     go_wp2_with (at_builtin;refine wz _ rfl _ _ 43 rfl (w.heap.size+1) 148 i0 (.int .u32 0) 1 4 jw hi hz0 hz1 hz2 rfl (by decide) _ _ _ rfl (vF w [.bool false,.slice none 0 0] 45) ⟨b,o,none⟩ (k+1) c (cells32 L) rfl (by rw[iM,HLn.out]) (lW fun i hi=>(yg _ _ ⟨b,o+i,none⟩ (by simp;omega)).trans ((yg _ _ ⟨b,o+i,none⟩ h4).trans (HCL.out i hi))) (kF _) (by unfold maxLen;omega) (by omega) (by simp) ?_)
     intro v' w1 hown hgrow _
     have hbw:Below (w.heap.size+1) (w.alloc (.cells #[.bool false,.slice none 0 0] 45)) w1:=((bg _ _).alloc (by simp) _).grown hgrow (by simp) (fun j e=>Nat.le_of_eq (Option.some.inj e))
     have hR:=Rd.bU (l:=L) (by rw[HLn.out];simpa using qZ hown (qw _))
     obtain⟨p2,c2,rfl,_,_⟩:=hR.form
     have q1:=(Bx.new w [.bool false,.slice none 0 0] 45).below hbw (by omega)
     have r0:=q1.c0
     have r1:=q1.c1
     have f0:=q1.f0
     have f1:=q1.f1
     go_wp2
     exact iw (v:=.agg #[.bool false,.slice p2 L.length c2]) (by simp[results,Tryz.results115,go_sem,r0,r1]) rfl ⟨_,_,_,_,rfl,bW.aG (AU (neg:=false) (flag:=false) HLq.out hR HL.out hz.out (.inr ⟨by omega,hk,HG.out,rfl⟩)) q1 rfl rfl _ _,fun k hk=>Nat.le_of_succ_le (hown.lt k hk).1,Below.aG (((bg _ _).alloc (ak _) _).trans (hbw.mono (by simp))) (ak _) _ _⟩
theorem oW (neg:Bool) (s:Value) (l:List Nat) (w:World) (hs:Rd w s l) (hl:Low l) (hn:l.length<=2000000001) :
  Calls Tryz.prog 115 #[.bool neg,s] w (a6I (sg neg (val l)) w):=by
 cases neg
 ·exact a1m s l w hs hl hn
 ·exact a2I s l w hs hl hn
theorem fV (neg:Bool) (s:Value) (l:List Nat) (w:World) (hs:Rd w s l) (hl:Low l) (hn:l.length<=2000000001) :
  Calls Tryz.prog 115 #[.bool neg,s] w (lU (sg neg (val l)) w) :=
 (oW neg s l w hs hl hn).mono fun e w' ⟨g,p,n,c,h1,h2,_,h4⟩=>⟨_,h1,h2,h4⟩
theorem zL (o:List Nat) (r:Nat):val (o++[r])=val o+BB ^ o.length*r:=by rw[val_append];simp[bP,val]
theorem yX {o:List Nat} {r:Nat} (h:Low o) (hr:r<=999999999):Low (o++[r]):=Low.append.2 ⟨h,Low.cons.2 ⟨by rw[bI];omega,Low.nil⟩⟩
structure WJ (a b o:List Nat) (k c:Nat):Prop where
 len:o.length=k
 low:Low o
 vl:val o+BB ^ k*c=val (a.take k)+val (b.take k)
 car:c<=1
theorem WJ.zero (a b:List Nat):WJ a b [] 0 0:=⟨rfl,Low.nil,by simp[val],by omega⟩
theorem WJ.step {a b o:List Nat} {k c r q:Nat} (h:WJ a b o k c) (ha:gr a k<=999999999) (hb:gr b k<=999999999) (hs:gr a k+gr b k+c=r+1000000000*q) (hr:r<=999999999):WJ a b (o++[r]) (k+1) q:=by
 have hc:=h.car
 refine⟨by simp[h.len],yX h.low hr,?_,by omega⟩
 rw[zL,aW,aW,h.len,Nat.pow_succ]
 have:=h.vl
 simp only[bI] at *
 have e:1000000000 ^ k*(gr a k+gr b k+c)=1000000000 ^ k*(r+1000000000*q):=by rw[hs]
 grind
theorem WJ.done {a b o:List Nat} {k c:Nat} (h:WJ a b o k c) (h1:a.length<=k) (h2:b.length<=k):Low (o++[c])/\val (o++[c])=val a+val b:=by
 have hc:=h.car
 have hv:=h.vl
 rw[dU h1,dU h2] at hv
 exact⟨yX h.low (by omega),by rw[zL,h.len];exact hv⟩
structure WQ (a o:List Nat) (d k c:Nat):Prop where
 len:o.length=k
 low:Low o
 vl:val o+BB ^ k*c=val (a.take k)*d
 car:c<=999999999
theorem WQ.zero (a:List Nat) (d:Nat):WQ a [] d 0 0:=⟨rfl,Low.nil,by simp[val],by omega⟩
theorem WQ.step {a o:List Nat} {d k c r q:Nat} (h:WQ a o d k c) (hs:gr a k*d+c=r+1000000000*q) (hr:r<=999999999) (hq:q<=999999999):WQ a (o++[r]) d (k+1) q:=by
 refine⟨by simp[h.len],yX h.low hr,?_,hq⟩
 rw[zL,aW,h.len,Nat.pow_succ]
 have:=h.vl
 simp only[bI] at *
 have e:1000000000 ^ k*(gr a k*d+c)=1000000000 ^ k*(r+1000000000*q):=by rw[hs]
 grind
theorem WQ.done {a o:List Nat} {d k c:Nat} (h:WQ a o d k c) (h1:a.length<=k):Low (o++[c])/\val (o++[c])=val a*d:=by
 have hv:=h.vl
 rw[dU h1] at hv
 exact⟨yX h.low h.car,by rw[zL,h.len];exact hv⟩
structure MInv (a b o:List Nat) (k c:Nat):Prop where
 len:o.length=k
 low:Low o
 vl:val o+val (b.take k)=val (a.take k)+BB ^ k*c
 car:c<=1
theorem MInv.zero (a b:List Nat):MInv a b [] 0 0:=⟨rfl,Low.nil,by simp[val],by omega⟩
theorem MInv.step {a b o:List Nat} {k c r c':Nat} (h:MInv a b o k c) (hs:r+gr b k+c=gr a k+1000000000*c') (hr:r<=999999999) (hc:c'<=1):MInv a b (o++[r]) (k+1) c':=by
 refine⟨by simp[h.len],yX h.low hr,?_,hc⟩
 rw[zL,aW,aW,h.len,Nat.pow_succ]
 have:=h.vl
 simp only[bI] at *
 have e:1000000000 ^ k*(r+gr b k+c)=1000000000 ^ k*(gr a k+1000000000*c'):=by rw[hs]
 grind
theorem MInv.done {a b o:List Nat} {k c:Nat} (h:MInv a b o k c) (h1:a.length<=k) (h2:b.length<=k) (hle:val b<=val a):val o=val a-val b:=by
 have hv:=h.vl
 rw[dU h1,dU h2] at hv
 have hl:=mG h.low
 rw[h.len] at hl
 have hc:=h.car
 rcases yj c with h0|h0
 ·subst h0;simp at hv;omega
 ·have:c=1:=by omega
  subst this
  simp at hv
  omega
structure WL (a o:List Nat) (d k r:Nat):Prop where
 len:o.length=a.length
 low:Low (o.drop k)
 vl:val (a.drop k)=val (o.drop k)*d+r
 rest:r<d
theorem CB {a:List Nat} {k:Nat} (hk:k<a.length):val (a.drop k)=gr a k+BB*val (a.drop (k+1)):=by
 rw[Ai hk,bP,oG hk]
theorem WL.start (a:List Nat) {d:Nat} (hd:0<d):WL a (List.replicate a.length 0) d a.length 0:=⟨by simp,by simp[Low.nil],by simp[val],hd⟩
theorem WL.step {a o:List Nat} {d k r q r':Nat} (h:WL a o d (k+1) r) (hk:k<a.length) (hn:r*1000000000+gr a k=q*d+r') (hr:r'<d) (ha:gr a k<=999999999):WL a (o.set k q) d k r'/\q<=999999999:=by
 have hq:q<=999999999:=by
  rcases Aa 999999999 q with h1|h1
  ·exfalso
   have e1:1000000000*d<=q*d:=ku _ h1
   have e2:=h.rest
   have e3:(r+1)*1000000000<=d*1000000000:=ku _ e2
   rw[zy] at e3
   rw[uw d] at e3
   omega
  ·exact h1
 have hl:k<o.length:=by rw[h.len];exact hk
 have hs:(o.set k q).drop k=q::o.drop (k+1):=by
  rw[Ai (by simpa using hl),List.drop_set_of_lt (by omega)]
  simp
 refine⟨⟨by simp[h.len],?_,?_,hr⟩,hq⟩
 ·rw[hs];exact Low.cons.2 ⟨by rw[bI];omega,h.low⟩
 ·rw[hs,CB hk,h.vl,bP,bI]
  grind
theorem WL.done {a o:List Nat} {d r:Nat} (h:WL a o d 0 r):Low o/\val o=val a / d/\r=val a%d:=by
 have h1:=h.vl
 simp at h1
 have hr:=h.rest
 have hl:=h.low
 simp at hl
 refine⟨hl,?_,?_⟩
 ·rw[h1,uw,Nat.mul_add_div (by omega),Dv hr];simp
 ·rw[h1,uw,Nat.mul_add_mod,Cj hr]
end Go.Proofs.YtbkocjmmbkifjaaGreat
