/-
  Lemmas for the theorem vestimables_holds, part 26 of 36.
-/
import Derived.Deep.RegionLawGrows
import Derived.Test.YtgplhbhfdgempaaGreatQe25
namespace Go.Proofs.YtgplhbhfdgempaaGreat
open Go Go.RowKit
set_option maxRecDepth 100000
set_option maxHeartbeats 1000000
set_option linter.unusedVariables false
set_option linter.unusedSimpArgs false
def mS (a:MQ) (b:LQ'):MR:=aY a.length (wdM a+1) (iC a b).1
theorem a3J (a:MQ) (b:LQ'):Ech a.length (jK (wdM a) (ent a) (fun i _=>lv b i)) (wdM a) (iC a b).1 (iC a b).2:=jD _ _ _
theorem b4W {R C:Nat} {f:Nat->Nat->Rat} (h:1<=R):wdM (aY R C f)=C:=by
 show ((aY R C f).getD 0 []).length=C;rw[jH (by omega)];simp
theorem c2M {a:MQ} {b:LQ'} (h:b.length=a.length):aY a.length (wdM a+1) (jK (wdM a) (ent a) (ent (IK b)))=aY a.length (wdM a+1) (jK (wdM a) (ent a) (fun i _=>lv b i)) :=
 lU fun i hi j hj=>by
  unfold jK
  by_cases e:j<wdM a
  ·rw[ig e,ig e]
  ·rw[iq e,iq e];unfold IK;exact mF (by omega) (by omega)
theorem c2O (a:MQ) (b:LQ'):rdp (aY a.length (wdM a+1) (jK (wdM a) (ent a) (fun i _=>lv b i))) (wdM a)=(iC a b).2:=by
 unfold rdp;rw[aS];exact(b1E (by omega)).1
theorem c2N (a:MQ) (b:LQ'):aY a.length (wdM a+1) (rdm (aY a.length (wdM a+1) (jK (wdM a) (ent a) (fun i _=>lv b i))) (wdM a))=mS a b:=by
 unfold rdm mS;rw[aS]
 exact lU fun i hi j hj=>(b1E (by omega)).2 i hi j hj
theorem b3g {b:LQ'} (h1:1<=b.length) (h2:b.length<=64) (hs:∀ q ∈ b,rsz q<=100000000):okM (IK b):=⟨by
 have:=uN (f:=fun i _=>lv b i) h1 h2 (aj 1) (by omega)
 exact this.self,fun i hi j hj=>by
 have hw:wdM (IK b)=1:=VX h1
 rw[hw] at hj
 have hi:i<b.length:=by rw[show (IK b).length=b.length from bF] at hi;exact hi
 rw[show ent (IK b) i j=lv b i from mF hi hj]
 exact hs _ (by unfold lv;rw[bf,bn hi];exact jv hi)⟩
theorem a7g {q:Rat} (h:(sgn q.num != 0)=false):q=0:=by
 have h:sgn q.num=0:=by simpa using h
 exact Rat.num_eq_zero.mp (Du.mp h)
def sx1 (a:MQ) (c:Nat):LR:=(List.range (wdM a)).map fun d=>if d<c then fD 0 else bU
def sx2 (a:MQ) (b:LQ') (t:Nat):LR:=(List.range (wdM a)).map fun c=>fD (if c ∈ (iC a b).2.take t then (iC a b).1 ((iC a b).2.idxOf c) (wdM a) else 0)
theorem b2w (a:MQ):sx1 a 0=List.replicate (wdM a) bU:=by
 unfold sx1;apply Bh<;>simp
theorem b4T (a:MQ) (c:Nat):(sx1 a c).set c (fD 0)=sx1 a (c+1):=by
 unfold sx1;rw[map_set]
 refine jl fun d _=>?_
 by_cases e:d=c
 ·rw[ig e,ig (by omega)]
 ·rw[iq e]
  by_cases e2:d<c
  ·rw[ig e2,ig (by omega)]
  ·rw[iq e2,iq (by omega)]
theorem b4S (a:MQ) (b:LQ'):sx1 a (wdM a)=sx2 a b 0:=by
 unfold sx1 sx2
 refine jl fun d hd=>?_
 rw[ig (vk.mp hd)];simp
theorem b4V {a:MQ} {b:LQ'} {t:Nat} (hd:(iC a b).2.Nodup) (ht:t<(iC a b).2.length):(sx2 a b t).set (iC a b).2[t] (fD ((iC a b).1 t (wdM a)))=sx2 a b (t+1):=by
 unfold sx2;rw[map_set]
 refine jl fun d _=>?_
 by_cases e:d=(iC a b).2[t]
 ·rw[ig e,ig ((yN ht).mpr (.inr e)),e,xX hd ht]
 ·rw[iq e]
  by_cases e2:d ∈ (iC a b).2.take t
  ·rw[ig e2,ig ((yN ht).mpr (.inl e2))]
  ·rw[iq e2,iq (fun h=>((yN ht).mp h).elim e2 e)]
theorem b4U (a:MQ) (b:LQ'):(sx2 a b (iC a b).2.length).map (fun q=>q.x)=FZ a b:=by
 unfold sx2 FZ
 rw[List.map_map]
 refine jl fun d _=>?_
 show (if d ∈ List.take (iC a b).2.length (iC a b).2 then (iC a b).1 ((iC a b).2.idxOf d) (wdM a) else 0)=xs (iC a b).1 (iC a b).2 (wdM a) d
 rw[List.take_length];rfl
def GH (a:MQ) (b:LQ'):LQ' × Int × Unit:=if XF a b=true then (FZ a b,0,()) else ([],6,())
def c1u:Ctr:=⟨[tM,.list tQ],[.list tQ,tI],fun x=>okM x.1/\wdM (show MQ from x.1)<=63/\(show LQ' from x.2.1).length=(show MQ from x.1).length/\(∀ q ∈ (show LQ' from x.2.1),rsz q<=10000000)/\FX (show MQ from x.1).length (wdM (show MQ from x.1)+1) (jK (wdM (show MQ from x.1)) (ent x.1) (fun i _=>lv x.2.1 i)) (wdM (show MQ from x.1)),fun x=>GH x.1 x.2.1⟩
theorem b2j:aW Tryz.prog 61 c1u:=by
 refine bH ((((((((nil0.ad a7v).ad ZX).an b1F).an b5i).ad b3h).ad a2R).ad a2V).ad a2W) ⟨[],[],[]⟩ Tryz.func61 rfl (by decide) (fun x=>[.inv {k:Nat // k<=(show MQ from x.1).length-(iC (show MQ from x.1) (show LQ' from x.2.1)).2.length/\∀ i,(iC (show MQ from x.1) (show LQ' from x.2.1)).2.length<=i->i<(iC (show MQ from x.1) (show LQ' from x.2.1)).2.length+k->(iC (show MQ from x.1) (show LQ' from x.2.1)).1 i (wdM (show MQ from x.1))=0} (fun k=>[(39,.val tI (k.1:Int))]) (fun k=>[(30,.fro (.list tR) (mS (show MQ from x.1) (show LQ' from x.2.1)) 0)]) (fun k=>(show MQ from x.1).length-k.1) ⟨0,by omega,fun i h1 h2=>absurd h2 (by omega)⟩ (fun _=>[]),
  .inv {c:Nat // c<=wdM (show MQ from x.1)} (fun c=>[(54,.val tI (c.1:Int))]) (fun c=>[(30,.fro (.list tR) (mS (show MQ from x.1) (show LQ' from x.2.1)) 0),(51,.row 64 tR (sx1 (show MQ from x.1) c.1) 0)]) (fun c=>wdM (show MQ from x.1)-c.1) ⟨0,by omega⟩ (fun _=>[]),
  .inv {t:Nat // t<=(iC (show MQ from x.1) (show LQ' from x.2.1)).2.length} (fun t=>[(64,.val tI (t.1:Int))]) (fun t=>[(30,.fro (.list tR) (mS (show MQ from x.1) (show LQ' from x.2.1)) 0),(51,.row 64 tR (sx2 (show MQ from x.1) (show LQ' from x.2.1) t.1) 0)]) (fun t=>(iC (show MQ from x.1) (show LQ' from x.2.1)).2.length-t.1) ⟨0,by omega⟩ (fun _=>[])]) (fun x hp=>?_)
 obtain⟨a,b,u⟩:=x
 change List (List Rat) at a
 change List Rat at b
 refine bP (let A₀:=(aY a.length (wdM a+wdM (IK b)) (jK (wdM a) (ent a) (ent (IK b))));let aQ:=(List.getD a 0 (aC Rat)).length;let A₁:=(aB aQ).toNat;let bZ:=(dA (rdp A₀ A₁)).length;let dJ:=(aY A₀.length (wdM A₀) (rdm A₀ A₁));let bK:=dJ.length;let A₂:=(List.drop (aB bZ).toNat (List.take (aB bK).toNat dJ));((okM a/\(∀ (q:Rat),q ∈ b->rsz q<=100000000)/\a=a/\List.length b=List.length a)/\True)/\(asT Int 0<=0/\0<aB a.length/\True)/\((1<=List.length b/\List.length b<=64)/\(okM a/\okM (IK b)/\List.length a=List.length (IK b))/\True)/\(a5c A₀ (aB aQ)/\True)/\(0<=aB bZ/\aB bZ<=aB bK/\aB bK<=aB bK/\True)/\(asT Int 0=0/\aY A₀.length (wdM A₀) (rdm A₀ A₁)=mS a b/\True)/\∀ (i:{ k:Nat // k<=List.length a-List.length (iC a b).2/\∀ (i:Nat),List.length (iC a b).2<=i->i<List.length (iC a b).2+k->Prod.fst (iC a b) i (wdM a)=0 }),let dS:=(List.getD A₂ (aB (aA i)).toNat (aC aF));let gB:=(List.getD dS A₁ bU);asT Bool true=true/\ifB (decide (aB (aA i)<aB A₂.length)) ((0<=aB (aA i)/\aB (aA i)<aB A₂.length/\True)/\(0<=aB aQ/\aB aQ<aB dS.length/\aF.ok gB=true/\rsz (aF.x gB)<=1000000000/\True)/\ifB (sgn (Rat.num (aF.x gB)) != 0) (True/\aC Rat=Prod.fst (GH a b)/\True/\6=Prod.fst (GH a b).2/\True) (∃ (i':{ k:Nat // k<=List.length a-List.length (iC a b).2/\∀ (i:Nat),List.length (iC a b).2<=i->i<List.length (iC a b).2+k->Prod.fst (iC a b) i (wdM a)=0 }),List.length a-aA i'<List.length a-aA i/\IntKind.wrap IntKind.i64 (aB (aA i)+1)=aB (aA i')/\mS a b=mS a b/\True)) ((aB aQ=aB aQ/\0<=aB aQ/\aB aQ<=1000000000/\True)/\(asT Int 0=0/\mS a b=mS a b/\List.replicate A₁ bU=sx1 a 0/\True)/\∀ (i:{ c:Nat // c<=wdM a }),asT Bool true=true/\ifB (decide (aB (aA i)<aB (List.replicate A₁ bU).length)) ((iW 0/\0<=aB (aA i)/\aB (aA i)<aB (sx1 a (aA i)).length/\Int.toNat (aB (aA i))<List.length (sx1 a (aA i))/\True)/\∃ (i':{ c:Nat // c<=wdM a }),wdM a-aA i'<wdM a-aA i/\IntKind.wrap IntKind.i64 (aB (aA i)+1)=aB (aA i')/\mS a b=mS a b/\List.set (sx1 a (aA i)) (aB (aA i)).toNat (fD (fA 0))=sx1 a (aA i')/\True) ((asT Int 0=0/\mS a b=mS a b/\sx1 a (aA i)=sx2 a b 0/\True)/\∀ (i:{ t:Nat // t<=List.length (iC a b).2 }),let gQ:=(aB (aA i)).toNat;let eU:=(List.getD (mS a b) gQ (aC aF));let iY:=(List.getD (dA (rdp A₀ A₁)) gQ 0);asT Bool true=true/\ifB (decide (aB (aA i)<aB bZ)) ((0<=aB (aA i)/\aB (aA i)<aB bZ/\True)/\(0<=aB (aA i)/\aB (aA i)<aB (mS a b).length/\0<=aB aQ/\aB aQ<aB eU.length/\0<=List.getD (dA (rdp A₀ A₁)) gQ 0/\List.getD (dA (rdp A₀ A₁)) gQ 0<aB (sx2 a b (aA i)).length/\Int.toNat iY<List.length (sx2 a b (aA i))/\True)/\∃ (i':{ t:Nat // t<=List.length (iC a b).2 }),List.length (iC a b).2-aA i'<List.length (iC a b).2-aA i/\IntKind.wrap IntKind.i64 (aB (aA i)+1)=aB (aA i')/\mS a b=mS a b/\List.set (sx2 a b (aA i)) iY.toNat (List.getD eU A₁ bU)=sx2 a b (aA i')/\True) ((eH (fun(x:Ty.den (Ty.lf Lf.dG))=>bY ((aF.ok x=true)::aC Prop)) (sx2 a b (aA i))/\True)/\List.map (fun(x:Ty.den (Ty.lf Lf.dG))=>aF.x x) (sx2 a b (aA i))=Prod.fst (GH a b)/\True/\0=Prod.fst (GH a b).2/\True)))) (by kernel_rfl) ?_
 have hZ:(⟨false,0,[],[]⟩:aF)=bU:=rfl
 dsimp only[aB,asT,aA,aC,Ty.den,Lf.den] at *
 simp only[hZ,Int.toNat_natCast,aT,ay,au,oh,ny,aH,nameAt,aV,aS,bF,rowAt,iw,gy]
 have hp:okM a/\wdM a<=63/\b.length=a.length/\(∀ q ∈ b,rsz q<=10000000)/\FX a.length (wdM a+1) (jK (wdM a) (ent a) (fun i _=>lv b i)) (wdM a):=hp
 obtain⟨ha,hw,hl,hs,hR⟩:=hp
 have q1:=ha.r64
 have q2:=ha.c64
 have q3:=ha.pos
 have q4:=ha.c1
 have E:=a3J a b
 have hle:=E.le
 have hwa:(List.getD a 0 []).length=wdM a:=rfl
 have hwc:wdM (IK b)=1:=VX (by omega)
 have hok:okM (IK b):=b3g (by omega) (by omega) fun q hq=>by have:=hs q hq;omega
 rw[hwa,hwc,c2M hl,b4W q3,c2O,c2N]
 have lm:(mS a b).length=a.length:=aS _ _ _
 rw[jd (Nat.le_of_eq lm),sO]
 have ld:(List.drop (iC a b).2.length (mS a b)).length=a.length-(iC a b).2.length:=by rw[Ak,lm]
 have lr:∀ i,i<a.length->(mS a b).getD i []=(List.range (wdM a+1)).map fun c=>fD ((iC a b).1 i c):=fun i hi=>jH hi
 have lg:∀ i,i<a.length-(iC a b).2.length->(List.drop (iC a b).2.length (mS a b)).getD i []=(List.range (wdM a+1)).map fun c=>fD ((iC a b).1 ((iC a b).2.length+i) c):=fun i hi=>by
  rw[<-lr _ (by omega),bf,List.getElem?_drop,<-bf]
 have lc:(IK b).length=b.length:=bF
 rw[ld,lc]
 have hsz:∀ i,i<a.length->rsz ((iC a b).1 i (wdM a))<=10000000:=fun i hi=>hR (wdM a) (aj _) i hi (wdM a) (by omega)
 refine⟨⟨ha,fun q hq=>by have:=hs q hq;omega,hl⟩,⟨xg 0,by omega⟩,⟨⟨by omega,by omega⟩,ha,hok,by omega⟩,VG q3 (by omega) (by omega) (by omega) (by omega) hR,⟨by omega,by omega,by omega⟩,rfl,fun i=>⟨fun h1=>?_,fun h1=>?_⟩⟩
 ·have hi:i.1<a.length-(iC a b).2.length:=by omega
  rw[lg _ hi,uj,gy,gZ (by omega)]
  refine⟨⟨by omega,by omega⟩,⟨by omega,by omega,rfl,jg (hsz _ (by omega)) (by omega)⟩,fun h2=>?_,fun h2=>⟨⟨i.1+1,by omega,fun k k1 k2=>?_⟩,by simp only;omega,by rw[aZ (by omega) (by omega)];rfl⟩⟩
  ·have e:XF a b=false:=oq fun h=>by
    have:=h ((iC a b).2.length+i.1) (by omega) (by omega)
    rw[show (fD ((iC a b).1 ((iC a b).2.length+i.1) (wdM a))).x=(iC a b).1 ((iC a b).2.length+i.1) (wdM a) from rfl,this] at h2
    revert h2;decide
   have e2:GH a b=([],6,()):=by unfold GH;rw[e];rfl
   rw[e2];exact⟨rfl,rfl⟩
  ·by_cases e:k<(iC a b).2.length+i.1
   ·exact i.2.2 k k1 e
   ·have e2:k=(iC a b).2.length+i.1:=by omega
    rw[e2]
    exact a7g h2
 ·have hi:i.1=a.length-(iC a b).2.length:=by have:=i.2.1;omega
  have e:XF a b=true:=pz fun k k1 k2=>i.2.2 k k2 (by omega)
  have e2:GH a b=(FZ a b,0,()):=by unfold GH;rw[e];rfl
  rw[e2]
  refine⟨⟨by omega,by omega⟩,?_,fun c=>⟨fun h3=>?_,fun h3=>?_⟩⟩
  ·exact(b2w a).symm
  ·rw[Aa] at h3
   have hc:c.1<wdM a:=by omega
   have l4:(sx1 a c.1).length=wdM a:=by simp[sx1]
   rw[l4]
   exact⟨⟨⟨by decide,by decide⟩,by omega,by omega,hc⟩,⟨c.1+1,by omega⟩,by simp only;omega,by rw[aZ (by omega) (by omega)];rfl,b4T a c.1⟩
  ·rw[Aa] at h3
   have hc:c.1=wdM a:=by have:=c.2;omega
   refine⟨by rw[hc];exact b4S a b,fun t=>⟨fun h4=>?_,fun h4=>?_⟩⟩
   ·have ht:t.1<(iC a b).2.length:=by omega
    have hm:=jv ht
    have hp:=E.lt _ hm
    have e1:(dA (iC a b).2).getD t.1 0=((iC a b).2[t.1]:Int):=by unfold dA;simp[bf,ht]
    have l4:(sx2 a b t.1).length=wdM a:=by simp[sx2]
    rw[lm,lr t.1 (by omega),uj,gy,gZ (by omega),e1,l4,Int.toNat_natCast]
    exact⟨⟨by omega,by omega⟩,⟨by omega,by omega,by omega,by omega,by omega,by omega,hp⟩,⟨t.1+1,by omega⟩,by simp only;omega,by rw[aZ (by omega) (by omega)];rfl,b4V E.nd ht⟩
   ·have ht:t.1=(iC a b).2.length:=by have:=t.2;omega
    refine⟨lX.mpr fun q hq=>?_,?_,rfl⟩
    ·obtain⟨d,_,rfl⟩:=ug.mp hq;exact⟨rfl,trivial⟩
    ·rw[ht];exact b4U a b
set_option maxHeartbeats 2000000
theorem QH {P:Program} {ops:Array Oper} {o:Oper} {a:Act} {w:World} {K:Act->World->Prop} {Q:Exit->Act->World->Prop} {E:Prop}
  (hg:o.guard=none) (s x:Operand) (t:TypeId) (hop:o.op=Op.call { callee:=Callee.builtin Builtin.append,args:=#[s,x],argTypes:=#[t,t] })
  (base:Nat) (e:TypeId) (i:TypeInfo) (z:Value) (size bytes:Nat) (h1:P.underlying t=some (.slice e)) (h2:P.info? e=some i) (h3:i.zero=some z) (h4:i.size=size) (h5:i.bytes=bytes) (h6:z.cells.size=size) (h7:0<size)
  (v:Value) (n:Nat) (xs:List Value) (hs:a.eval s=v) (hown:w.ownsRow base e size v n xs)
  (ad:Addr) (m c:Nat) (news:List Value) (hx:a.eval x=.slice (some ad) m c) (hn:news.length=m*size) (hc:∀ j u,news[j]?=some u->w.cell? (ad.add j)=some u) (h1c:∀ u ∈ news,u.oneCell'=true)
  (b1:n+m<=maxLen) (b2:(n+m)*bytes<=140737488355328) (hbase:base<=w.heap.size)
  (hK:∀ v' w',w'.ownsRow base e size v' (n+m) (xs++news)->w.grownBy w' v.ownBlock->(v'=.slice none 0 0↔v=.slice none 0 0/\m=0)->K (a.put o.dst v') w') :
  if Region.wanted o (yielded ops a.tmps)=true then Oper.wp P o a w K Q else E:=by
 have hw:Region.wanted o (yielded ops a.tmps)=true:=by simp[Region.wanted,hg]
 rw[ig hw]
 exact wp_append_own w s x t hop base e i z size bytes h1 h2 h3 h4 h5 h6 h7 v n xs hs hown ad m c news hx hn hc h1c b1 b2 hbase hK
theorem LY {P:Program} {ops:Array Oper} {o:Oper} {a:Act} {w:World} {K:Act->World->Prop} {Q:Exit->Act->World->Prop} {E:Prop}
  (hg:o.guard=none) (s x:Operand) (t:TypeId) (hop:o.op=Op.call { callee:=Callee.builtin Builtin.append,args:=#[s,x],argTypes:=#[t,t] })
  (e:TypeId) (i:TypeInfo) (h1:P.underlying t=some (.slice e)) (h2:P.info? e=some i)
  (b:Addr) (hs:a.eval s=.slice (some b) 0 0) {q:Option Addr} (hx:a.eval x=.slice q 0 0)
  (hK:K (a.put o.dst (.slice (some b) 0 0)) w) :
  if Region.wanted o (yielded ops a.tmps)=true then Oper.wp P o a w K Q else E:=by
 have hw:Region.wanted o (yielded ops a.tmps)=true:=by simp[Region.wanted,hg]
 rw[ig hw]
 have hrun:(Builtin.append_ #[t,t] o.type #[.slice (some b) 0 0,.slice q 0 0]).run P w=.ok (.slice (some b) 0 0) w:=by
  cases q<;>simp[Builtin.append_,qj h1,sizeOf,typeInfo,h2,Builtin.lenOf,Builtin.firstCells,loadCells,loadCellsFrom,jc,storeCells]
 unfold Oper.wp
 simp[execOp,hop,resolve,invoke,builtin,hs,hx,hrun,Result.andThen]
 exact hK
theorem a8P {neg:Bool} {l:List Nat} {k:Nat} (hk:k<l.length) (h:1000000000<=gr l k):MF neg l=false:=by
 cases hv:MF neg l with
 | false=>rfl
 | true =>
  have:=(MG.1 hv).1.1 _ (a9X hk)
  rw[dH] at this
  omega
theorem a8O {neg:Bool} {l:List Nat} (hl:l≠[]) (h:∀ j,j<l.length->gr l j<1000000000):MF neg l=((gr l (l.length-1):Int) != 0):=by
 rw[a1E hl]
 have:(l.any fun g=>decide (1000000000<=g))=false:=by
  rw[yj]
  intro g hg
  obtain⟨i,hi,rfl⟩:=Aw hg
  have:=h i hi
  rw[qZ hi] at this
  simp;omega
 rw[this,Bool.eq_iff_iff]
 simp
theorem jX (v:Value) (ok:Bool) (x:Int) (w:World) (h:iQ w v ok x) :
  Calls Tryz.prog 120 #[v] w fun e w'=>e=.returned (.bool ok)/\Below w.heap.size w w':=by
 obtain⟨neg,s,l,rfl,hs,hb,hx,hok⟩:=h
 have HOK:=dn hok
 clear hok hx hb
 rcases hs with⟨p,rfl,rfl⟩|⟨b,o,c,rfl,h2,h3,h4,h5⟩
 ·go_enter Tryz.func120,Tryz.ntmps120
  go_wp2
  go_loop [4,8,9,10,11,12,13,14,15,16,17,18] (fun i _ _ _ _ _ _ _ _ _ _ _=>i=.int .i64 0) (fun _ _ _ _ _ _ _ _ _ _ _ _=>0)
  case atStart=>rfl
  case round =>
   subst hrel
   go_wp2
   go_ret
   exact⟨iT (by rw[HOK.out,yP]),(dw _ _).alloc (aj _) _⟩
 ·have H5:=dn h5
  have hl:l.length<=9223372036854775807:=by omega
  clear h5
  go_enter Tryz.func120,Tryz.ntmps120
  go_wp2
  go_loop [4,8,9,10,11,12,13,14,15,16,17,18] (fun i _ _ _ _ _ _ _ _ _ _ _=>∃ k:Nat,k<=l.length/\i=.int .i64 k/\Hid (∀ j,j<k->gr l j<1000000000)) (fun i _ _ _ _ _ _ _ _ _ _ _=>l.length-(intOf i).toNat)
  case atStart=>exact⟨0,by omega,rfl,fun j hj=>by omega⟩
  case round =>
   obtain⟨k,hk,rfl,hj⟩:=hrel
   by_cases hlt:k<l.length
   ·have hc:=H5.out k hlt
    by_cases hg:1000000000<=gr l k
    ·have HF:=dn (a8P (neg:=neg) hlt hg)
     have hg2:decide ((1000000000:Int)<=gr l k)=true:=by simp;omega
     go_wp2
     go_ret
     exact⟨iT (by rw[HOK.out,HF.out]),(dw _ _).alloc (aj _) _⟩
    ·have hg3:gr l k<1000000000:=by omega
     have hg2:decide ((1000000000:Int)<=gr l k)=false:=by simp;omega
     have HG:=dn hg3
     clear hg
     go_wp2
     go_round
     case rel=>exact⟨k+1,by omega,by go_num,fun j h=>if e:j<k then hj.out j e else by rw[show j=k by omega];exact HG.out⟩
     case measure=>simp[intOf]<;>omega
   ·obtain rfl:k=l.length:=by omega
    by_cases hz:l=[]
    ·subst hz
     go_wp2
     go_ret
     exact⟨iT (by rw[HOK.out];rfl),(dw _ _).alloc (aj _) _⟩
    ·have hp:0<l.length:=qp.2 hz
     have HD:=dn (a8O (neg:=neg) hz hj.out)
     have hc:=H5.out (l.length-1) (by omega)
     have hidx:((l.length:Int)-1).toNat=l.length-1:=by omega
     have hne:((l.length:Int)==0)=false:=by simp;omega
     go_wp2
     go_ret
     exact⟨iT (by rw[HOK.out,HD.out]),(dw _ _).alloc (aj _) _⟩
theorem dQ.a1J {w:World} {b:Nat} (h:b<w.heap.size):dQ w (.agg #[.bool false,.slice (some ⟨b,0,none⟩) 0 0]) 0:=by
 refine⟨.slice (some ⟨b,0,none⟩) 0 0,by simp,.inr ⟨b,0,0,by simp[dZ],by simp[dZ],by omega,h,fun i hi=>?_⟩⟩
 simp[dZ] at hi
theorem a8D (v:Value) (x:Int) (w:World) (h:iQ w v false x) :
  Calls Tryz.prog 127 #[v] w (tK x w):=by
 obtain⟨b,p,n,c,rfl⟩:=h.raw.form
 have HX:=dn h.zero
 have cZ:Below w.heap.size w w:=dw _ _
 go_enter Tryz.func127,Tryz.ntmps127
 go_wp2_with fail
 obtain⟨hA1,h0,f0⟩:=bx2 w rfl [.bool b,.slice p n c] 62 [.bool false,.slice none 0 0] 62
 have g0:=(h.below hA1)
 (with_reducible refine(jX _ _ _ _ g0).mono ?_)
 rintro e w1 ⟨rfl,hb1⟩
 have dV:=(f0.to hb1)
 obtain⟨a0,c0,b0,d0⟩:=dV.cf2
 have e0:=(Below.tr (Below.tr cZ hA1) hb1)
 go_wp2_with fail
 exact jh (v:=.agg #[.bool false,.slice none 0 0]) (by simp[results,Tryz.results127,go_sem,a0,c0,b0,d0]) rfl ⟨_,rfl,by rw[HX.out];exact dQ.zero _,(Below.aI e0 (b:=w.heap.size+1) (by omega) (.bool false) (.slice none 0 0))⟩
theorem a8C (x:Int) (w:World) (b:Bool) (g o n c:Nat) (h:dQ w (.agg #[.bool b,.slice (some ⟨g,o,none⟩) n c]) x) (hg:g<w.heap.size) (hc:∀ i,i<(dig x.natAbs).length->w.cell? ⟨g,o+i,none⟩=some (.int .u32 (gr (dig x.natAbs) i:Nat))) (hx:b=decide (x<0)) (hn:n=(dig x.natAbs).length) (hl:n<=1000000000) :
  Calls Tryz.prog 127 #[.agg #[.bool b,.slice (some ⟨g,o,none⟩) n c]] w (tK x w):=by
 obtain⟨i0,hi,hz0,hz1,hz2⟩:=Ah iZ
 have HC:=dn hc
 have HX:=dn hx
 have HN:=dn hn
 clear hc hx hn
 have cZ:Below w.heap.size w w:=dw _ _
 go_enter Tryz.func127,Tryz.ntmps127
 go_wp2_with fail
 obtain⟨hA1,e0,g0⟩:=bx2 w rfl [.bool b,.slice (some ⟨g,o,none⟩) n c] 62 [.bool false,.slice none 0 0] 62
 have j0:=(h.below hA1).b1y
 (with_reducible refine(jX _ _ _ _ j0).mono ?_)
 rintro e w1 ⟨rfl,hb1⟩
 have dO:=(e0.to hb1)
 have dV:=(g0.to hb1)
 have b0:=(Below.tr (Below.tr cZ hA1) hb1)
 have h_1:=((h.below hA1).below hb1)
 have q0d:=(dO).drew
 have q1d:=(dV).drew
 have hBd:=(b0).drew
 have q1a:=((dV).alloc (.cells #[] 133)).drew
 have a0:=q1a.c0
 have a1:=q1a.c1
 have a2:=q1a.f0
 have a3:=q1a.f1
 have d0:=(dV).c0
 have d1:=(dV).c1
 have d2:=(dV).f0
 have d3:=(dV).f1
 have d4:=(dV).1
 have d5:=(dO).1
 have hRd:=(h_1).drew
 have S0:(fun w':World=>w'.cell? ⟨w.heap.size,0,none⟩=some (.bool b)/\w'.cell? ⟨w.heap.size,1,none⟩=some (.slice (some ⟨g,o,none⟩) n c)/\w.heap.size+1<w'.heap.size) w1.drew:=⟨q0d.c0,q0d.c1,q1d.1⟩
 have S1:(fun w':World=>w'.cell? ⟨w.heap.size,0,none⟩=some (.bool b)/\w'.cell? ⟨w.heap.size,1,none⟩=some (.slice (some ⟨g,o,none⟩) n c)/\w.heap.size+1<w'.heap.size) (w1.alloc (.cells #[] 133)).drew:=⟨((dO).alloc (.cells #[] 133)).drew.c0,((dO).alloc (.cells #[] 133)).drew.c1,((dV).alloc (.cells #[] 133)).drew.1⟩
 have S2:∀ x0 x1:Value,(fun w':World=>w'.cell? ⟨w.heap.size,0,none⟩=some (.bool b)/\w'.cell? ⟨w.heap.size,1,none⟩=some (.slice (some ⟨g,o,none⟩) n c)/\w.heap.size+1<w'.heap.size) (((w1.setCell ⟨w.heap.size+1,0,none⟩ x0).setCell ⟨w.heap.size+1,1,none⟩ x1).alloc (.cells #[] 133)).drew:=fun x0 x1=>⟨(((dO).aO (b:=w.heap.size+1) (by omega) x0 x1).alloc (.cells #[] 133)).drew.c0,(((dO).aO (b:=w.heap.size+1) (by omega) x0 x1).alloc (.cells #[] 133)).drew.c1,(((dV).store2 x0 x1).alloc (.cells #[] 133)).drew.1⟩
 have K:∀ A B:World,(fun w':World=>w'.cell? ⟨w.heap.size,0,none⟩=some (.bool b)/\w'.cell? ⟨w.heap.size,1,none⟩=some (.slice (some ⟨g,o,none⟩) n c)/\w.heap.size+1<w'.heap.size) A->Below A.heap.size A B->(fun w':World=>w'.cell? ⟨w.heap.size,0,none⟩=some (.bool b)/\w'.cell? ⟨w.heap.size,1,none⟩=some (.slice (some ⟨g,o,none⟩) n c)/\w.heap.size+1<w'.heap.size) B:=by
  rintro A B ⟨h0,h1,h2⟩ hb
  have hs:=hb.size
  exact⟨by rw[(gW hb).1 _ _ (by omega)];exact h0,by rw[(gW hb).1 _ _ (by omega)];exact h1,by omega⟩
 have KS:∀ (A:World) (x0 x1:Value),(fun w':World=>w'.cell? ⟨w.heap.size,0,none⟩=some (.bool b)/\w'.cell? ⟨w.heap.size,1,none⟩=some (.slice (some ⟨g,o,none⟩) n c)/\w.heap.size+1<w'.heap.size) A->(fun w':World=>w'.cell? ⟨w.heap.size,0,none⟩=some (.bool b)/\w'.cell? ⟨w.heap.size,1,none⟩=some (.slice (some ⟨g,o,none⟩) n c)/\w.heap.size+1<w'.heap.size) ((A.setCell ⟨w.heap.size+1,0,none⟩ x0).setCell ⟨w.heap.size+1,1,none⟩ x1):=by
  rintro A x0 x1 ⟨h0,h1,h2⟩
  simp[go_sem,h0,h1,h2]
 go_wp2_with fail
 have tk1:True:=trivial
 go_region_held3 (fun w':World=>w'.cell? ⟨w.heap.size,0,none⟩=some (.bool b)/\w'.cell? ⟨w.heap.size,1,none⟩=some (.slice (some ⟨g,o,none⟩) n c)/\w.heap.size+1<w'.heap.size) (first|with_reducible exact S0|with_reducible exact S1|with_reducible exact S2 _ _|with_reducible exact K _ _ S0 (by assumption)|with_reducible exact K _ _ (by assumption) ((dw _ _).alloc (aj _) _)|with_reducible exact KS _ _ _ (by assumption)|(simp;done))
  (first
   | ((have:=tk1);clear tk1;refine QH rfl _ _ 60 rfl w1.drew.heap.size 133 i0 (.int .u32 0) 1 4 jr hi hz0 hz1 hz2 rfl (by decide) _ _ _ rfl (World.ownsRow_made w1.drew #[] 0 (aj _) (by simp[maxLen]) (by simp)) ⟨g,o,none⟩ n c (cells32 (dig x.natAbs)) rfl (by rw[HN.out];exact jS _) (oZ fun i hi=>(zh _ _ ⟨g,o+i,none⟩ (ni hg hBd.size)).trans ((hBd.cell (p:=⟨g,o+i,none⟩) hg).trans (HC.out i hi))) (mQ _) (by unfold maxLen;omega) (by omega) (by simp) ?_;intro v2 w2 hown hgrow _;have hbw:Below w1.drew.heap.size w1.drew w2:=((dw _ _).alloc (aj _) _).grown hgrow (by simp) (fun j e=>Nat.le_of_eq (Option.some.inj e));have hR2:=Rd.dN (l:=dig x.natAbs) (by rw[<-HN.out];simpa using hown);obtain⟨p2,c2,rfl,_,_⟩:=hR2.form;have q1w:=q1d.to hbw;have r0:=q1w.c0;have r1:=q1w.c1;have f0:=q1w.f0;have f1:=q1w.f1))
 go_wp2_with fail
 exact jh (v:=.agg #[.bool b,.slice p2 (dig x.natAbs).length c2]) (by simp[results,Tryz.results127,go_sem,r0,r1]) rfl ⟨_,rfl,dQ.aI ⟨_,by rw[HX.out],hR2⟩ q1w rfl rfl _ _,Below.aI (Below.tr hBd hbw) (by omega) _ _⟩
theorem a5i (p:Option Addr) (w:World) (h:dQ w (.agg #[.bool false,.slice p 0 0]) 0) :
  Calls Tryz.prog 127 #[.agg #[.bool false,.slice p 0 0]] w (tK 0 w):=by
 obtain⟨i0,hi,hz0,hz1,hz2⟩:=Ah iZ
 have cZ:Below w.heap.size w w:=dw _ _
 go_enter Tryz.func127,Tryz.ntmps127
 go_wp2_with fail
 obtain⟨hA1,e0,g0⟩:=bx2 w rfl [.bool false,.slice p 0 0] 62 [.bool false,.slice none 0 0] 62
 have j0:=(h.below hA1).b1y
 (with_reducible refine(jX _ _ (0:Int) _ j0).mono ?_)
 rintro e w1 ⟨rfl,hb1⟩
 have dO:=(e0.to hb1)
 have dV:=(g0.to hb1)
 have b0:=(Below.tr (Below.tr cZ hA1) hb1)
 have h_1:=((h.below hA1).below hb1)
 have q0d:=(dO).drew
 have q1d:=(dV).drew
 have hBd:=(b0).drew
 have q1a:=((dV).alloc (.cells #[] 133)).drew
 have a0:=q1a.c0
 have a1:=q1a.c1
 have a2:=q1a.f0
 have a3:=q1a.f1
 have d0:=(dV).c0
 have d1:=(dV).c1
 have d2:=(dV).f0
 have d3:=(dV).f1
 have d4:=(dV).1
 have d5:=(dO).1
 have hRd:=(h_1).drew
 have S0:(fun w':World=>w'.cell? ⟨w.heap.size,0,none⟩=some (.bool false)/\w'.cell? ⟨w.heap.size,1,none⟩=some (.slice p 0 0)/\w.heap.size+1<w'.heap.size) w1.drew:=⟨q0d.c0,q0d.c1,q1d.1⟩
 have S1:(fun w':World=>w'.cell? ⟨w.heap.size,0,none⟩=some (.bool false)/\w'.cell? ⟨w.heap.size,1,none⟩=some (.slice p 0 0)/\w.heap.size+1<w'.heap.size) (w1.alloc (.cells #[] 133)).drew:=⟨((dO).alloc (.cells #[] 133)).drew.c0,((dO).alloc (.cells #[] 133)).drew.c1,((dV).alloc (.cells #[] 133)).drew.1⟩
 have S2:∀ x0 x1:Value,(fun w':World=>w'.cell? ⟨w.heap.size,0,none⟩=some (.bool false)/\w'.cell? ⟨w.heap.size,1,none⟩=some (.slice p 0 0)/\w.heap.size+1<w'.heap.size) (((w1.setCell ⟨w.heap.size+1,0,none⟩ x0).setCell ⟨w.heap.size+1,1,none⟩ x1).alloc (.cells #[] 133)).drew:=fun x0 x1=>⟨(((dO).aO (b:=w.heap.size+1) (by omega) x0 x1).alloc (.cells #[] 133)).drew.c0,(((dO).aO (b:=w.heap.size+1) (by omega) x0 x1).alloc (.cells #[] 133)).drew.c1,(((dV).store2 x0 x1).alloc (.cells #[] 133)).drew.1⟩
 have K:∀ A B:World,(fun w':World=>w'.cell? ⟨w.heap.size,0,none⟩=some (.bool false)/\w'.cell? ⟨w.heap.size,1,none⟩=some (.slice p 0 0)/\w.heap.size+1<w'.heap.size) A->Below A.heap.size A B->(fun w':World=>w'.cell? ⟨w.heap.size,0,none⟩=some (.bool false)/\w'.cell? ⟨w.heap.size,1,none⟩=some (.slice p 0 0)/\w.heap.size+1<w'.heap.size) B:=by
  rintro A B ⟨h0,h1,h2⟩ hb
  have hs:=hb.size
  exact⟨by rw[(gW hb).1 _ _ (by omega)];exact h0,by rw[(gW hb).1 _ _ (by omega)];exact h1,by omega⟩
 have KS:∀ (A:World) (x0 x1:Value),(fun w':World=>w'.cell? ⟨w.heap.size,0,none⟩=some (.bool false)/\w'.cell? ⟨w.heap.size,1,none⟩=some (.slice p 0 0)/\w.heap.size+1<w'.heap.size) A->(fun w':World=>w'.cell? ⟨w.heap.size,0,none⟩=some (.bool false)/\w'.cell? ⟨w.heap.size,1,none⟩=some (.slice p 0 0)/\w.heap.size+1<w'.heap.size) ((A.setCell ⟨w.heap.size+1,0,none⟩ x0).setCell ⟨w.heap.size+1,1,none⟩ x1):=by
  rintro A x0 x1 ⟨h0,h1,h2⟩
  simp[go_sem,h0,h1,h2]
 go_wp2_with fail
 go_region_held3 (fun w':World=>w'.cell? ⟨w.heap.size,0,none⟩=some (.bool false)/\w'.cell? ⟨w.heap.size,1,none⟩=some (.slice p 0 0)/\w.heap.size+1<w'.heap.size) (first|with_reducible exact S0|with_reducible exact S1|with_reducible exact S2 _ _|with_reducible exact K _ _ S0 (by assumption)|with_reducible exact K _ _ (by assumption) ((dw _ _).alloc (aj _) _)|with_reducible exact KS _ _ _ (by assumption)|(simp;done))
  (refine LY rfl _ _ 60 rfl 133 i0 jr hi _ rfl rfl ?_)
 go_wp2_with fail
 exact jh (v:=.agg #[.bool false,.slice (some ⟨w1.heap.size,0,none⟩) 0 0]) (by simp[results,Tryz.results127,go_sem,d0,d1,d2,d3,d4]) rfl ⟨_,rfl,dQ.a1J (by simp[World.setCell]),(Below.al (Below.aI b0 (by omega) _ _) _).drew⟩
theorem a5j (v:Value) (ok:Bool) (x:Int) (w:World) (h:iQ w v ok x) (hl:isz x<=1000000000) :
  Calls Tryz.prog 127 #[v] w (tK x w):=by
 cases ok
 ·exact a8D v x w h
 ·have hi:=h.int
  obtain⟨s,rfl,hs⟩:=hi
  rcases hs with⟨p,rfl,h0⟩|⟨b,o,c,rfl,h2,h3,h4,h5⟩
  ·have hx:x=0:=by have:=kM.1 h0;omega
   subst hx
   exact a5i p w (h.int)
  ·exact a8C x w _ b o _ c h.int h4 h5 rfl rfl hl
theorem Raw.toV {w:World} {v:Value} {x:Int} (h:Raw w v x):∃ ok,iQ w v ok x:=by
 obtain⟨neg,s,l,h1,h2,h3,h4⟩:=h
 exact⟨_,neg,s,l,h1,h2,h3,h4,rfl⟩
theorem iG (v:Value) (x:Int) (w:World) (h:Raw w v x) (hl:isz x<=1000000000) :
  Calls Tryz.prog 127 #[v] w (tK x w):=by
 obtain⟨ok,h⟩:=h.toV
 exact a5j v ok x w h hl
theorem uG {P:Program} {w:World} {ops:Array Oper} {rest:List Oper} {o:Oper} {a:Act} {Q:Exit->Act->World->Prop} (hgd:o.guard=none) (s x:Operand) (t:TypeId)
  (hop:o.op=Op.call { callee:=Callee.builtin Builtin.append,args:=#[s,x],argTypes:=#[t,t] })
  (e:TypeId) (i:TypeInfo) (h1:P.underlying t=some (.slice e)) (h2:P.info? e=some i)
  (b:Addr) (hs:a.eval s=.slice (some b) 0 0) {q:Option Addr} (hx:a.eval x=.slice q 0 0)
  (h:wpList P ops Q rest (a.put o.dst (.slice (some b) 0 0)) w):wpList P ops Q (o::rest) a w :=
 wpList_plain hgd fun _ hK=>by
  have hrun:(Builtin.append_ #[t,t] o.type #[.slice (some b) 0 0,.slice q 0 0]).run P w=.ok (.slice (some b) 0 0) w:=by
   cases q<;>simp[Builtin.append_,qj h1,sizeOf,typeInfo,h2,Builtin.lenOf,Builtin.firstCells,loadCells,loadCellsFrom,jc,storeCells]
  unfold Oper.wp
  simp[execOp,hop,resolve,invoke,builtin,hs,hx,hrun,Result.andThen]
  exact hK _ _ h
theorem ER (W:World):(W.alloc (.cells #[] 133)).ownsRow W.heap.size 133 1 (.slice (some ⟨W.heap.size,0,none⟩) 0 0) 0 []:=World.ownsRow_made W #[] 0 (aj _) (by simp[maxLen]) (by simp)
theorem xQ (w:World) (cs:List Value) (T:TypeId):((w.alloc (.cells cs.toArray T)).alloc (.cells #[] 133)).ownsRow (w.heap.size+1) 133 1 (.slice (some ⟨w.heap.size+1,0,none⟩) 0 0) 0 []:=by simpa using ER (w.alloc (.cells cs.toArray T))
theorem FC {w:World} {p:Option Addr} {c k:Nat} {l:List Nat} {flag neg:Bool} {L:List Nat} (hLq:l.take k=L) (hR:Rd w (.slice p L.length c) L) (hL:Low l) (hz:val (l.take k)=val l) (hf:(k=0/\flag=false)\/(0<k/\k<=l.length/\gr l (k-1)≠0/\flag=neg)) :
  dQ w (.agg #[.bool flag,.slice p L.length c]) (sg neg (val l)):=by
 subst hLq
 have ht:dig (val l)=l.take k:=by
  rcases hf with⟨rfl,_⟩|⟨h0,h1,h2,_⟩
  ·exact zZ hL (uq _) hz (.inl rfl)
  ·exact zZ hL h1 hz (.inr h2)
 refine⟨_,?_,by rw[a5m,ht];exact hR⟩
 rcases hf with⟨rfl,rfl⟩|⟨h0,h1,h2,rfl⟩
 ·have:val l=0:=by rw[<-hz];simp[val]
  rw[this,a1u];simp
 ·have:val l≠0:=fun e=>by
   rw[e,dZ] at ht
   have:=xw List.length ht
   rw[jq] at this
   simp at this;omega
  rw[b1Z this]
def a8V (x:Int) (w:World) (e:Ending) (w':World):Prop:=∃ g p n c,e=.returned (.agg #[.bool g,.slice p n c])/\dQ w' (.agg #[.bool g,.slice p n c]) x/\(∀ k,(Value.slice p n c).ownBlock=some k->w.heap.size<=k)/\Below w.heap.size w w'
def b2P (l:List Nat) (w:World) (e:Ending) (w':World):Prop:=∃ s,e=.returned s/\Rd w' s l/\(∀ k,s.ownBlock=some k->w.heap.size<=k)/\Below w.heap.size w w'
theorem a5g (s:Value) (l:List Nat) (w:World) (hs:Rd w s l) (hl:Low l) (hn:l.length<=2000000001) :
  Calls Tryz.prog 128 #[.bool true,s] w (a8V (sg true (val l)) w):=by
 obtain⟨i0,hi,hz0,hz1,hz2⟩:=Ah iZ
 have HL:=dn hl
 clear hl
 rcases hs with⟨p,rfl,rfl⟩|⟨b,o,c,rfl,h2,h3,h4,h5⟩
 ·go_enter Tryz.func128,Tryz.ntmps128
  go_wp2
  go_loop [5,8,9,10,11,12,13,14,15,16,17,18,19] (fun n _ _ _ _ _ _ _ _ _ _ _ _=>n=.int .i64 0) (fun n _ _ _ _ _ _ _ _ _ _ _ _=>0)
  case atStart=>rfl
  case round =>
   subst hrel
   go_wp2_with (at_builtin;refine uG rfl _ _ 60 rfl 133 i0 jr hi _ rfl rfl ?_)
   exact jh (v:=.agg #[.bool false,.slice (some ⟨w.heap.size+1,0,none⟩) 0 0]) (by simp[results,Tryz.results128,go_sem]) rfl ⟨_,_,_,_,rfl,by simpa [val,sg] using dQ.a1J (by simp),fun k hk=>by simp[Value.ownBlock] at hk;omega,((dw _ _).alloc (aj _) _).alloc (by simp) _⟩
 ·have H5:=dn h5
  clear h5
  go_enter Tryz.func128,Tryz.ntmps128
  go_wp2
  go_loop [5,8,9,10,11,12,13,14,15,16,17,18,19] (fun n _ _ _ _ _ _ _ _ _ _ _ _=>∃ k:Nat,k<=l.length/\n=.int .i64 (k:Nat)/\Hid (val (l.take k)=val l)) (fun n _ _ _ _ _ _ _ _ _ _ _ _=>(intOf n).toNat)
  case atStart=>exact⟨l.length,aj _,rfl,by simp[Hid]⟩
  case round =>
   obtain⟨k,hk,rfl,hz⟩:=hrel
   cases k with
   | zero =>
    have HK:Hid ((l.take 0).length=0):=by unfold Hid;simp
    obtain⟨L,hL⟩:∃ L,l.take (0)=L:=⟨_,rfl⟩
    have HLn:Hid (L.length=0):=by rw[<-hL];exact HK.out
    have HCL:Hid (∀ i,i<L.length->w.cell? ⟨b,o+i,none⟩=some (.int .u32 (gr L i:Nat))):=fun i hi=>by
     have hi2:i<0:=by have:=HLn.out;omega
     rw[<-hL,ET hi2]
     exact H5.out i (by omega)
    have HLq:=dn hL
    clear hL HK
    go_wp2_with (at_builtin;refine yh _ rfl _ _ 60 rfl (w.heap.size+1) 133 i0 (.int .u32 0) 1 4 jr hi hz0 hz1 hz2 rfl (by decide) _ _ _ rfl (xQ w [.bool false,.slice none 0 0] 62) ⟨b,o,none⟩ (0) c (cells32 L) rfl (by rw[jS,HLn.out]) (oZ fun i hi=>(zh _ _ ⟨b,o+i,none⟩ (by simp;omega)).trans ((zh _ _ ⟨b,o+i,none⟩ h4).trans (HCL.out i hi))) (mQ _) (by unfold maxLen;omega) (by omega) (by simp) ?_)
    intro v' w1 hown hgrow _
    have hbw:Below (w.heap.size+1) (w.alloc (.cells #[.bool false,.slice none 0 0] 62)) w1:=((dw _ _).alloc (by simp) _).grown hgrow (by simp) (fun j e=>Nat.le_of_eq (Option.some.inj e))
    have hR:=Rd.dN (l:=L) (by rw[HLn.out];simpa using uS hown (uq _))
    obtain⟨p2,c2,rfl,_,_⟩:=hR.form
    have q1:=(Bx.new w [.bool false,.slice none 0 0] 62).below hbw (by omega)
    have r0:=q1.c0
    have r1:=q1.c1
    have f0:=q1.f0
    have f1:=q1.f1
    go_wp2
    exact jh (v:=.agg #[.bool false,.slice p2 L.length c2]) (by simp[results,Tryz.results128,go_sem,r0,r1]) rfl ⟨_,_,_,_,rfl,dQ.aI (FC (neg:=true) (flag:=false) HLq.out hR HL.out hz.out (.inl ⟨rfl,rfl⟩)) q1 rfl rfl _ _,fun k hk=>Nat.le_of_succ_le (hown.lt k hk).1,Below.aI (((dw _ _).alloc (aj _) _).trans (hbw.mono (by simp))) (aj _) _ _⟩
   | succ k =>
    have hc:=H5.out k (by omega)
    by_cases hg:gr l k=0
    ·have HV:=dn (xI (by omega) hg)
     rw[hg] at hc
     have HG:=dn hg
     clear hg
     go_wp2
     go_round
     case rel=>exact⟨k,by omega,by go_num,by unfold Hid;rw[HV.out,hz.out]⟩
     case measure=>simp[intOf]
    ·have hg':((gr l k:Int)==0)=false:=by simp;omega
     have HG:=dn hg
     clear hg
     have HK:Hid ((l.take (k+1)).length=k+1):=by unfold Hid;rw[jq];omega
     obtain⟨L,hL⟩:∃ L,l.take (k+1)=L:=⟨_,rfl⟩
     have HLn:Hid (L.length=k+1):=by rw[<-hL];exact HK.out
     have HCL:Hid (∀ i,i<L.length->w.cell? ⟨b,o+i,none⟩=some (.int .u32 (gr L i:Nat))):=fun i hi=>by
      have hi2:i<k+1:=by have:=HLn.out;omega
      rw[<-hL,ET hi2]
      exact H5.out i (by omega)
     have HLq:=dn hL
     clear hL HK
     go_wp2_with (at_builtin;refine yh _ rfl _ _ 60 rfl (w.heap.size+1) 133 i0 (.int .u32 0) 1 4 jr hi hz0 hz1 hz2 rfl (by decide) _ _ _ rfl (xQ w [.bool false,.slice none 0 0] 62) ⟨b,o,none⟩ (k+1) c (cells32 L) rfl (by rw[jS,HLn.out]) (oZ fun i hi=>(zh _ _ ⟨b,o+i,none⟩ (by simp;omega)).trans ((zh _ _ ⟨b,o+i,none⟩ h4).trans (HCL.out i hi))) (mQ _) (by unfold maxLen;omega) (by omega) (by simp) ?_)
     intro v' w1 hown hgrow _
     have hbw:Below (w.heap.size+1) (w.alloc (.cells #[.bool false,.slice none 0 0] 62)) w1:=((dw _ _).alloc (by simp) _).grown hgrow (by simp) (fun j e=>Nat.le_of_eq (Option.some.inj e))
     have hR:=Rd.dN (l:=L) (by rw[HLn.out];simpa using uS hown (uq _))
     obtain⟨p2,c2,rfl,_,_⟩:=hR.form
     have q1:=(Bx.new w [.bool false,.slice none 0 0] 62).below hbw (by omega)
     have r0:=q1.c0
     have r1:=q1.c1
     have f0:=q1.f0
     have f1:=q1.f1
     go_wp2
     exact jh (v:=.agg #[.bool true,.slice p2 L.length c2]) (by simp[results,Tryz.results128,go_sem,r0,r1]) rfl ⟨_,_,_,_,rfl,dQ.aI (FC (neg:=true) (flag:=true) HLq.out hR HL.out hz.out (.inr ⟨by omega,hk,HG.out,rfl⟩)) q1 rfl rfl _ _,fun k hk=>Nat.le_of_succ_le (hown.lt k hk).1,Below.aI (((dw _ _).alloc (aj _) _).trans (hbw.mono (by simp))) (aj _) _ _⟩
theorem a3v (s:Value) (l:List Nat) (w:World) (hs:Rd w s l) (hl:Low l) (hn:l.length<=2000000001) :
  Calls Tryz.prog 128 #[.bool false,s] w (a8V (sg false (val l)) w):=by
 obtain⟨i0,hi,hz0,hz1,hz2⟩:=Ah iZ
 have HL:=dn hl
 clear hl
 rcases hs with⟨p,rfl,rfl⟩|⟨b,o,c,rfl,h2,h3,h4,h5⟩
 ·go_enter Tryz.func128,Tryz.ntmps128
  go_wp2
  go_loop [5,8,9,10,11,12,13,14,15,16,17,18,19] (fun n _ _ _ _ _ _ _ _ _ _ _ _=>n=.int .i64 0) (fun n _ _ _ _ _ _ _ _ _ _ _ _=>0)
  case atStart=>rfl
  case round =>
   subst hrel
   go_wp2_with (at_builtin;refine uG rfl _ _ 60 rfl 133 i0 jr hi _ rfl rfl ?_)
   exact jh (v:=.agg #[.bool false,.slice (some ⟨w.heap.size+1,0,none⟩) 0 0]) (by simp[results,Tryz.results128,go_sem]) rfl ⟨_,_,_,_,rfl,by simpa [val,sg] using dQ.a1J (by simp),fun k hk=>by simp[Value.ownBlock] at hk;omega,((dw _ _).alloc (aj _) _).alloc (by simp) _⟩
 ·have H5:=dn h5
  clear h5
  go_enter Tryz.func128,Tryz.ntmps128
  go_wp2
  go_loop [5,8,9,10,11,12,13,14,15,16,17,18,19] (fun n _ _ _ _ _ _ _ _ _ _ _ _=>∃ k:Nat,k<=l.length/\n=.int .i64 (k:Nat)/\Hid (val (l.take k)=val l)) (fun n _ _ _ _ _ _ _ _ _ _ _ _=>(intOf n).toNat)
  case atStart=>exact⟨l.length,aj _,rfl,by simp[Hid]⟩
  case round =>
   obtain⟨k,hk,rfl,hz⟩:=hrel
   cases k with
   | zero =>
    have HK:Hid ((l.take 0).length=0):=by unfold Hid;simp
    obtain⟨L,hL⟩:∃ L,l.take (0)=L:=⟨_,rfl⟩
    have HLn:Hid (L.length=0):=by rw[<-hL];exact HK.out
    have HCL:Hid (∀ i,i<L.length->w.cell? ⟨b,o+i,none⟩=some (.int .u32 (gr L i:Nat))):=fun i hi=>by
     have hi2:i<0:=by have:=HLn.out;omega
     rw[<-hL,ET hi2]
     exact H5.out i (by omega)
    have HLq:=dn hL
    clear hL HK
    go_wp2_with (at_builtin;refine yh _ rfl _ _ 60 rfl (w.heap.size+1) 133 i0 (.int .u32 0) 1 4 jr hi hz0 hz1 hz2 rfl (by decide) _ _ _ rfl (xQ w [.bool false,.slice none 0 0] 62) ⟨b,o,none⟩ (0) c (cells32 L) rfl (by rw[jS,HLn.out]) (oZ fun i hi=>(zh _ _ ⟨b,o+i,none⟩ (by simp;omega)).trans ((zh _ _ ⟨b,o+i,none⟩ h4).trans (HCL.out i hi))) (mQ _) (by unfold maxLen;omega) (by omega) (by simp) ?_)
    intro v' w1 hown hgrow _
    have hbw:Below (w.heap.size+1) (w.alloc (.cells #[.bool false,.slice none 0 0] 62)) w1:=((dw _ _).alloc (by simp) _).grown hgrow (by simp) (fun j e=>Nat.le_of_eq (Option.some.inj e))
    have hR:=Rd.dN (l:=L) (by rw[HLn.out];simpa using uS hown (uq _))
    obtain⟨p2,c2,rfl,_,_⟩:=hR.form
    have q1:=(Bx.new w [.bool false,.slice none 0 0] 62).below hbw (by omega)
    have r0:=q1.c0
    have r1:=q1.c1
    have f0:=q1.f0
    have f1:=q1.f1
    go_wp2
    exact jh (v:=.agg #[.bool false,.slice p2 L.length c2]) (by simp[results,Tryz.results128,go_sem,r0,r1]) rfl ⟨_,_,_,_,rfl,dQ.aI (FC (neg:=false) (flag:=false) HLq.out hR HL.out hz.out (.inl ⟨rfl,rfl⟩)) q1 rfl rfl _ _,fun k hk=>Nat.le_of_succ_le (hown.lt k hk).1,Below.aI (((dw _ _).alloc (aj _) _).trans (hbw.mono (by simp))) (aj _) _ _⟩
   | succ k =>
    have hc:=H5.out k (by omega)
    by_cases hg:gr l k=0
    ·have HV:=dn (xI (by omega) hg)
     rw[hg] at hc
     have HG:=dn hg
     clear hg
     go_wp2
     go_round
     case rel=>exact⟨k,by omega,by go_num,by unfold Hid;rw[HV.out,hz.out]⟩
     case measure=>simp[intOf]
    ·have hg':((gr l k:Int)==0)=false:=by simp;omega
     have HG:=dn hg
     clear hg
     have HK:Hid ((l.take (k+1)).length=k+1):=by unfold Hid;rw[jq];omega
     obtain⟨L,hL⟩:∃ L,l.take (k+1)=L:=⟨_,rfl⟩
     have HLn:Hid (L.length=k+1):=by rw[<-hL];exact HK.out
     have HCL:Hid (∀ i,i<L.length->w.cell? ⟨b,o+i,none⟩=some (.int .u32 (gr L i:Nat))):=fun i hi=>by
      have hi2:i<k+1:=by have:=HLn.out;omega
      rw[<-hL,ET hi2]
      exact H5.out i (by omega)
     have HLq:=dn hL
     clear hL HK
     go_wp2_with (at_builtin;refine yh _ rfl _ _ 60 rfl (w.heap.size+1) 133 i0 (.int .u32 0) 1 4 jr hi hz0 hz1 hz2 rfl (by decide) _ _ _ rfl (xQ w [.bool false,.slice none 0 0] 62) ⟨b,o,none⟩ (k+1) c (cells32 L) rfl (by rw[jS,HLn.out]) (oZ fun i hi=>(zh _ _ ⟨b,o+i,none⟩ (by simp;omega)).trans ((zh _ _ ⟨b,o+i,none⟩ h4).trans (HCL.out i hi))) (mQ _) (by unfold maxLen;omega) (by omega) (by simp) ?_)
     intro v' w1 hown hgrow _
     have hbw:Below (w.heap.size+1) (w.alloc (.cells #[.bool false,.slice none 0 0] 62)) w1:=((dw _ _).alloc (by simp) _).grown hgrow (by simp) (fun j e=>Nat.le_of_eq (Option.some.inj e))
     have hR:=Rd.dN (l:=L) (by rw[HLn.out];simpa using uS hown (uq _))
     obtain⟨p2,c2,rfl,_,_⟩:=hR.form
     have q1:=(Bx.new w [.bool false,.slice none 0 0] 62).below hbw (by omega)
     have r0:=q1.c0
     have r1:=q1.c1
     have f0:=q1.f0
     have f1:=q1.f1
     go_wp2
     exact jh (v:=.agg #[.bool false,.slice p2 L.length c2]) (by simp[results,Tryz.results128,go_sem,r0,r1]) rfl ⟨_,_,_,_,rfl,dQ.aI (FC (neg:=false) (flag:=false) HLq.out hR HL.out hz.out (.inr ⟨by omega,hk,HG.out,rfl⟩)) q1 rfl rfl _ _,fun k hk=>Nat.le_of_succ_le (hown.lt k hk).1,Below.aI (((dw _ _).alloc (aj _) _).trans (hbw.mono (by simp))) (aj _) _ _⟩
theorem rW (neg:Bool) (s:Value) (l:List Nat) (w:World) (hs:Rd w s l) (hl:Low l) (hn:l.length<=2000000001) :
  Calls Tryz.prog 128 #[.bool neg,s] w (a8V (sg neg (val l)) w):=by
 cases neg
 ·exact a3v s l w hs hl hn
 ·exact a5g s l w hs hl hn
theorem iM (neg:Bool) (s:Value) (l:List Nat) (w:World) (hs:Rd w s l) (hl:Low l) (hn:l.length<=2000000001) :
  Calls Tryz.prog 128 #[.bool neg,s] w (tK (sg neg (val l)) w) :=
 (rW neg s l w hs hl hn).mono fun e w' ⟨g,p,n,c,h1,h2,_,h4⟩=>⟨_,h1,h2,h4⟩
theorem EF (o:List Nat) (r:Nat):val (o++[r])=val o+BB ^ o.length*r:=by rw[val_append];simp[dI,val]
theorem CZ {o:List Nat} {r:Nat} (h:Low o) (hr:r<=999999999):Low (o++[r]):=Low.append.2 ⟨h,Low.cons.2 ⟨by rw[dH];omega,Low.nil⟩⟩
structure a0f (a b o:List Nat) (k c:Nat):Prop where
 len:o.length=k
 low:Low o
 vl:val o+BB ^ k*c=val (a.take k)+val (b.take k)
 car:c<=1
theorem a0f.zero (a b:List Nat):a0f a b [] 0 0:=⟨rfl,Low.nil,by simp[val],by omega⟩
theorem a0f.step {a b o:List Nat} {k c r q:Nat} (h:a0f a b o k c) (ha:gr a k<=999999999) (hb:gr b k<=999999999) (hs:gr a k+gr b k+c=r+1000000000*q) (hr:r<=999999999):a0f a b (o++[r]) (k+1) q:=by
 have hc:=h.car
 refine⟨by simp[h.len],CZ h.low hr,?_,by omega⟩
 rw[EF,bJ,bJ,h.len,Nat.pow_succ]
 have:=h.vl
 simp only[dH] at *
 have e:1000000000 ^ k*(gr a k+gr b k+c)=1000000000 ^ k*(r+1000000000*q):=by rw[hs]
 grind
theorem a0f.done {a b o:List Nat} {k c:Nat} (h:a0f a b o k c) (h1:a.length<=k) (h2:b.length<=k):Low (o++[c])/\val (o++[c])=val a+val b:=by
 have hc:=h.car
 have hv:=h.vl
 rw[fH h1,fH h2] at hv
 exact⟨CZ h.low (by omega),by rw[EF,h.len];exact hv⟩
structure a0i (a o:List Nat) (d k c:Nat):Prop where
 len:o.length=k
 low:Low o
 vl:val o+BB ^ k*c=val (a.take k)*d
 car:c<=999999999
theorem a0i.zero (a:List Nat) (d:Nat):a0i a [] d 0 0:=⟨rfl,Low.nil,by simp[val],by omega⟩
theorem a0i.step {a o:List Nat} {d k c r q:Nat} (h:a0i a o d k c) (hs:gr a k*d+c=r+1000000000*q) (hr:r<=999999999) (hq:q<=999999999):a0i a (o++[r]) d (k+1) q:=by
 refine⟨by simp[h.len],CZ h.low hr,?_,hq⟩
 rw[EF,bJ,h.len,Nat.pow_succ]
 have:=h.vl
 simp only[dH] at *
 have e:1000000000 ^ k*(gr a k*d+c)=1000000000 ^ k*(r+1000000000*q):=by rw[hs]
 grind
theorem a0i.done {a o:List Nat} {d k c:Nat} (h:a0i a o d k c) (h1:a.length<=k):Low (o++[c])/\val (o++[c])=val a*d:=by
 have hv:=h.vl
 rw[fH h1] at hv
 exact⟨CZ h.low h.car,by rw[EF,h.len];exact hv⟩
structure MInv (a b o:List Nat) (k c:Nat):Prop where
 len:o.length=k
 low:Low o
 vl:val o+val (b.take k)=val (a.take k)+BB ^ k*c
 car:c<=1
theorem MInv.zero (a b:List Nat):MInv a b [] 0 0:=⟨rfl,Low.nil,by simp[val],by omega⟩
theorem MInv.step {a b o:List Nat} {k c r c':Nat} (h:MInv a b o k c) (hs:r+gr b k+c=gr a k+1000000000*c') (hr:r<=999999999) (hc:c'<=1):MInv a b (o++[r]) (k+1) c':=by
 refine⟨by simp[h.len],CZ h.low hr,?_,hc⟩
 rw[EF,bJ,bJ,h.len,Nat.pow_succ]
 have:=h.vl
 simp only[dH] at *
 have e:1000000000 ^ k*(r+gr b k+c)=1000000000 ^ k*(gr a k+1000000000*c'):=by rw[hs]
 grind
theorem MInv.done {a b o:List Nat} {k c:Nat} (h:MInv a b o k c) (h1:a.length<=k) (h2:b.length<=k) (hle:val b<=val a):val o=val a-val b:=by
 have hv:=h.vl
 rw[fH h1,fH h2] at hv
 have hl:=qP h.low
 rw[h.len] at hl
 have hc:=h.car
 rcases yu c with h0|h0
 ·subst h0;simp at hv;omega
 ·have:c=1:=by omega
  subst this
  simp at hv
  omega
structure a0g (a o:List Nat) (d k r:Nat):Prop where
 len:o.length=a.length
 low:Low (o.drop k)
 vl:val (a.drop k)=val (o.drop k)*d+r
 rest:r<d
theorem GY {a:List Nat} {k:Nat} (hk:k<a.length):val (a.drop k)=gr a k+BB*val (a.drop (k+1)):=by
 rw[Ba hk,dI,qZ hk]
theorem a0g.start (a:List Nat) {d:Nat} (hd:0<d):a0g a (List.replicate a.length 0) d a.length 0:=⟨by simp,by simp[Low.nil],by simp[val],hd⟩
theorem a0g.step {a o:List Nat} {d k r q r':Nat} (h:a0g a o d (k+1) r) (hk:k<a.length) (hn:r*1000000000+gr a k=q*d+r') (hr:r'<d) (ha:gr a k<=999999999):a0g a (o.set k q) d k r'/\q<=999999999:=by
 have hq:q<=999999999:=by
  rcases Bj 999999999 q with h1|h1
  ·exfalso
   have e1:1000000000*d<=q*d:=jw _ h1
   have e2:=h.rest
   have e3:(r+1)*1000000000<=d*1000000000:=jw _ e2
   rw[Am] at e3
   rw[wz d] at e3
   omega
  ·exact h1
 have hl:k<o.length:=by rw[h.len];exact hk
 have hs:(o.set k q).drop k=q::o.drop (k+1):=by
  rw[Ba (by simpa using hl),List.drop_set_of_lt (by omega)]
  simp
 refine⟨⟨by simp[h.len],?_,?_,hr⟩,hq⟩
 ·rw[hs];exact Low.cons.2 ⟨by rw[dH];omega,h.low⟩
 ·rw[hs,GY hk,h.vl,dI,dH]
  grind
theorem a0g.done {a o:List Nat} {d r:Nat} (h:a0g a o d 0 r):Low o/\val o=val a / d/\r=val a%d:=by
 have h1:=h.vl
 simp at h1
 have hr:=h.rest
 have hl:=h.low
 simp at hl
 refine⟨hl,?_,?_⟩
 ·rw[h1,wz,Nat.mul_add_div (by omega),Dw hr];simp
 ·rw[h1,wz,Nat.mul_add_mod,Dk hr]
end Go.Proofs.YtgplhbhfdgempaaGreat
