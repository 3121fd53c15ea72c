/-
  Lemmas for the statements about datums, part 27 of 37.
-/
import Derived.Deep.RegionLawGrows
import Derived.Test.YtgplhbhfdgempaaGreatDb26
namespace Go.Proofs.YtgplhbhfdgempaaGreat
open Go Go.RowKit
set_option maxRecDepth 100000
set_option maxHeartbeats 1000000
set_option linter.unusedVariables false
set_option linter.unusedSimpArgs false
def mS (a:MQ) (b:LQ'):MR:=bK a.length (wdM a+1) (eF a b).1
theorem a4t (a:MQ) (b:LQ'):Ech a.length (gV (wdM a) (ent a) (fun i _=>lv b i)) (wdM a) (eF a b).1 (eF a b).2:=iL _ _ _
theorem b5T {R C:Nat} {f:Nat->Nat->Rat} (h:1<=R):wdM (bK R C f)=C:=by
 show ((bK R C f).getD 0 []).length=C;rw[jT (by omega)];simp
theorem c3O {a:MQ} {b:LQ'} (h:b.length=a.length):bK a.length (wdM a+1) (gV (wdM a) (ent a) (ent (JQ b)))=bK a.length (wdM a+1) (gV (wdM a) (ent a) (fun i _=>lv b i)) :=
 mF fun i hi j hj=>by
  unfold gV
  by_cases e:j<wdM a
  ·rw[eY e,eY e]
  ·rw[dw e,dw e];unfold JQ;exact kN (by omega) (by omega)
theorem c3Q (a:MQ) (b:LQ'):rdp (bK a.length (wdM a+1) (gV (wdM a) (ent a) (fun i _=>lv b i))) (wdM a)=(eF a b).2:=by
 unfold rdp;rw[aN];exact(b2H (by omega)).1
theorem c3P (a:MQ) (b:LQ'):bK a.length (wdM a+1) (rdm (bK a.length (wdM a+1) (gV (wdM a) (ent a) (fun i _=>lv b i))) (wdM a))=mS a b:=by
 unfold rdm mS;rw[aN]
 exact mF fun i hi j hj=>(b2H (by omega)).2 i hi j hj
theorem b4h {b:LQ'} (h1:1<=b.length) (h2:b.length<=64) (hs:∀ q ∈ b,rsz q<=100000000):okM (JQ b):=⟨by
 have:=pV (f:=fun i _=>lv b i) h1 h2 (aj 1) (by omega)
 exact this.self,fun i hi j hj=>by
 have hw:wdM (JQ b)=1:=QE h1
 rw[hw] at hj
 have hi:i<b.length:=by rw[show (JQ b).length=b.length from aZ] at hi;exact hi
 rw[show ent (JQ b) i j=lv b i from kN hi hj]
 exact hs _ (by unfold lv;rw[ay,dn hi];exact jm hi)⟩
theorem a8e {q:Rat} (h:(sgn q.num != 0)=false):q=0:=by
 have h:sgn q.num=0:=by simpa using h
 exact Rat.num_eq_zero.mp (Int.sign_eq_zero_iff_zero.mp h)
def sx1 (a:MQ) (c:Nat):LR:=(List.range (wdM a)).map fun d=>if d<c then dS 0 else bV
def sx2 (a:MQ) (b:LQ') (t:Nat):LR:=(List.range (wdM a)).map fun c=>dS (if c ∈ (eF a b).2.take t then (eF a b).1 ((eF a b).2.idxOf c) (wdM a) else 0)
theorem b3x (a:MQ):sx1 a 0=List.replicate (wdM a) bV:=by
 unfold sx1;apply yw<;>simp
theorem b5Q (a:MQ) (c:Nat):(sx1 a c).set c (dS 0)=sx1 a (c+1):=by
 unfold sx1;rw[map_set]
 refine jf fun d _=>?_
 by_cases e:d=c
 ·rw[eY e,eY (by omega)]
 ·rw[dw e]
  by_cases e2:d<c
  ·rw[eY e2,eY (by omega)]
  ·rw[dw e2,dw (by omega)]
theorem b5P (a:MQ) (b:LQ'):sx1 a (wdM a)=sx2 a b 0:=by
 unfold sx1 sx2
 refine jf fun d hd=>?_
 rw[eY (qN.mp hd)];simp
theorem b5S {a:MQ} {b:LQ'} {t:Nat} (hd:(eF a b).2.Nodup) (ht:t<(eF a b).2.length):(sx2 a b t).set (eF a b).2[t] (dS ((eF a b).1 t (wdM a)))=sx2 a b (t+1):=by
 unfold sx2;rw[map_set]
 refine jf fun d _=>?_
 by_cases e:d=(eF a b).2[t]
 ·rw[eY e,eY ((rG ht).mpr (.inr e)),e,vM hd ht]
 ·rw[dw e]
  by_cases e2:d ∈ (eF a b).2.take t
  ·rw[eY e2,eY ((rG ht).mpr (.inl e2))]
  ·rw[dw e2,dw (fun h=>((rG ht).mp h).elim e2 e)]
theorem b5R (a:MQ) (b:LQ'):(sx2 a b (eF a b).2.length).map (fun q=>q.x)=uV a b:=by
 unfold sx2 uV
 rw[List.map_map]
 refine jf fun d _=>?_
 show (if d ∈ List.take (eF a b).2.length (eF a b).2 then (eF a b).1 ((eF a b).2.idxOf d) (wdM a) else 0)=xs (eF a b).1 (eF a b).2 (wdM a) d
 rw[List.take_length];rfl
def BL (a:MQ) (b:LQ'):LQ' × Int × Unit:=if pO a b=true then (uV a b,0,()) else ([],6,())
def c2z:Ctr:=⟨[tM,.list tQ],[.list tQ,tI],fun x=>okM x.1/\wdM (show MQ from x.1)<=63/\(show LQ' from x.2.1).length=(show MQ from x.1).length/\(∀ q ∈ (show LQ' from x.2.1),rsz q<=10000000)/\AQ (show MQ from x.1).length (wdM (show MQ from x.1)+1) (gV (wdM (show MQ from x.1)) (ent x.1) (fun i _=>lv x.2.1 i)) (wdM (show MQ from x.1)),fun x=>BL x.1 x.2.1⟩
theorem b3i:aY Tryz.prog 61 c2z:=by
 refine bH ((((((((nil0.ad a4I).ad a4J).an b2I).an b6e).ad b4i).ad a3C).ad a3F).ad a3G) ⟨[],[],[]⟩ Tryz.func61 rfl (by decide) (fun x=>[.inv {k:Nat // k<=(show MQ from x.1).length-(eF (show MQ from x.1) (show LQ' from x.2.1)).2.length/\∀ i,(eF (show MQ from x.1) (show LQ' from x.2.1)).2.length<=i->i<(eF (show MQ from x.1) (show LQ' from x.2.1)).2.length+k->(eF (show MQ from x.1) (show LQ' from x.2.1)).1 i (wdM (show MQ from x.1))=0} (fun k=>[(39,.val tI (k.1:Int))]) (fun k=>[(30,.fro (.list tR) (mS (show MQ from x.1) (show LQ' from x.2.1)) 0)]) (fun k=>(show MQ from x.1).length-k.1) ⟨0,by omega,fun i h1 h2=>absurd h2 (by omega)⟩ (fun _=>[]),
  .inv {c:Nat // c<=wdM (show MQ from x.1)} (fun c=>[(54,.val tI (c.1:Int))]) (fun c=>[(30,.fro (.list tR) (mS (show MQ from x.1) (show LQ' from x.2.1)) 0),(51,.row 64 tR (sx1 (show MQ from x.1) c.1) 0)]) (fun c=>wdM (show MQ from x.1)-c.1) ⟨0,by omega⟩ (fun _=>[]),
  .inv {t:Nat // t<=(eF (show MQ from x.1) (show LQ' from x.2.1)).2.length} (fun t=>[(64,.val tI (t.1:Int))]) (fun t=>[(30,.fro (.list tR) (mS (show MQ from x.1) (show LQ' from x.2.1)) 0),(51,.row 64 tR (sx2 (show MQ from x.1) (show LQ' from x.2.1) t.1) 0)]) (fun t=>(eF (show MQ from x.1) (show LQ' from x.2.1)).2.length-t.1) ⟨0,by omega⟩ (fun _=>[])]) (fun x hp=>?_)
 obtain⟨a,b,u⟩:=x
 change List (List Rat) at a
 change List Rat at b
 refine bP (let A₀:=(bK a.length (wdM a+wdM (JQ b)) (gV (wdM a) (ent a) (ent (JQ b))));let aV:=(List.getD a 0 (aC Rat)).length;let A₁:=(aA aV).toNat;let dB:=(dA (rdp A₀ A₁)).length;let dO:=(bK A₀.length (wdM A₀) (rdm A₀ A₁));let aP:=dO.length;let A₂:=(List.drop (aA dB).toNat (List.take (aA aP).toNat dO));((okM a/\(∀ (q:Rat),q ∈ b->rsz q<=100000000)/\a=a/\List.length b=List.length a)/\True)/\(asT Int 0<=0/\0<aA a.length/\True)/\((1<=List.length b/\List.length b<=64)/\(okM a/\okM (JQ b)/\List.length a=List.length (JQ b))/\True)/\(a5R A₀ (aA aV)/\True)/\(0<=aA dB/\aA dB<=aA aP/\aA aP<=aA aP/\True)/\(asT Int 0=0/\bK A₀.length (wdM A₀) (rdm A₀ A₁)=mS a b/\True)/\∀ (i:{ k:Nat // k<=List.length a-List.length (eF a b).2/\∀ (i:Nat),List.length (eF a b).2<=i->i<List.length (eF a b).2+k->Prod.fst (eF a b) i (wdM a)=0 }),let eH:=(List.getD A₂ (aA (aB i)).toNat (aC aF));let dU:=(List.getD eH A₁ bV);asT Bool true=true/\ifB (decide (aA (aB i)<aA A₂.length)) ((0<=aA (aB i)/\aA (aB i)<aA A₂.length/\True)/\(0<=aA aV/\aA aV<aA eH.length/\aF.ok dU=true/\rsz (aF.x dU)<=1000000000/\True)/\ifB (sgn (Rat.num (aF.x dU)) != 0) (True/\aC Rat=Prod.fst (BL a b)/\True/\6=Prod.fst (BL a b).2/\True) (∃ (i':{ k:Nat // k<=List.length a-List.length (eF a b).2/\∀ (i:Nat),List.length (eF a b).2<=i->i<List.length (eF a b).2+k->Prod.fst (eF a b) i (wdM a)=0 }),List.length a-aB i'<List.length a-aB i/\IntKind.wrap IntKind.i64 (aA (aB i)+1)=aA (aB i')/\mS a b=mS a b/\True)) ((aA aV=aA aV/\0<=aA aV/\aA aV<=1000000000/\True)/\(asT Int 0=0/\mS a b=mS a b/\List.replicate A₁ bV=sx1 a 0/\True)/\∀ (i:{ c:Nat // c<=wdM a }),asT Bool true=true/\ifB (decide (aA (aB i)<aA (List.replicate A₁ bV).length)) ((gZ 0/\0<=aA (aB i)/\aA (aB i)<aA (sx1 a (aB i)).length/\Int.toNat (aA (aB i))<List.length (sx1 a (aB i))/\True)/\∃ (i':{ c:Nat // c<=wdM a }),wdM a-aB i'<wdM a-aB i/\IntKind.wrap IntKind.i64 (aA (aB i)+1)=aA (aB i')/\mS a b=mS a b/\List.set (sx1 a (aB i)) (aA (aB i)).toNat (dS (dD 0))=sx1 a (aB i')/\True) ((asT Int 0=0/\mS a b=mS a b/\sx1 a (aB i)=sx2 a b 0/\True)/\∀ (i:{ t:Nat // t<=List.length (eF a b).2 }),let dX:=(aA (aB i)).toNat;let iG:=(List.getD (mS a b) dX (aC aF));let jQ:=(List.getD (dA (rdp A₀ A₁)) dX 0);asT Bool true=true/\ifB (decide (aA (aB i)<aA dB)) ((0<=aA (aB i)/\aA (aB i)<aA dB/\True)/\(0<=aA (aB i)/\aA (aB i)<aA (mS a b).length/\0<=aA aV/\aA aV<aA iG.length/\0<=List.getD (dA (rdp A₀ A₁)) dX 0/\List.getD (dA (rdp A₀ A₁)) dX 0<aA (sx2 a b (aB i)).length/\Int.toNat jQ<List.length (sx2 a b (aB i))/\True)/\∃ (i':{ t:Nat // t<=List.length (eF a b).2 }),List.length (eF a b).2-aB i'<List.length (eF a b).2-aB i/\IntKind.wrap IntKind.i64 (aA (aB i)+1)=aA (aB i')/\mS a b=mS a b/\List.set (sx2 a b (aB i)) jQ.toNat (List.getD iG A₁ bV)=sx2 a b (aB i')/\True) ((bY (fun(x:Ty.den (Ty.lf Lf.aU))=>aW ((aF.ok x=true)::aC Prop)) (sx2 a b (aB i))/\True)/\List.map (fun(x:Ty.den (Ty.lf Lf.aU))=>aF.x x) (sx2 a b (aB i))=Prod.fst (BL a b)/\True/\0=Prod.fst (BL a b).2/\True)))) (by kernel_rfl) ?_
 have hZ:(⟨false,0,[],[]⟩:aF)=bV:=rfl
 dsimp only[aA,asT,aB,aC,Ty.den,Lf.den] at *
 simp only[hZ,Int.toNat_natCast,aJ,dh,bn,mg,mW,aH,nameAt,aX,aN,aZ,rowAt,iw,gJ]
 have hp:okM a/\wdM a<=63/\b.length=a.length/\(∀ q ∈ b,rsz q<=10000000)/\AQ a.length (wdM a+1) (gV (wdM a) (ent a) (fun i _=>lv b i)) (wdM a):=hp
 obtain⟨ha,hw,hl,hs,hR⟩:=hp
 have q1:=ha.r64
 have q2:=ha.c64
 have q3:=ha.pos
 have q4:=ha.c1
 have E:=a4t a b
 have hle:=E.le
 have hwa:(List.getD a 0 []).length=wdM a:=rfl
 have hwc:wdM (JQ b)=1:=QE (by omega)
 have hok:okM (JQ b):=b4h (by omega) (by omega) fun q hq=>by have:=hs q hq;omega
 rw[hwa,hwc,c3O hl,b5T q3,c3Q,c3P]
 have lm:(mS a b).length=a.length:=aN _ _ _
 rw[jG (Nat.le_of_eq lm),qX]
 have ld:(List.drop (eF a b).2.length (mS a b)).length=a.length-(eF a b).2.length:=by rw[wz,lm]
 have lr:∀ i,i<a.length->(mS a b).getD i []=(List.range (wdM a+1)).map fun c=>dS ((eF a b).1 i c):=fun i hi=>jT hi
 have lg:∀ i,i<a.length-(eF a b).2.length->(List.drop (eF a b).2.length (mS a b)).getD i []=(List.range (wdM a+1)).map fun c=>dS ((eF a b).1 ((eF a b).2.length+i) c):=fun i hi=>by
  rw[<-lr _ (by omega),ay,List.getElem?_drop,<-ay]
 have lc:(JQ b).length=b.length:=aZ
 rw[ld,lc]
 have hsz:∀ i,i<a.length->rsz ((eF a b).1 i (wdM a))<=10000000:=fun i hi=>hR (wdM a) (aj _) i hi (wdM a) (by omega)
 refine⟨⟨ha,fun q hq=>by have:=hs q hq;omega,hl⟩,⟨qh 0,by omega⟩,⟨⟨by omega,by omega⟩,ha,hok,by omega⟩,XA q3 (by omega) (by omega) (by omega) (by omega) hR,⟨by omega,by omega,by omega⟩,rfl,fun i=>⟨fun h1=>?_,fun h1=>?_⟩⟩
 ·have hi:i.1<a.length-(eF a b).2.length:=by omega
  rw[lg _ hi,ny,gJ,gG (by omega)]
  refine⟨⟨by omega,by omega⟩,⟨by omega,by omega,rfl,jc (hsz _ (by omega)) (by omega)⟩,fun h2=>?_,fun h2=>⟨⟨i.1+1,by omega,fun k k1 k2=>?_⟩,by simp only;omega,by rw[bF (by omega) (by omega)];rfl⟩⟩
  ·have e:pO a b=false:=jq fun h=>by
    have:=h ((eF a b).2.length+i.1) (by omega) (by omega)
    rw[show (dS ((eF a b).1 ((eF a b).2.length+i.1) (wdM a))).x=(eF a b).1 ((eF a b).2.length+i.1) (wdM a) from rfl,this] at h2
    revert h2;decide
   have e2:BL a b=([],6,()):=by unfold BL;rw[e];rfl
   rw[e2];exact⟨rfl,rfl⟩
  ·by_cases e:k<(eF a b).2.length+i.1
   ·exact i.2.2 k k1 e
   ·have e2:k=(eF a b).2.length+i.1:=by omega
    rw[e2]
    exact a8e h2
 ·have hi:i.1=a.length-(eF a b).2.length:=by have:=i.2.1;omega
  have e:pO a b=true:=jw fun k k1 k2=>i.2.2 k k2 (by omega)
  have e2:BL a b=(uV a b,0,()):=by unfold BL;rw[e];rfl
  rw[e2]
  refine⟨⟨by omega,by omega⟩,?_,fun c=>⟨fun h3=>?_,fun h3=>?_⟩⟩
  ·exact(b3x a).symm
  ·rw[uo] at h3
   have hc:c.1<wdM a:=by omega
   have l4:(sx1 a c.1).length=wdM a:=by simp[sx1]
   rw[l4]
   exact⟨⟨⟨by decide,by decide⟩,by omega,by omega,hc⟩,⟨c.1+1,by omega⟩,by simp only;omega,by rw[bF (by omega) (by omega)];rfl,b5Q a c.1⟩
  ·rw[uo] at h3
   have hc:c.1=wdM a:=by have:=c.2;omega
   refine⟨by rw[hc];exact b5P a b,fun t=>⟨fun h4=>?_,fun h4=>?_⟩⟩
   ·have ht:t.1<(eF a b).2.length:=by omega
    have hm:=jm ht
    have hp:=E.lt _ hm
    have e1:(dA (eF a b).2).getD t.1 0=((eF a b).2[t.1]:Int):=by unfold dA;simp[ay,ht]
    have l4:(sx2 a b t.1).length=wdM a:=by simp[sx2]
    rw[lm,lr t.1 (by omega),ny,gJ,gG (by omega),e1,l4,Int.toNat_natCast]
    exact⟨⟨by omega,by omega⟩,⟨by omega,by omega,by omega,by omega,by omega,by omega,hp⟩,⟨t.1+1,by omega⟩,by simp only;omega,by rw[bF (by omega) (by omega)];rfl,b5S E.nd ht⟩
   ·have ht:t.1=(eF a b).2.length:=by have:=t.2;omega
    refine⟨jJ.mpr fun q hq=>?_,?_,rfl⟩
    ·obtain⟨d,_,rfl⟩:=ni.mp hq;exact⟨rfl,trivial⟩
    ·rw[ht];exact b5R a b
set_option maxHeartbeats 2000000
theorem SG {P:Program} {ops:Array Oper} {o:Oper} {a:Act} {w:World} {K:Act->World->Prop} {Q:Exit->Act->World->Prop} {E:Prop}
  (hg:o.guard=none) (s x:Operand) (t:TypeId) (hop:o.op=Op.call { callee:=Callee.builtin Builtin.append,args:=#[s,x],argTypes:=#[t,t] })
  (base:Nat) (e:TypeId) (i:TypeInfo) (z:Value) (size bytes:Nat) (h1:P.underlying t=some (.slice e)) (h2:P.info? e=some i) (h3:i.zero=some z) (h4:i.size=size) (h5:i.bytes=bytes) (h6:z.cells.size=size) (h7:0<size)
  (v:Value) (n:Nat) (xs:List Value) (hs:a.eval s=v) (hown:w.ownsRow base e size v n xs)
  (ad:Addr) (m c:Nat) (news:List Value) (hx:a.eval x=.slice (some ad) m c) (hn:news.length=m*size) (hc:∀ j u,news[j]?=some u->w.cell? (ad.add j)=some u) (h1c:∀ u ∈ news,u.oneCell'=true)
  (b1:n+m<=maxLen) (b2:(n+m)*bytes<=140737488355328) (hbase:base<=w.heap.size)
  (hK:∀ v' w',w'.ownsRow base e size v' (n+m) (xs++news)->w.grownBy w' v.ownBlock->(v'=.slice none 0 0↔v=.slice none 0 0/\m=0)->K (a.put o.dst v') w') :
  if Region.wanted o (yielded ops a.tmps)=true then Oper.wp P o a w K Q else E:=by
 have hw:Region.wanted o (yielded ops a.tmps)=true:=by simp[Region.wanted,hg]
 rw[eY hw]
 exact wp_append_own w s x t hop base e i z size bytes h1 h2 h3 h4 h5 h6 h7 v n xs hs hown ad m c news hx hn hc h1c b1 b2 hbase hK
theorem NV {P:Program} {ops:Array Oper} {o:Oper} {a:Act} {w:World} {K:Act->World->Prop} {Q:Exit->Act->World->Prop} {E:Prop}
  (hg:o.guard=none) (s x:Operand) (t:TypeId) (hop:o.op=Op.call { callee:=Callee.builtin Builtin.append,args:=#[s,x],argTypes:=#[t,t] })
  (e:TypeId) (i:TypeInfo) (h1:P.underlying t=some (.slice e)) (h2:P.info? e=some i)
  (b:Addr) (hs:a.eval s=.slice (some b) 0 0) {q:Option Addr} (hx:a.eval x=.slice q 0 0)
  (hK:K (a.put o.dst (.slice (some b) 0 0)) w) :
  if Region.wanted o (yielded ops a.tmps)=true then Oper.wp P o a w K Q else E:=by
 have hw:Region.wanted o (yielded ops a.tmps)=true:=by simp[Region.wanted,hg]
 rw[eY hw]
 have hrun:(Builtin.append_ #[t,t] o.type #[.slice (some b) 0 0,.slice q 0 0]).run P w=.ok (.slice (some b) 0 0) w:=by
  cases q<;>simp[Builtin.append_,jy h1,sizeOf,typeInfo,h2,Builtin.lenOf,Builtin.firstCells,loadCells,loadCellsFrom,ig,storeCells]
 unfold Oper.wp
 simp[execOp,hop,resolve,invoke,builtin,hs,hx,hrun,Result.andThen]
 exact hK
theorem a9S {neg:Bool} {l:List Nat} {k:Nat} (hk:k<l.length) (h:1000000000<=gr l k):OA neg l=false:=by
 cases hv:OA neg l with
 | false=>rfl
 | true =>
  have:=(OB.1 hv).1.1 _ (b1f hk)
  rw[dK] at this
  omega
theorem a9R {neg:Bool} {l:List Nat} (hl:l≠[]) (h:∀ j,j<l.length->gr l j<1000000000):OA neg l=((gr l (l.length-1):Int) != 0):=by
 rw[a2v hl]
 have:(l.any fun g=>decide (1000000000<=g))=false:=by
  rw[vC]
  intro g hg
  obtain⟨i,hi,rfl⟩:=Bc hg
  have:=h i hi
  rw[rW hi] at this
  simp;omega
 rw[this,Bool.eq_iff_iff]
 simp
theorem kK (v:Value) (ok:Bool) (x:Int) (w:World) (h:iY w v ok x) :
  Calls Tryz.prog 120 #[v] w fun e w'=>e=.returned (.bool ok)/\Below w.heap.size w w':=by
 obtain⟨neg,s,l,rfl,hs,hb,hx,hok⟩:=h
 have HOK:=au hok
 clear hok hx hb
 rcases hs with⟨p,rfl,rfl⟩|⟨b,o,c,rfl,h2,h3,h4,h5⟩
 ·go_enter Tryz.func120,Tryz.ntmps120
  go_wp2
  go_loop [4,8,9,10,11,12,13,14,15,16,17,18] (fun i _ _ _ _ _ _ _ _ _ _ _=>i=.int .i64 0) (fun _ _ _ _ _ _ _ _ _ _ _ _=>0)
  case atStart=>rfl
  case round =>
   subst hrel
   go_wp2
   go_ret
   exact⟨jB (by rw[HOK.out,zH]),(bf _ _).alloc (aj _) _⟩
 ·have H5:=au h5
  have hl:l.length<=9223372036854775807:=by omega
  clear h5
  go_enter Tryz.func120,Tryz.ntmps120
  go_wp2
  go_loop [4,8,9,10,11,12,13,14,15,16,17,18] (fun i _ _ _ _ _ _ _ _ _ _ _=>∃ k:Nat,k<=l.length/\i=.int .i64 k/\Hid (∀ j,j<k->gr l j<1000000000)) (fun i _ _ _ _ _ _ _ _ _ _ _=>l.length-(intOf i).toNat)
  case atStart=>exact⟨0,by omega,rfl,fun j hj=>by omega⟩
  case round =>
   obtain⟨k,hk,rfl,hj⟩:=hrel
   by_cases hlt:k<l.length
   ·have hc:=H5.out k hlt
    by_cases hg:1000000000<=gr l k
    ·have HF:=au (a9S (neg:=neg) hlt hg)
     have hg2:decide ((1000000000:Int)<=gr l k)=true:=by simp;omega
     go_wp2
     go_ret
     exact⟨jB (by rw[HOK.out,HF.out]),(bf _ _).alloc (aj _) _⟩
    ·have hg3:gr l k<1000000000:=by omega
     have hg2:decide ((1000000000:Int)<=gr l k)=false:=by simp;omega
     have HG:=au hg3
     clear hg
     go_wp2
     go_round
     case rel=>exact⟨k+1,by omega,by go_num,fun j h=>if e:j<k then hj.out j e else by rw[show j=k by omega];exact HG.out⟩
     case measure=>simp[intOf]<;>omega
   ·obtain rfl:k=l.length:=by omega
    by_cases hz:l=[]
    ·subst hz
     go_wp2
     go_ret
     exact⟨jB (by rw[HOK.out];rfl),(bf _ _).alloc (aj _) _⟩
    ·have hp:0<l.length:=ku.2 hz
     have HD:=au (a9R (neg:=neg) hz hj.out)
     have hc:=H5.out (l.length-1) (by omega)
     have hidx:((l.length:Int)-1).toNat=l.length-1:=by omega
     have hne:((l.length:Int)==0)=false:=by simp;omega
     go_wp2
     go_ret
     exact⟨jB (by rw[HOK.out,HD.out]),(bf _ _).alloc (aj _) _⟩
theorem dY.a2A {w:World} {b:Nat} (h:b<w.heap.size):dY w (.agg #[.bool false,.slice (some ⟨b,0,none⟩) 0 0]) 0:=by
 refine⟨.slice (some ⟨b,0,none⟩) 0 0,by simp,.inr ⟨b,0,0,by simp[fB],by simp[fB],by omega,h,fun i hi=>?_⟩⟩
 simp[fB] at hi
theorem a9G (v:Value) (x:Int) (w:World) (h:iY w v false x) :
  Calls Tryz.prog 127 #[v] w (uP x w):=by
 obtain⟨b,p,n,c,rfl⟩:=h.raw.form
 have HX:=au h.zero
 have dG:Below w.heap.size w w:=bf _ _
 go_enter Tryz.func127,Tryz.ntmps127
 go_wp2_with fail
 obtain⟨hA1,h0,f0⟩:=bx2 w rfl [.bool b,.slice p n c] 62 [.bool false,.slice none 0 0] 62
 have g0:=(h.below hA1)
 (with_reducible refine(kK _ _ _ _ g0).mono ?_)
 rintro e w1 ⟨rfl,hb1⟩
 have eU:=(f0.to hb1)
 obtain⟨a0,c0,b0,d0⟩:=eU.cf2
 have e0:=(Below.tr (Below.tr dG hA1) hb1)
 go_wp2_with fail
 exact jW (v:=.agg #[.bool false,.slice none 0 0]) (by simp[results,Tryz.results127,go_sem,a0,c0,b0,d0]) rfl ⟨_,rfl,by rw[HX.out];exact dY.zero _,(Below.aI e0 (b:=w.heap.size+1) (by omega) (.bool false) (.slice none 0 0))⟩
theorem a9F (x:Int) (w:World) (b:Bool) (g o n c:Nat) (h:dY w (.agg #[.bool b,.slice (some ⟨g,o,none⟩) n c]) x) (hg:g<w.heap.size) (hc:∀ i,i<(dig x.natAbs).length->w.cell? ⟨g,o+i,none⟩=some (.int .u32 (gr (dig x.natAbs) i:Nat))) (hx:b=decide (x<0)) (hn:n=(dig x.natAbs).length) (hl:n<=1000000000) :
  Calls Tryz.prog 127 #[.agg #[.bool b,.slice (some ⟨g,o,none⟩) n c]] w (uP x w):=by
 obtain⟨i0,hi,hz0,hz1,hz2⟩:=vk jH
 have HC:=au hc
 have HX:=au hx
 have HN:=au hn
 clear hc hx hn
 have dG:Below w.heap.size w w:=bf _ _
 go_enter Tryz.func127,Tryz.ntmps127
 go_wp2_with fail
 obtain⟨hA1,e0,g0⟩:=bx2 w rfl [.bool b,.slice (some ⟨g,o,none⟩) n c] 62 [.bool false,.slice none 0 0] 62
 have j0:=(h.below hA1).b2E
 (with_reducible refine(kK _ _ _ _ j0).mono ?_)
 rintro e w1 ⟨rfl,hb1⟩
 have dR:=(e0.to hb1)
 have eU:=(g0.to hb1)
 have b0:=(Below.tr (Below.tr dG hA1) hb1)
 have h_1:=((h.below hA1).below hb1)
 have q0d:=(dR).drew
 have q1d:=(eU).drew
 have hBd:=(b0).drew
 have q1a:=((eU).alloc (.cells #[] 133)).drew
 have a0:=q1a.c0
 have a1:=q1a.c1
 have a2:=q1a.f0
 have a3:=q1a.f1
 have d0:=(eU).c0
 have d1:=(eU).c1
 have d2:=(eU).f0
 have d3:=(eU).f1
 have d4:=(eU).1
 have d5:=(dR).1
 have hRd:=(h_1).drew
 have S0:(fun w':World=>w'.cell? ⟨w.heap.size,0,none⟩=some (.bool b)/\w'.cell? ⟨w.heap.size,1,none⟩=some (.slice (some ⟨g,o,none⟩) n c)/\w.heap.size+1<w'.heap.size) w1.drew:=⟨q0d.c0,q0d.c1,q1d.1⟩
 have S1:(fun w':World=>w'.cell? ⟨w.heap.size,0,none⟩=some (.bool b)/\w'.cell? ⟨w.heap.size,1,none⟩=some (.slice (some ⟨g,o,none⟩) n c)/\w.heap.size+1<w'.heap.size) (w1.alloc (.cells #[] 133)).drew:=⟨((dR).alloc (.cells #[] 133)).drew.c0,((dR).alloc (.cells #[] 133)).drew.c1,((eU).alloc (.cells #[] 133)).drew.1⟩
 have S2:∀ x0 x1:Value,(fun w':World=>w'.cell? ⟨w.heap.size,0,none⟩=some (.bool b)/\w'.cell? ⟨w.heap.size,1,none⟩=some (.slice (some ⟨g,o,none⟩) n c)/\w.heap.size+1<w'.heap.size) (((w1.setCell ⟨w.heap.size+1,0,none⟩ x0).setCell ⟨w.heap.size+1,1,none⟩ x1).alloc (.cells #[] 133)).drew:=fun x0 x1=>⟨(((dR).aS (b:=w.heap.size+1) (by omega) x0 x1).alloc (.cells #[] 133)).drew.c0,(((dR).aS (b:=w.heap.size+1) (by omega) x0 x1).alloc (.cells #[] 133)).drew.c1,(((eU).store2 x0 x1).alloc (.cells #[] 133)).drew.1⟩
 have K:∀ A B:World,(fun w':World=>w'.cell? ⟨w.heap.size,0,none⟩=some (.bool b)/\w'.cell? ⟨w.heap.size,1,none⟩=some (.slice (some ⟨g,o,none⟩) n c)/\w.heap.size+1<w'.heap.size) A->Below A.heap.size A B->(fun w':World=>w'.cell? ⟨w.heap.size,0,none⟩=some (.bool b)/\w'.cell? ⟨w.heap.size,1,none⟩=some (.slice (some ⟨g,o,none⟩) n c)/\w.heap.size+1<w'.heap.size) B:=by
  rintro A B ⟨h0,h1,h2⟩ hb
  have hs:=hb.size
  exact⟨by rw[(iC hb).1 _ _ (by omega)];exact h0,by rw[(iC hb).1 _ _ (by omega)];exact h1,by omega⟩
 have KS:∀ (A:World) (x0 x1:Value),(fun w':World=>w'.cell? ⟨w.heap.size,0,none⟩=some (.bool b)/\w'.cell? ⟨w.heap.size,1,none⟩=some (.slice (some ⟨g,o,none⟩) n c)/\w.heap.size+1<w'.heap.size) A->(fun w':World=>w'.cell? ⟨w.heap.size,0,none⟩=some (.bool b)/\w'.cell? ⟨w.heap.size,1,none⟩=some (.slice (some ⟨g,o,none⟩) n c)/\w.heap.size+1<w'.heap.size) ((A.setCell ⟨w.heap.size+1,0,none⟩ x0).setCell ⟨w.heap.size+1,1,none⟩ x1):=by
  rintro A x0 x1 ⟨h0,h1,h2⟩
  simp[go_sem,h0,h1,h2]
 go_wp2_with fail
 have tk1:True:=trivial
 go_region_held3 (fun w':World=>w'.cell? ⟨w.heap.size,0,none⟩=some (.bool b)/\w'.cell? ⟨w.heap.size,1,none⟩=some (.slice (some ⟨g,o,none⟩) n c)/\w.heap.size+1<w'.heap.size) (first|with_reducible exact S0|with_reducible exact S1|with_reducible exact S2 _ _|with_reducible exact K _ _ S0 (by assumption)|with_reducible exact K _ _ (by assumption) ((bf _ _).alloc (aj _) _)|with_reducible exact KS _ _ _ (by assumption)|(simp;done))
  (first
   | ((have:=tk1);clear tk1;refine SG rfl _ _ 60 rfl w1.drew.heap.size 133 i0 (.int .u32 0) 1 4 je hi hz0 hz1 hz2 rfl (by decide) _ _ _ rfl (World.ownsRow_made w1.drew #[] 0 (aj _) (by simp[maxLen]) (by simp)) ⟨g,o,none⟩ n c (cells32 (dig x.natAbs)) rfl (by rw[HN.out];exact kE _) (pW fun i hi=>(tu _ _ ⟨g,o+i,none⟩ (jl hg hBd.size)).trans ((hBd.cell (p:=⟨g,o+i,none⟩) hg).trans (HC.out i hi))) (nG _) (by unfold maxLen;omega) (by omega) (by simp) ?_;intro v2 w2 hown hgrow _;have hbw:Below w1.drew.heap.size w1.drew w2:=((bf _ _).alloc (aj _) _).grown hgrow (by simp) (fun j e=>Nat.le_of_eq (Option.some.inj e));have hR2:=Rd.dQ (l:=dig x.natAbs) (by rw[<-HN.out];simpa using hown);obtain⟨p2,c2,rfl,_,_⟩:=hR2.form;have q1w:=q1d.to hbw;have r0:=q1w.c0;have r1:=q1w.c1;have f0:=q1w.f0;have f1:=q1w.f1))
 go_wp2_with fail
 exact jW (v:=.agg #[.bool b,.slice p2 (dig x.natAbs).length c2]) (by simp[results,Tryz.results127,go_sem,r0,r1]) rfl ⟨_,rfl,dY.aI ⟨_,by rw[HX.out],hR2⟩ q1w rfl rfl _ _,Below.aI (Below.tr hBd hbw) (by omega) _ _⟩
theorem a5X (p:Option Addr) (w:World) (h:dY w (.agg #[.bool false,.slice p 0 0]) 0) :
  Calls Tryz.prog 127 #[.agg #[.bool false,.slice p 0 0]] w (uP 0 w):=by
 obtain⟨i0,hi,hz0,hz1,hz2⟩:=vk jH
 have dG:Below w.heap.size w w:=bf _ _
 go_enter Tryz.func127,Tryz.ntmps127
 go_wp2_with fail
 obtain⟨hA1,e0,g0⟩:=bx2 w rfl [.bool false,.slice p 0 0] 62 [.bool false,.slice none 0 0] 62
 have j0:=(h.below hA1).b2E
 (with_reducible refine(kK _ _ (0:Int) _ j0).mono ?_)
 rintro e w1 ⟨rfl,hb1⟩
 have dR:=(e0.to hb1)
 have eU:=(g0.to hb1)
 have b0:=(Below.tr (Below.tr dG hA1) hb1)
 have h_1:=((h.below hA1).below hb1)
 have q0d:=(dR).drew
 have q1d:=(eU).drew
 have hBd:=(b0).drew
 have q1a:=((eU).alloc (.cells #[] 133)).drew
 have a0:=q1a.c0
 have a1:=q1a.c1
 have a2:=q1a.f0
 have a3:=q1a.f1
 have d0:=(eU).c0
 have d1:=(eU).c1
 have d2:=(eU).f0
 have d3:=(eU).f1
 have d4:=(eU).1
 have d5:=(dR).1
 have hRd:=(h_1).drew
 have S0:(fun w':World=>w'.cell? ⟨w.heap.size,0,none⟩=some (.bool false)/\w'.cell? ⟨w.heap.size,1,none⟩=some (.slice p 0 0)/\w.heap.size+1<w'.heap.size) w1.drew:=⟨q0d.c0,q0d.c1,q1d.1⟩
 have S1:(fun w':World=>w'.cell? ⟨w.heap.size,0,none⟩=some (.bool false)/\w'.cell? ⟨w.heap.size,1,none⟩=some (.slice p 0 0)/\w.heap.size+1<w'.heap.size) (w1.alloc (.cells #[] 133)).drew:=⟨((dR).alloc (.cells #[] 133)).drew.c0,((dR).alloc (.cells #[] 133)).drew.c1,((eU).alloc (.cells #[] 133)).drew.1⟩
 have S2:∀ x0 x1:Value,(fun w':World=>w'.cell? ⟨w.heap.size,0,none⟩=some (.bool false)/\w'.cell? ⟨w.heap.size,1,none⟩=some (.slice p 0 0)/\w.heap.size+1<w'.heap.size) (((w1.setCell ⟨w.heap.size+1,0,none⟩ x0).setCell ⟨w.heap.size+1,1,none⟩ x1).alloc (.cells #[] 133)).drew:=fun x0 x1=>⟨(((dR).aS (b:=w.heap.size+1) (by omega) x0 x1).alloc (.cells #[] 133)).drew.c0,(((dR).aS (b:=w.heap.size+1) (by omega) x0 x1).alloc (.cells #[] 133)).drew.c1,(((eU).store2 x0 x1).alloc (.cells #[] 133)).drew.1⟩
 have K:∀ A B:World,(fun w':World=>w'.cell? ⟨w.heap.size,0,none⟩=some (.bool false)/\w'.cell? ⟨w.heap.size,1,none⟩=some (.slice p 0 0)/\w.heap.size+1<w'.heap.size) A->Below A.heap.size A B->(fun w':World=>w'.cell? ⟨w.heap.size,0,none⟩=some (.bool false)/\w'.cell? ⟨w.heap.size,1,none⟩=some (.slice p 0 0)/\w.heap.size+1<w'.heap.size) B:=by
  rintro A B ⟨h0,h1,h2⟩ hb
  have hs:=hb.size
  exact⟨by rw[(iC hb).1 _ _ (by omega)];exact h0,by rw[(iC hb).1 _ _ (by omega)];exact h1,by omega⟩
 have KS:∀ (A:World) (x0 x1:Value),(fun w':World=>w'.cell? ⟨w.heap.size,0,none⟩=some (.bool false)/\w'.cell? ⟨w.heap.size,1,none⟩=some (.slice p 0 0)/\w.heap.size+1<w'.heap.size) A->(fun w':World=>w'.cell? ⟨w.heap.size,0,none⟩=some (.bool false)/\w'.cell? ⟨w.heap.size,1,none⟩=some (.slice p 0 0)/\w.heap.size+1<w'.heap.size) ((A.setCell ⟨w.heap.size+1,0,none⟩ x0).setCell ⟨w.heap.size+1,1,none⟩ x1):=by
  rintro A x0 x1 ⟨h0,h1,h2⟩
  simp[go_sem,h0,h1,h2]
 go_wp2_with fail
 go_region_held3 (fun w':World=>w'.cell? ⟨w.heap.size,0,none⟩=some (.bool false)/\w'.cell? ⟨w.heap.size,1,none⟩=some (.slice p 0 0)/\w.heap.size+1<w'.heap.size) (first|with_reducible exact S0|with_reducible exact S1|with_reducible exact S2 _ _|with_reducible exact K _ _ S0 (by assumption)|with_reducible exact K _ _ (by assumption) ((bf _ _).alloc (aj _) _)|with_reducible exact KS _ _ _ (by assumption)|(simp;done))
  (refine NV rfl _ _ 60 rfl 133 i0 je hi _ rfl rfl ?_)
 go_wp2_with fail
 exact jW (v:=.agg #[.bool false,.slice (some ⟨w1.heap.size,0,none⟩) 0 0]) (by simp[results,Tryz.results127,go_sem,d0,d1,d2,d3,d4]) rfl ⟨_,rfl,dY.a2A (by simp[World.setCell]),(Below.al (Below.aI b0 (by omega) _ _) _).drew⟩
theorem a5Y (v:Value) (ok:Bool) (x:Int) (w:World) (h:iY w v ok x) (hl:isz x<=1000000000) :
  Calls Tryz.prog 127 #[v] w (uP x w):=by
 cases ok
 ·exact a9G v x w h
 ·have hi:=h.int
  obtain⟨s,rfl,hs⟩:=hi
  rcases hs with⟨p,rfl,h0⟩|⟨b,o,c,rfl,h2,h3,h4,h5⟩
  ·have hx:x=0:=by have:=kW.1 h0;omega
   subst hx
   exact a5X p w (h.int)
  ·exact a9F x w _ b o _ c h.int h4 h5 rfl rfl hl
theorem Raw.toV {w:World} {v:Value} {x:Int} (h:Raw w v x):∃ ok,iY w v ok x:=by
 obtain⟨neg,s,l,h1,h2,h3,h4⟩:=h
 exact⟨_,neg,s,l,h1,h2,h3,h4,rfl⟩
theorem iK (v:Value) (x:Int) (w:World) (h:Raw w v x) (hl:isz x<=1000000000) :
  Calls Tryz.prog 127 #[v] w (uP x w):=by
 obtain⟨ok,h⟩:=h.toV
 exact a5Y v ok x w h hl
theorem uY {P:Program} {w:World} {ops:Array Oper} {rest:List Oper} {o:Oper} {a:Act} {Q:Exit->Act->World->Prop} (hgd:o.guard=none) (s x:Operand) (t:TypeId)
  (hop:o.op=Op.call { callee:=Callee.builtin Builtin.append,args:=#[s,x],argTypes:=#[t,t] })
  (e:TypeId) (i:TypeInfo) (h1:P.underlying t=some (.slice e)) (h2:P.info? e=some i)
  (b:Addr) (hs:a.eval s=.slice (some b) 0 0) {q:Option Addr} (hx:a.eval x=.slice q 0 0)
  (h:wpList P ops Q rest (a.put o.dst (.slice (some b) 0 0)) w):wpList P ops Q (o::rest) a w :=
 wpList_plain hgd fun _ hK=>by
  have hrun:(Builtin.append_ #[t,t] o.type #[.slice (some b) 0 0,.slice q 0 0]).run P w=.ok (.slice (some b) 0 0) w:=by
   cases q<;>simp[Builtin.append_,jy h1,sizeOf,typeInfo,h2,Builtin.lenOf,Builtin.firstCells,loadCells,loadCellsFrom,ig,storeCells]
  unfold Oper.wp
  simp[execOp,hop,resolve,invoke,builtin,hs,hx,hrun,Result.andThen]
  exact hK _ _ h
theorem GR (W:World):(W.alloc (.cells #[] 133)).ownsRow W.heap.size 133 1 (.slice (some ⟨W.heap.size,0,none⟩) 0 0) 0 []:=World.ownsRow_made W #[] 0 (aj _) (by simp[maxLen]) (by simp)
theorem yK (w:World) (cs:List Value) (T:TypeId):((w.alloc (.cells cs.toArray T)).alloc (.cells #[] 133)).ownsRow (w.heap.size+1) 133 1 (.slice (some ⟨w.heap.size+1,0,none⟩) 0 0) 0 []:=by simpa using GR (w.alloc (.cells cs.toArray T))
theorem II {w:World} {p:Option Addr} {c k:Nat} {l:List Nat} {flag neg:Bool} {L:List Nat} (hLq:l.take k=L) (hR:Rd w (.slice p L.length c) L) (hL:Low l) (hz:val (l.take k)=val l) (hf:(k=0/\flag=false)\/(0<k/\k<=l.length/\gr l (k-1)≠0/\flag=neg)) :
  dY w (.agg #[.bool flag,.slice p L.length c]) (sg neg (val l)):=by
 subst hLq
 have ht:dig (val l)=l.take k:=by
  rcases hf with⟨rfl,_⟩|⟨h0,h1,h2,_⟩
  ·exact BQ hL (pq _) hz (.inl rfl)
  ·exact BQ hL h1 hz (.inr h2)
 refine⟨_,?_,by rw[a6b,ht];exact hR⟩
 rcases hf with⟨rfl,rfl⟩|⟨h0,h1,h2,rfl⟩
 ·have:val l=0:=by rw[<-hz];simp[val]
  rw[this,a2j];simp
 ·have:val l≠0:=fun e=>by
   rw[e,fB] at ht
   have:=rD List.length ht
   rw[jg] at this
   simp at this;omega
  rw[b3a this]
def a9Z (x:Int) (w:World) (e:Ending) (w':World):Prop:=∃ g p n c,e=.returned (.agg #[.bool g,.slice p n c])/\dY w' (.agg #[.bool g,.slice p n c]) x/\(∀ k,(Value.slice p n c).ownBlock=some k->w.heap.size<=k)/\Below w.heap.size w w'
def b3Q (l:List Nat) (w:World) (e:Ending) (w':World):Prop:=∃ s,e=.returned s/\Rd w' s l/\(∀ k,s.ownBlock=some k->w.heap.size<=k)/\Below w.heap.size w w'
theorem a5V (s:Value) (l:List Nat) (w:World) (hs:Rd w s l) (hl:Low l) (hn:l.length<=2000000001) :
  Calls Tryz.prog 128 #[.bool true,s] w (a9Z (sg true (val l)) w):=by
 obtain⟨i0,hi,hz0,hz1,hz2⟩:=vk jH
 have HL:=au hl
 clear hl
 rcases hs with⟨p,rfl,rfl⟩|⟨b,o,c,rfl,h2,h3,h4,h5⟩
 ·go_enter Tryz.func128,Tryz.ntmps128
  go_wp2
  go_loop [5,8,9,10,11,12,13,14,15,16,17,18,19] (fun n _ _ _ _ _ _ _ _ _ _ _ _=>n=.int .i64 0) (fun n _ _ _ _ _ _ _ _ _ _ _ _=>0)
  case atStart=>rfl
  case round =>
   subst hrel
   go_wp2_with (at_builtin;refine uY rfl _ _ 60 rfl 133 i0 je hi _ rfl rfl ?_)
   exact jW (v:=.agg #[.bool false,.slice (some ⟨w.heap.size+1,0,none⟩) 0 0]) (by simp[results,Tryz.results128,go_sem]) rfl ⟨_,_,_,_,rfl,by simpa [val,sg] using dY.a2A (by simp),fun k hk=>by simp[Value.ownBlock] at hk;omega,((bf _ _).alloc (aj _) _).alloc (by simp) _⟩
 ·have H5:=au h5
  clear h5
  go_enter Tryz.func128,Tryz.ntmps128
  go_wp2
  go_loop [5,8,9,10,11,12,13,14,15,16,17,18,19] (fun n _ _ _ _ _ _ _ _ _ _ _ _=>∃ k:Nat,k<=l.length/\n=.int .i64 (k:Nat)/\Hid (val (l.take k)=val l)) (fun n _ _ _ _ _ _ _ _ _ _ _ _=>(intOf n).toNat)
  case atStart=>exact⟨l.length,aj _,rfl,by simp[Hid]⟩
  case round =>
   obtain⟨k,hk,rfl,hz⟩:=hrel
   cases k with
   | zero =>
    have HK:Hid ((l.take 0).length=0):=by unfold Hid;simp
    obtain⟨L,hL⟩:∃ L,l.take (0)=L:=⟨_,rfl⟩
    have HLn:Hid (L.length=0):=by rw[<-hL];exact HK.out
    have HCL:Hid (∀ i,i<L.length->w.cell? ⟨b,o+i,none⟩=some (.int .u32 (gr L i:Nat))):=fun i hi=>by
     have hi2:i<0:=by have:=HLn.out;omega
     rw[<-hL,GV hi2]
     exact H5.out i (by omega)
    have HLq:=au hL
    clear hL HK
    go_wp2_with (at_builtin;refine qo _ rfl _ _ 60 rfl (w.heap.size+1) 133 i0 (.int .u32 0) 1 4 je hi hz0 hz1 hz2 rfl (by decide) _ _ _ rfl (yK w [.bool false,.slice none 0 0] 62) ⟨b,o,none⟩ (0) c (cells32 L) rfl (by rw[kE,HLn.out]) (pW fun i hi=>(tu _ _ ⟨b,o+i,none⟩ (by simp;omega)).trans ((tu _ _ ⟨b,o+i,none⟩ h4).trans (HCL.out i hi))) (nG _) (by unfold maxLen;omega) (by omega) (by simp) ?_)
    intro v' w1 hown hgrow _
    have hbw:Below (w.heap.size+1) (w.alloc (.cells #[.bool false,.slice none 0 0] 62)) w1:=((bf _ _).alloc (by simp) _).grown hgrow (by simp) (fun j e=>Nat.le_of_eq (Option.some.inj e))
    have hR:=Rd.dQ (l:=L) (by rw[HLn.out];simpa using vN hown (pq _))
    obtain⟨p2,c2,rfl,_,_⟩:=hR.form
    have q1:=(Bx.new w [.bool false,.slice none 0 0] 62).below hbw (by omega)
    have r0:=q1.c0
    have r1:=q1.c1
    have f0:=q1.f0
    have f1:=q1.f1
    go_wp2
    exact jW (v:=.agg #[.bool false,.slice p2 L.length c2]) (by simp[results,Tryz.results128,go_sem,r0,r1]) rfl ⟨_,_,_,_,rfl,dY.aI (II (neg:=true) (flag:=false) HLq.out hR HL.out hz.out (.inl ⟨rfl,rfl⟩)) q1 rfl rfl _ _,fun k hk=>Nat.le_of_succ_le (hown.lt k hk).1,Below.aI (((bf _ _).alloc (aj _) _).trans (hbw.mono (by simp))) (aj _) _ _⟩
   | succ k =>
    have hc:=H5.out k (by omega)
    by_cases hg:gr l k=0
    ·have HV:=au (yB (by omega) hg)
     rw[hg] at hc
     have HG:=au hg
     clear hg
     go_wp2
     go_round
     case rel=>exact⟨k,by omega,by go_num,by unfold Hid;rw[HV.out,hz.out]⟩
     case measure=>simp[intOf]
    ·have hg':((gr l k:Int)==0)=false:=by simp;omega
     have HG:=au hg
     clear hg
     have HK:Hid ((l.take (k+1)).length=k+1):=by unfold Hid;rw[jg];omega
     obtain⟨L,hL⟩:∃ L,l.take (k+1)=L:=⟨_,rfl⟩
     have HLn:Hid (L.length=k+1):=by rw[<-hL];exact HK.out
     have HCL:Hid (∀ i,i<L.length->w.cell? ⟨b,o+i,none⟩=some (.int .u32 (gr L i:Nat))):=fun i hi=>by
      have hi2:i<k+1:=by have:=HLn.out;omega
      rw[<-hL,GV hi2]
      exact H5.out i (by omega)
     have HLq:=au hL
     clear hL HK
     go_wp2_with (at_builtin;refine qo _ rfl _ _ 60 rfl (w.heap.size+1) 133 i0 (.int .u32 0) 1 4 je hi hz0 hz1 hz2 rfl (by decide) _ _ _ rfl (yK w [.bool false,.slice none 0 0] 62) ⟨b,o,none⟩ (k+1) c (cells32 L) rfl (by rw[kE,HLn.out]) (pW fun i hi=>(tu _ _ ⟨b,o+i,none⟩ (by simp;omega)).trans ((tu _ _ ⟨b,o+i,none⟩ h4).trans (HCL.out i hi))) (nG _) (by unfold maxLen;omega) (by omega) (by simp) ?_)
     intro v' w1 hown hgrow _
     have hbw:Below (w.heap.size+1) (w.alloc (.cells #[.bool false,.slice none 0 0] 62)) w1:=((bf _ _).alloc (by simp) _).grown hgrow (by simp) (fun j e=>Nat.le_of_eq (Option.some.inj e))
     have hR:=Rd.dQ (l:=L) (by rw[HLn.out];simpa using vN hown (pq _))
     obtain⟨p2,c2,rfl,_,_⟩:=hR.form
     have q1:=(Bx.new w [.bool false,.slice none 0 0] 62).below hbw (by omega)
     have r0:=q1.c0
     have r1:=q1.c1
     have f0:=q1.f0
     have f1:=q1.f1
     go_wp2
     exact jW (v:=.agg #[.bool true,.slice p2 L.length c2]) (by simp[results,Tryz.results128,go_sem,r0,r1]) rfl ⟨_,_,_,_,rfl,dY.aI (II (neg:=true) (flag:=true) HLq.out hR HL.out hz.out (.inr ⟨by omega,hk,HG.out,rfl⟩)) q1 rfl rfl _ _,fun k hk=>Nat.le_of_succ_le (hown.lt k hk).1,Below.aI (((bf _ _).alloc (aj _) _).trans (hbw.mono (by simp))) (aj _) _ _⟩
theorem a4g (s:Value) (l:List Nat) (w:World) (hs:Rd w s l) (hl:Low l) (hn:l.length<=2000000001) :
  Calls Tryz.prog 128 #[.bool false,s] w (a9Z (sg false (val l)) w):=by
 obtain⟨i0,hi,hz0,hz1,hz2⟩:=vk jH
 have HL:=au hl
 clear hl
 rcases hs with⟨p,rfl,rfl⟩|⟨b,o,c,rfl,h2,h3,h4,h5⟩
 ·go_enter Tryz.func128,Tryz.ntmps128
  go_wp2
  go_loop [5,8,9,10,11,12,13,14,15,16,17,18,19] (fun n _ _ _ _ _ _ _ _ _ _ _ _=>n=.int .i64 0) (fun n _ _ _ _ _ _ _ _ _ _ _ _=>0)
  case atStart=>rfl
  case round =>
   subst hrel
   go_wp2_with (at_builtin;refine uY rfl _ _ 60 rfl 133 i0 je hi _ rfl rfl ?_)
   exact jW (v:=.agg #[.bool false,.slice (some ⟨w.heap.size+1,0,none⟩) 0 0]) (by simp[results,Tryz.results128,go_sem]) rfl ⟨_,_,_,_,rfl,by simpa [val,sg] using dY.a2A (by simp),fun k hk=>by simp[Value.ownBlock] at hk;omega,((bf _ _).alloc (aj _) _).alloc (by simp) _⟩
 ·have H5:=au h5
  clear h5
  go_enter Tryz.func128,Tryz.ntmps128
  go_wp2
  go_loop [5,8,9,10,11,12,13,14,15,16,17,18,19] (fun n _ _ _ _ _ _ _ _ _ _ _ _=>∃ k:Nat,k<=l.length/\n=.int .i64 (k:Nat)/\Hid (val (l.take k)=val l)) (fun n _ _ _ _ _ _ _ _ _ _ _ _=>(intOf n).toNat)
  case atStart=>exact⟨l.length,aj _,rfl,by simp[Hid]⟩
  case round =>
   obtain⟨k,hk,rfl,hz⟩:=hrel
   cases k with
   | zero =>
    have HK:Hid ((l.take 0).length=0):=by unfold Hid;simp
    obtain⟨L,hL⟩:∃ L,l.take (0)=L:=⟨_,rfl⟩
    have HLn:Hid (L.length=0):=by rw[<-hL];exact HK.out
    have HCL:Hid (∀ i,i<L.length->w.cell? ⟨b,o+i,none⟩=some (.int .u32 (gr L i:Nat))):=fun i hi=>by
     have hi2:i<0:=by have:=HLn.out;omega
     rw[<-hL,GV hi2]
     exact H5.out i (by omega)
    have HLq:=au hL
    clear hL HK
    go_wp2_with (at_builtin;refine qo _ rfl _ _ 60 rfl (w.heap.size+1) 133 i0 (.int .u32 0) 1 4 je hi hz0 hz1 hz2 rfl (by decide) _ _ _ rfl (yK w [.bool false,.slice none 0 0] 62) ⟨b,o,none⟩ (0) c (cells32 L) rfl (by rw[kE,HLn.out]) (pW fun i hi=>(tu _ _ ⟨b,o+i,none⟩ (by simp;omega)).trans ((tu _ _ ⟨b,o+i,none⟩ h4).trans (HCL.out i hi))) (nG _) (by unfold maxLen;omega) (by omega) (by simp) ?_)
    intro v' w1 hown hgrow _
    have hbw:Below (w.heap.size+1) (w.alloc (.cells #[.bool false,.slice none 0 0] 62)) w1:=((bf _ _).alloc (by simp) _).grown hgrow (by simp) (fun j e=>Nat.le_of_eq (Option.some.inj e))
    have hR:=Rd.dQ (l:=L) (by rw[HLn.out];simpa using vN hown (pq _))
    obtain⟨p2,c2,rfl,_,_⟩:=hR.form
    have q1:=(Bx.new w [.bool false,.slice none 0 0] 62).below hbw (by omega)
    have r0:=q1.c0
    have r1:=q1.c1
    have f0:=q1.f0
    have f1:=q1.f1
    go_wp2
    exact jW (v:=.agg #[.bool false,.slice p2 L.length c2]) (by simp[results,Tryz.results128,go_sem,r0,r1]) rfl ⟨_,_,_,_,rfl,dY.aI (II (neg:=false) (flag:=false) HLq.out hR HL.out hz.out (.inl ⟨rfl,rfl⟩)) q1 rfl rfl _ _,fun k hk=>Nat.le_of_succ_le (hown.lt k hk).1,Below.aI (((bf _ _).alloc (aj _) _).trans (hbw.mono (by simp))) (aj _) _ _⟩
   | succ k =>
    have hc:=H5.out k (by omega)
    by_cases hg:gr l k=0
    ·have HV:=au (yB (by omega) hg)
     rw[hg] at hc
     have HG:=au hg
     clear hg
     go_wp2
     go_round
     case rel=>exact⟨k,by omega,by go_num,by unfold Hid;rw[HV.out,hz.out]⟩
     case measure=>simp[intOf]
    ·have hg':((gr l k:Int)==0)=false:=by simp;omega
     have HG:=au hg
     clear hg
     have HK:Hid ((l.take (k+1)).length=k+1):=by unfold Hid;rw[jg];omega
     obtain⟨L,hL⟩:∃ L,l.take (k+1)=L:=⟨_,rfl⟩
     have HLn:Hid (L.length=k+1):=by rw[<-hL];exact HK.out
     have HCL:Hid (∀ i,i<L.length->w.cell? ⟨b,o+i,none⟩=some (.int .u32 (gr L i:Nat))):=fun i hi=>by
      have hi2:i<k+1:=by have:=HLn.out;omega
      rw[<-hL,GV hi2]
      exact H5.out i (by omega)
     have HLq:=au hL
     clear hL HK
     go_wp2_with (at_builtin;refine qo _ rfl _ _ 60 rfl (w.heap.size+1) 133 i0 (.int .u32 0) 1 4 je hi hz0 hz1 hz2 rfl (by decide) _ _ _ rfl (yK w [.bool false,.slice none 0 0] 62) ⟨b,o,none⟩ (k+1) c (cells32 L) rfl (by rw[kE,HLn.out]) (pW fun i hi=>(tu _ _ ⟨b,o+i,none⟩ (by simp;omega)).trans ((tu _ _ ⟨b,o+i,none⟩ h4).trans (HCL.out i hi))) (nG _) (by unfold maxLen;omega) (by omega) (by simp) ?_)
     intro v' w1 hown hgrow _
     have hbw:Below (w.heap.size+1) (w.alloc (.cells #[.bool false,.slice none 0 0] 62)) w1:=((bf _ _).alloc (by simp) _).grown hgrow (by simp) (fun j e=>Nat.le_of_eq (Option.some.inj e))
     have hR:=Rd.dQ (l:=L) (by rw[HLn.out];simpa using vN hown (pq _))
     obtain⟨p2,c2,rfl,_,_⟩:=hR.form
     have q1:=(Bx.new w [.bool false,.slice none 0 0] 62).below hbw (by omega)
     have r0:=q1.c0
     have r1:=q1.c1
     have f0:=q1.f0
     have f1:=q1.f1
     go_wp2
     exact jW (v:=.agg #[.bool false,.slice p2 L.length c2]) (by simp[results,Tryz.results128,go_sem,r0,r1]) rfl ⟨_,_,_,_,rfl,dY.aI (II (neg:=false) (flag:=false) HLq.out hR HL.out hz.out (.inr ⟨by omega,hk,HG.out,rfl⟩)) q1 rfl rfl _ _,fun k hk=>Nat.le_of_succ_le (hown.lt k hk).1,Below.aI (((bf _ _).alloc (aj _) _).trans (hbw.mono (by simp))) (aj _) _ _⟩
theorem sS (neg:Bool) (s:Value) (l:List Nat) (w:World) (hs:Rd w s l) (hl:Low l) (hn:l.length<=2000000001) :
  Calls Tryz.prog 128 #[.bool neg,s] w (a9Z (sg neg (val l)) w):=by
 cases neg
 ·exact a4g s l w hs hl hn
 ·exact a5V s l w hs hl hn
theorem iU (neg:Bool) (s:Value) (l:List Nat) (w:World) (hs:Rd w s l) (hl:Low l) (hn:l.length<=2000000001) :
  Calls Tryz.prog 128 #[.bool neg,s] w (uP (sg neg (val l)) w) :=
 (sS neg s l w hs hl hn).mono fun e w' ⟨g,p,n,c,h1,h2,_,h4⟩=>⟨_,h1,h2,h4⟩
theorem FU (o:List Nat) (r:Nat):val (o++[r])=val o+BB ^ o.length*r:=by rw[val_append];simp[dL,val]
theorem ER {o:List Nat} {r:Nat} (h:Low o) (hr:r<=999999999):Low (o++[r]):=Low.append.2 ⟨h,Low.cons.2 ⟨by rw[dK];omega,Low.nil⟩⟩
structure a0L (a b o:List Nat) (k c:Nat):Prop where
 len:o.length=k
 low:Low o
 vl:val o+BB ^ k*c=val (a.take k)+val (b.take k)
 car:c<=1
theorem a0L.zero (a b:List Nat):a0L a b [] 0 0:=⟨rfl,Low.nil,by simp[val],by omega⟩
theorem a0L.step {a b o:List Nat} {k c r q:Nat} (h:a0L a b o k c) (ha:gr a k<=999999999) (hb:gr b k<=999999999) (hs:gr a k+gr b k+c=r+1000000000*q) (hr:r<=999999999):a0L a b (o++[r]) (k+1) q:=by
 have hc:=h.car
 refine⟨by simp[h.len],ER h.low hr,?_,by omega⟩
 rw[FU,bT,bT,h.len,Nat.pow_succ]
 have:=h.vl
 simp only[dK] at *
 have e:1000000000 ^ k*(gr a k+gr b k+c)=1000000000 ^ k*(r+1000000000*q):=by rw[hs]
 grind
theorem a0L.done {a b o:List Nat} {k c:Nat} (h:a0L a b o k c) (h1:a.length<=k) (h2:b.length<=k):Low (o++[c])/\val (o++[c])=val a+val b:=by
 have hc:=h.car
 have hv:=h.vl
 rw[fO h1,fO h2] at hv
 exact⟨ER h.low (by omega),by rw[FU,h.len];exact hv⟩
structure a0O (a o:List Nat) (d k c:Nat):Prop where
 len:o.length=k
 low:Low o
 vl:val o+BB ^ k*c=val (a.take k)*d
 car:c<=999999999
theorem a0O.zero (a:List Nat) (d:Nat):a0O a [] d 0 0:=⟨rfl,Low.nil,by simp[val],by omega⟩
theorem a0O.step {a o:List Nat} {d k c r q:Nat} (h:a0O a o d k c) (hs:gr a k*d+c=r+1000000000*q) (hr:r<=999999999) (hq:q<=999999999):a0O a (o++[r]) d (k+1) q:=by
 refine⟨by simp[h.len],ER h.low hr,?_,hq⟩
 rw[FU,bT,h.len,Nat.pow_succ]
 have:=h.vl
 simp only[dK] at *
 have e:1000000000 ^ k*(gr a k*d+c)=1000000000 ^ k*(r+1000000000*q):=by rw[hs]
 grind
theorem a0O.done {a o:List Nat} {d k c:Nat} (h:a0O a o d k c) (h1:a.length<=k):Low (o++[c])/\val (o++[c])=val a*d:=by
 have hv:=h.vl
 rw[fO h1] at hv
 exact⟨ER h.low h.car,by rw[FU,h.len];exact hv⟩
structure MInv (a b o:List Nat) (k c:Nat):Prop where
 len:o.length=k
 low:Low o
 vl:val o+val (b.take k)=val (a.take k)+BB ^ k*c
 car:c<=1
theorem MInv.zero (a b:List Nat):MInv a b [] 0 0:=⟨rfl,Low.nil,by simp[val],by omega⟩
theorem MInv.step {a b o:List Nat} {k c r c':Nat} (h:MInv a b o k c) (hs:r+gr b k+c=gr a k+1000000000*c') (hr:r<=999999999) (hc:c'<=1):MInv a b (o++[r]) (k+1) c':=by
 refine⟨by simp[h.len],ER h.low hr,?_,hc⟩
 rw[FU,bT,bT,h.len,Nat.pow_succ]
 have:=h.vl
 simp only[dK] at *
 have e:1000000000 ^ k*(r+gr b k+c)=1000000000 ^ k*(gr a k+1000000000*c'):=by rw[hs]
 grind
theorem MInv.done {a b o:List Nat} {k c:Nat} (h:MInv a b o k c) (h1:a.length<=k) (h2:b.length<=k) (hle:val b<=val a):val o=val a-val b:=by
 have hv:=h.vl
 rw[fO h1,fO h2] at hv
 have hl:=rH h.low
 rw[h.len] at hl
 have hc:=h.car
 rcases qp c with h0|h0
 ·subst h0;simp at hv;omega
 ·have:c=1:=by omega
  subst this
  simp at hv
  omega
structure a0M (a o:List Nat) (d k r:Nat):Prop where
 len:o.length=a.length
 low:Low (o.drop k)
 vl:val (a.drop k)=val (o.drop k)*d+r
 rest:r<d
theorem JI {a:List Nat} {k:Nat} (hk:k<a.length):val (a.drop k)=gr a k+BB*val (a.drop (k+1)):=by
 rw[yI hk,dL,rW hk]
theorem a0M.start (a:List Nat) {d:Nat} (hd:0<d):a0M a (List.replicate a.length 0) d a.length 0:=⟨by simp,by simp[Low.nil],by simp[val],hd⟩
theorem a0M.step {a o:List Nat} {d k r q r':Nat} (h:a0M a o d (k+1) r) (hk:k<a.length) (hn:r*1000000000+gr a k=q*d+r') (hr:r'<d) (ha:gr a k<=999999999):a0M a (o.set k q) d k r'/\q<=999999999:=by
 have hq:q<=999999999:=by
  rcases zS 999999999 q with h1|h1
  ·exfalso
   have e1:1000000000*d<=q*d:=jh _ h1
   have e2:=h.rest
   have e3:(r+1)*1000000000<=d*1000000000:=jh _ e2
   rw[xg] at e3
   rw[qI d] at e3
   omega
  ·exact h1
 have hl:k<o.length:=by rw[h.len];exact hk
 have hs:(o.set k q).drop k=q::o.drop (k+1):=by
  rw[yI (by simpa using hl),List.drop_set_of_lt (by omega)]
  simp
 refine⟨⟨by simp[h.len],?_,?_,hr⟩,hq⟩
 ·rw[hs];exact Low.cons.2 ⟨by rw[dK];omega,h.low⟩
 ·rw[hs,JI hk,h.vl,dL,dK]
  grind
theorem a0M.done {a o:List Nat} {d r:Nat} (h:a0M a o d 0 r):Low o/\val o=val a / d/\r=val a%d:=by
 have h1:=h.vl
 simp at h1
 have hr:=h.rest
 have hl:=h.low
 simp at hl
 refine⟨hl,?_,?_⟩
 ·rw[h1,qI,Nat.mul_add_div (by omega),Aw hr];simp
 ·rw[h1,qI,Nat.mul_add_mod,Ag hr]
end Go.Proofs.YtgplhbhfdgempaaGreat
