/-
  Lemmas for the theorem vsolves_holds, part 1 of 2.
-/
import Derived.Test.YtgplhbhfdgempaaGreatDb01
import Derived.Test.YtgplhbhfdgempaaGreatDb02
import Derived.Test.YtgplhbhfdgempaaGreatDb03
import Derived.Test.YtgplhbhfdgempaaGreatDb04
import Derived.Test.YtgplhbhfdgempaaGreatDb05
import Derived.Test.YtgplhbhfdgempaaGreatDb06
import Derived.Test.YtgplhbhfdgempaaGreatDb07
import Derived.Test.YtgplhbhfdgempaaGreatDb08
import Derived.Test.YtgplhbhfdgempaaGreatDb09
import Derived.Test.YtgplhbhfdgempaaGreatDb10
import Derived.Test.YtgplhbhfdgempaaGreatDb11
import Derived.Test.YtgplhbhfdgempaaGreatDb12
import Derived.Test.YtgplhbhfdgempaaGreatDb13
import Derived.Test.YtgplhbhfdgempaaGreatDb14
import Derived.Test.YtgplhbhfdgempaaGreatDb15
import Derived.Test.YtgplhbhfdgempaaGreatDb16
import Derived.Test.YtgplhbhfdgempaaGreatDb17
import Derived.Test.YtgplhbhfdgempaaGreatDb18
import Derived.Test.YtgplhbhfdgempaaGreatDb19
import Derived.Test.YtgplhbhfdgempaaGreatDb20
import Derived.Test.YtgplhbhfdgempaaGreatDb21
import Derived.Test.YtgplhbhfdgempaaGreatDb22
import Derived.Test.YtgplhbhfdgempaaGreatDb23
import Derived.Test.YtgplhbhfdgempaaGreatDb24
import Derived.Test.YtgplhbhfdgempaaGreatDb25
import Derived.Test.YtgplhbhfdgempaaGreatDb26
import Derived.Test.YtgplhbhfdgempaaGreatDb27
import Derived.Test.YtgplhbhfdgempaaGreatDb28
import Derived.Test.YtgplhbhfdgempaaGreatDb29
import Derived.Test.YtgplhbhfdgempaaGreatDb30
import Derived.Test.YtgplhbhfdgempaaGreatDb31
import Derived.Test.YtgplhbhfdgempaaGreatDb32
import Derived.Test.YtgplhbhfdgempaaGreatDb33
import Derived.Test.YtgplhbhfdgempaaGreatDb34
import Derived.Test.YtgplhbhfdgempaaGreatDb35
import Derived.Test.YtgplhbhfdgempaaGreatDb36
import Derived.Test.YtgplhbhfdgempaaGreatDb37
namespace Go.Proofs.YtgplhbhfdgempaaGreat
open Go Go.RowKit
set_option linter.unusedSimpArgs false
set_option linter.unusedVariables false
set_option maxRecDepth 20000
theorem Bx.f4 {w:World} {b:Nat} {u0 u1 u2 u3 u4:Value} {cs:List Value} (h:Bx w b (u0::u1::u2::u3::u4::cs)):w.frozen? ⟨b,4,none⟩=false:=(h.2 4 u4 rfl).2
section
section
variable {R n:Nat} {e m:Mt} {p:List Nat}
theorem Ech.c1y (E:Ech R e n m p) {q:Nat} (hq:n<=q) {x:Nat->Rat} (hx:∀ i,i<R->mv n e x i=e i q):∀ i,p.length<=i->i<R->m i q=0:=by
 intro i h1 h2
 have:=(E.col hq x).mp hx i h2
 rw[E.low h1 h2] at this;exact this.symm
end
end
theorem oL.mvr {n:Nat} {a x:Mt} (H:oL n a x) (u:Nat->Rat) {i:Nat} (h:i<n):mv n a (mv n x u) i=u i:=by
 rw[<-yX,wI (b:=idm) (fun c hc=>H.r i h c hc),a0d h]
theorem a6d {N c:Nat} (g b w:Mt) (x:Nat->Rat) {i:Nat} (hi:i<N):mv N (uT c g b w) x i=x i-mv c g (mv c w (mv N (tr b) x)) i:=by
 have h1:mv N (uT c g b w) x i=mv N idm x i-mv N (mm c g (mm c w (tr b))) x i:=congrFun (congrFun (a7B N idm (mm c g (mm c w (tr b))) (fun k _=>x k)) i) 0
 rw[h1,a0d hi,yX]
 have:mv N (mm c w (tr b)) x=mv c w (mv N (tr b) x):=Ah fun s=>yX c N w (tr b) x s
 rw[this]
theorem a1j {N c:Nat} {n g b w:Mt} (H:Gau N c n g) (hw:oL c (bg N b g) w) {x r:Nat->Rat} (hx:∀ i,i<N->mv N n x i=r i) :
  (∀ i,i<N->mv N n (mv N (uT c g b w) x) i=r i)/\(∀ s,s<c->mv N (tr b) (mv N (uT c g b w) x) s=0):=by
 have e:∀ a i,mv N a (mv N (uT c g b w) x) i=mv N a x i-mv N a (mv c g (mv c w (mv N (tr b) x))) i:=fun a i=>by
  rw[<-KI];exact uH fun k hk=>a6d g b w x hk
 refine⟨fun i hi=>?_,fun s hs=>?_⟩
 ·rw[e,hx i hi,H.nul _ i hi];grind
 ·rw[e,<-yX]
  have:=hw.mvr (mv N (tr b) x) hs
  unfold bg at this;rw[this];grind
theorem a1k {N c:Nat} {n g b w:Mt} (H:Gau N c n g) (hw:oL c (bg N b g) w) {y z r:Nat->Rat} (h1:∀ i,i<N->mv N n y i=r i) (h2:∀ s,s<c->mv N (tr b) y s=0)
  (h3:∀ i,i<N->mv N n z i=r i) (h4:∀ s,s<c->mv N (tr b) z s=0):∀ i,i<N->y i=z i:=by
 have ⟨t,ht⟩:=H.span (x:=fun i=>y i-z i) (fun i hi=>by rw[KI,h1 i hi,h3 i hi];grind)
 have h5:∀ s,s<c->mv c (bg N b g) t s=0:=fun s hs=>by
  have h6:mv N (tr b) (fun i=>y i-z i) s=0:=by rw[KI,h2 s hs,h4 s hs];grind
  rw[uH ht,<-yX] at h6;exact h6
 have h7:=hw.inj h5
 intro i hi
 have:=ht i hi
 rw[MS h7] at this;grind
def qvCz (a b:MQ):MQ:=tab a.length (wdM a+wdM b) (gV (wdM a) (ent a) (ent b))
theorem qAOz (a:MQ) (x:List Rat):(mvL a x).length=a.length:=by simp[mvL]
theorem a0c {a:MQ} {R C:Nat} (h:isM a R C) {x:List Rat} {i:Nat} (hi:i<R):lv (mvL a x) i=mv C (ent a) (lv x) i:=by
 unfold mvL;rw[h.len,h.wd];exact gG hi
theorem a8b {g b:MQ} {N c:Nat} (hg:isM g N c) (hb:isM b N c) {x:List Rat} {i:Nat} (hi:i<N):lv (mvL (sM g b) x) i=mv N (uT c (ent g) (ent b) (ent (oN (bgM g b)))) (lv x) i:=by
 rw[a0c (QB hg) hi];exact wI fun k hk=>b5E hg hb hi hk
theorem a8k {a:MQ} {R C:Nat} (h:isM a R C) {x:List Rat} {y:Nat->Rat} (hy:∀ i,i<R->mv C (ent a) y i=lv x i):pO a x=true:=by
 unfold pO eF;rw[h.len,h.wd,dh]
 intro i hi hp
 refine(iL R (gV C (ent a) (fun i _=>lv x i)) C).c1y (aj C) (x:=y) (fun i hi=>?_) i hp hi
 rw[TF,hy i hi];unfold gV;rw[dw (by omega)]
theorem XP {a:MQ} {R C:Nat} (h:isM a R C) {x:List Rat} (hs:pO a x=true) {i:Nat} (hi:i<R):mv C (ent a) (lv (uV a x)) i=lv x i:=by
 unfold pO eF at hs;rw[h.len,h.wd,dh] at hs
 have:=(iL R (gV C (ent a) (fun i _=>lv x i)) C).solve (aj C) (fun i h1 h2=>hs i h2 h1) i hi
 rw[TF] at this
 have e:gV C (ent a) (fun i _=>lv x i) i C=lv x i:=by unfold gV;rw[dw (by omega)]
 rw[e] at this
 rw[<-this]
 refine uH fun c hc=>?_
 unfold uV eF;rw[h.len,h.wd];exact gG hc
theorem b4U {x y:List Rat} {n:Nat} (h1:x.length=n) (h2:y.length=n) (h:∀ i,i<n->lv x i=lv y i):x=y:=by
 apply yw
 ·rw[h1,h2]
 ·intro i h3 h4
  have:=h i (by omega)
  simpa [lv,ay,h3,h4] using this
def stM (n b:MQ):MQ:=n++trM b
def stL (r:List Rat) (c:Nat):List Rat:=r++List.replicate c 0
theorem a2p {n b:MQ} {N c:Nat} (hn:isM n N N) (hb:isM b N c) (h:N+c<=64):isM (stM n b) (N+c) N:=by
 have ht:=hb.trp
 refine⟨by unfold stM;rw[gy,hn.len,ht.len],fun r hr=>?_,by have:=hn.2.2.1;omega,h,hn.2.2.1,hn.2.2.2.1⟩
 rcases qA.mp hr with hr|hr
 ·exact hn.2.1 r hr
 ·exact ht.2.1 r hr
theorem a6j {n b:MQ} {N:Nat} (hn:isM n N N) {i:Nat} (hi:i<N) (j:Nat):ent (stM n b) i j=ent n i j:=by
 show ((n++trM b).getD i []).getD j 0=(n.getD i []).getD j 0
 simp only[ay]
 rw[vw (by rw[hn.len];exact hi)]
theorem a6i {n b:MQ} {N:Nat} (hn:isM n N N) (i j:Nat):ent (stM n b) (N+i) j=ent (trM b) i j:=by
 show ((n++trM b).getD (N+i) []).getD j 0=((trM b).getD i []).getD j 0
 simp only[ay]
 rw[List.getElem?_append_right (by rw[hn.len];omega),hn.len,Af]
theorem b3k {r:List Rat} {N c:Nat} (hr:r.length=N) {i:Nat} (hi:i<N):lv (stL r c) i=lv r i:=by
 show (r++List.replicate c 0).getD i 0=r.getD i 0
 simp only[ay]
 rw[vw (by omega)]
theorem b3j {r:List Rat} {N c:Nat} (hr:r.length=N) {i:Nat} (hi:i<c):lv (stL r c) (N+i)=0:=by
 show (r++List.replicate c 0).getD (N+i) 0=0
 simp only[ay]
 rw[List.getElem?_append_right (by omega),hr,Af]
 simp[hi]
theorem a6k {n b:MQ} {N c:Nat} (hn:isM n N N) (hb:isM b N c) {r:List Rat} (hr:r.length=N) (y:Nat->Rat) :
  (∀ i,i<N+c->mv N (ent (stM n b)) y i=lv (stL r c) i)↔(∀ i,i<N->mv N (ent n) y i=lv r i)/\∀ s,s<c->mv N (tr (ent b)) y s=0:=by
 constructor
 ·intro h
  refine⟨fun i hi=>?_,fun s hs=>?_⟩
  ·rw[<-b3k hr hi (c:=c),<-h i (by omega)];exact wI fun k _=>(a6j hn hi k).symm
  ·rw[<-b3j hr hs,<-h (N+s) (by omega)];exact fG N fun k hk=>by rw[a6i hn s k,hb.KR hs hk];rfl
 ·rintro⟨h1,h2⟩ i hi
  by_cases e:i<N
  ·rw[b3k hr e,<-h1 i e];exact wI fun k _=>a6j hn e k
  ·obtain⟨s,rfl⟩:∃ s,i=N+s:=⟨i-N,by omega⟩
   rw[b3j hr (by omega),<-h2 s (by omega)];exact fG N fun k hk=>by rw[a6i hn s k,hb.KR (show s<c by omega) hk];rfl
theorem a8K {n g b:MQ} {N c:Nat} (hn:isM n N N) (hg:isM g N c) (hb:isM b N c) (hN:N+c<=64) (hG:lY n g=true) (hR:kR (bgM g b)=true) {r:List Rat} (hr:r.length=N) :
  pO (stM n b) (stL r c)=pO n r/\(pO n r=true->uV (stM n b) (stL r c)=mvL (sM g b) (uV n r)):=by
 have H:=(VH hn hg).mp hG
 have hw:=a4U hg hb hR
 have hst:=a2p hn hb hN
 have key:pO n r=true->(∀ i,i<N->mv N (ent n) (lv (mvL (sM g b) (uV n r))) i=lv r i)/\∀ s,s<c->mv N (tr (ent b)) (lv (mvL (sM g b) (uV n r))) s=0:=fun h=>by
  have ⟨h1,h2⟩:=a1j H hw (x:=lv (uV n r)) (r:=lv r) (fun i hi=>XP hn h hi)
  exact⟨fun i hi=>by rw[<-h1 i hi];exact uH fun k hk=>a8b hg hb hk,fun s hs=>by rw[<-h2 s hs];exact uH fun k hk=>a8b hg hb hk⟩
 have e:pO n r=true->pO (stM n b) (stL r c)=true:=fun h=>a8k hst (y:=lv (mvL (sM g b) (uV n r))) ((a6k hn hb hr _).mpr (key h))
 refine⟨?_,fun h=>?_⟩
 ·by_cases h:pO n r=true
  ·rw[h,e h]
  ·by_cases h2:pO (stM n b) (stL r c)=true
   ·exact absurd (a8k hn (y:=lv (uV (stM n b) (stL r c))) ((a6k hn hb hr _).mp (fun i hi=>XP hst h2 hi)).1) h
   ·rw[Bool.eq_false_iff.mpr h,Bool.eq_false_iff.mpr h2]
 ·have h3:=(a6k hn hb hr _).mp (fun i hi=>XP hst (e h) hi)
  have h4:=key h
  refine b4U (XO hst _) (by rw[qAOz];exact(QB hg).len) fun i hi=>?_
  exact a1k H hw h3.1 h3.2 h4.1 h4.2 i hi
set_option maxRecDepth 100000
set_option maxHeartbeats 1000000
def qjWz (x:LQ'):MQ:=tab x.length 1 fun i _=>lv x i
def b0k:Ctr:=⟨[.list tQ],[tM],fun x=>(show LQ' from x.1).length<=1000,fun x=>(qjWz x.1,())⟩
theorem WZ:aY Tryz.prog 74 b0k:=by
 refine bH nil0 ⟨[],[],[]⟩ Tryz.func74 rfl (by decide) (fun x=>[.inv {k:Nat // k<=(show LQ' from x.1).length} (fun k=>[(4,.val tI (k.1:Int)),(3,.own 5 0),(5,.any),(19,.any)]) (fun k=>[(5,.row 32 (.list tQ) ((qjWz (show LQ' from x.1)).take k.1) 0)]) (fun k=>(show LQ' from x.1).length-k.1) ⟨0,by omega⟩ (fun _=>[])]) (fun x hp=>?_)
 obtain⟨x,u⟩:=x
 change List Rat at x
 refine bP ((asT Int 0=0/\asT (List (List Rat)) (aC (List Rat))=aC (List Rat)/\True)/\∀ (i:{ k:Nat // k<=List.length x }),asT Bool true=true/\ifB (decide (aA (aB i)<aA x.length)) ((0<=aA (aB i)/\aA (aB i)<aA x.length/\List.length (List.take (aB i) (qjWz x))+List.length ((List.getD x (aA (aB i)).toNat 0::aC Rat)::aC (List Rat))<=1000000000/\True)/\∃ (i':{ k:Nat // k<=List.length x }),List.length x-aB i'<List.length x-aB i/\IntKind.wrap IntKind.i64 (aA (aB i)+1)=aA (aB i')/\List.take (aB i) (qjWz x)++(List.getD x (aA (aB i)).toNat 0::aC Rat)::aC (List Rat)=List.take (aB i') (qjWz x)/\True) (True/\List.take (aB i) (qjWz x)=qjWz x/\True)) (by kernel_rfl) ?_
 have hZ:(⟨false,0,[],[]⟩:aF)=bV:=rfl
 dsimp only[aA,asT,aB,aC,Ty.den,Lf.den] at *
 simp only[hZ,Int.toNat_natCast,aJ,dh,bn,mg,mW,aH,nameAt,aX,aN,aZ,rowAt,iw,gJ]
 have hp:x.length<=1000:=hp
 have hl:(qjWz x).length=x.length:=aZ
 refine fun i=>⟨fun h1=>?_,fun h1=>jG (by rw[hl];omega)⟩
 have hi:i.1<x.length:=by omega
 refine⟨⟨by omega,h1,by rw[jg];simp;omega⟩,⟨i.1+1,by omega⟩,by simp only;omega,by rw[bF (by omega) (by omega)];rfl,?_⟩
 rw[Ak]
 have:(qjWz x)[i.1]?=some [x.getD i.1 0]:=by
  unfold qjWz tab;simp[hi]
 rw[this];rfl
theorem b3U (a b:MQ) (i m n:Nat):List.map (gV m (ent a) (ent b) i) (List.range (m+n))=(List.range m).map (fun j=>(a.getD i []).getD j 0)++(List.range n).map (fun j=>(b.getD i []).getD j 0):=by
 apply yw
 ·simp
 ·intro j h1 h2
  have h1:j<m+n:=by simpa using h1
  simp only[List.getElem_map,List.getElem_range]
  unfold gV
  by_cases e:j<m
  ·rw[eY e,List.getElem_append_left (by simpa using e)];simp
  ·rw[dw e,List.getElem_append_right (by simpa using e)];simp
abbrev LJ':Type:=List Int
def c2i:Ctr:=⟨[.list tI,tI],[tB],fun x=>(show LJ' from x.1).length<=1000000,fun x=>((show LJ' from x.1).any (fun q:Int=>q==(show Int from x.2.1)),())⟩
theorem b2M:aY Tryz.prog 54 c2i:=by
 refine bH nil0 ⟨[],[],[]⟩ Tryz.func54 rfl (by decide) (fun x=>[.inv {k:Nat // k<=(show LJ' from x.1).length/\((show LJ' from x.1).take k).any (fun q:Int=>q==(show Int from x.2.1))=false} (fun k=>[(5,.val tI (k.1:Int))]) (fun k=>[]) (fun k=>(show LJ' from x.1).length-k.1) ⟨0,by omega,rfl⟩ (fun _=>[])]) (fun x hp=>?_)
 obtain⟨x,v,u⟩:=x
 change List Int at x
 change Int at v
 refine bP ((asT Int 0=0/\True)/\∀ (i:{ k:Nat // k<=List.length x/\(List.any (List.take k x) fun(q:Int)=>q==v)=false }),asT Bool true=true/\ifB (decide (aA (aB i)<aA x.length)) ((0<=aA (aB i)/\aA (aB i)<aA x.length/\True)/\ifB (List.getD x (aA (aB i)).toNat 0==v) (True/\(true=List.any x fun(q:Int)=>q==v)/\True) (∃ (i':{ k:Nat // k<=List.length x/\(List.any (List.take k x) fun(q:Int)=>q==v)=false }),List.length x-aB i'<List.length x-aB i/\IntKind.wrap IntKind.i64 (aA (aB i)+1)=aA (aB i')/\True)) (True/\(false=List.any x fun(q:Int)=>q==v)/\True)) (by kernel_rfl) ?_
 have hZ:(⟨false,0,[],[]⟩:aF)=bV:=rfl
 dsimp only[aA,asT,aB,aC,Ty.den,Lf.den] at *
 simp only[hZ,Int.toNat_natCast,aJ,dh,bn,mg,mW,aH,nameAt,aX,aN,aZ,rowAt,iw,gJ]
 have hp:x.length<=1000000:=hp
 refine fun i=>⟨fun h1=>⟨⟨by omega,h1⟩,fun h2=>?_,fun h2=>⟨⟨i.1+1,by omega,?_⟩,by simp only;omega,by rw[bF (by omega) (by omega)];rfl⟩⟩,fun h1=>?_⟩
 ·exact(tY.mpr ⟨x.getD i.1 0,jY (by omega),h2⟩).symm
 ·rw[mM (d:=0) (by omega),i.2.2,h2];rfl
 ·have h3:=i.2.2
  rw[jG (by omega)] at h3
  exact h3.symm
def c1Q:Ctr:=⟨[tM,tM],[tM],fun x=>okM x.1/\okM x.2.1/\(show MQ from x.1).length=(show MQ from x.2.1).length,fun x=>(qvCz x.1 x.2.1,())⟩
theorem b2F:aY Tryz.prog 108 c1Q:=by
 refine bH nil0 ⟨[],[],[(7,tQ),(26,tQ)]⟩ Tryz.func108 rfl (by decide) (fun x=>[.inv {k:Nat // k<=(show MQ from x.1).length} (fun k=>[(6,.val tI (k.1:Int)),(5,.own 7 0)]++[(7,.any),(14,.any),(15,.any),(16,.any),(17,.any),(18,.any),(19,.any),(20,.any),(21,.any),(22,.any),(23,.any),(24,.any),(25,.any),(26,.any),(27,.any)]) (fun k=>[(7,.mat 32 64 tQ none ((qvCz (show MQ from x.1) (show MQ from x.2.1)).take k.1) 0)]) (fun k=>(show MQ from x.1).length-k.1) ⟨0,by omega⟩ (fun _=>[])]) (fun x hp=>?_)
 obtain⟨a,b,u⟩:=x
 change List (List Rat) at a
 change List (List Rat) at b
 refine bP ((asT Int 0=0/\asT (List (List Rat)) (aC (List Rat))=aC (List Rat)/\True)/\∀ (i:{ k:Nat // k<=List.length a }),asT Bool true=true/\ifB (decide (aA (aB i)<aA a.length)) ((0<=aA (aB i)/\aA (aB i)<aA a.length/\List.length (aC Rat)+List.length (List.getD a (aA (aB i)).toNat (aC Rat))<=1000000000/\0<=aA (aB i)/\aA (aB i)<aA b.length/\List.length (aC Rat++List.getD a (aA (aB i)).toNat (aC Rat))+List.length (List.getD b (aA (aB i)).toNat (aC Rat))<=1000000000/\aH none (List.take (aB i) (qvCz a b))+1<=1000000000/\True)/\∃ (i':{ k:Nat // k<=List.length a }),List.length a-aB i'<List.length a-aB i/\IntKind.wrap IntKind.i64 (aA (aB i)+1)=aA (aB i')/\List.take (aB i) (qvCz a b)++(aC Rat++List.getD a (aA (aB i)).toNat (aC Rat)++List.getD b (aA (aB i)).toNat (aC Rat))::aC (List Rat)=List.take (aB i') (qvCz a b)/\True) (True/\List.take (aB i) (qvCz a b)=qvCz a b/\True)) (by kernel_rfl) ?_
 have hZ:(⟨false,0,[],[]⟩:aF)=bV:=rfl
 dsimp only[aA,asT,aB,aC,Ty.den,Lf.den] at *
 simp only[hZ,Int.toNat_natCast,aJ,dh,bn,mg,mW,aH,nameAt,aX,aN,aZ,rowAt,iw,gJ]
 have hp:okM a/\okM b/\a.length=b.length:=hp
 obtain⟨ha,hb,hl⟩:=hp
 have q1:=ha.r64
 have q2:=ha.c64
 have q3:=hb.c64
 have hB:(qvCz a b).length=a.length:=aZ
 refine fun i=>⟨fun h1=>?_,fun h1=>jG (by rw[hB];omega)⟩
 have hi:i.1<a.length:=by omega
 have hra:=ha.row hi
 have hrb:=hb.row (show i.1<b.length by omega)
 refine⟨⟨by omega,h1,by show 0+(a.getD i.1 []).length<=_;omega,by omega,by omega,by show (a.getD i.1 []).length+_<=_;omega,by rw[jg];omega⟩,⟨i.1+1,by omega⟩,by simp only;omega,by rw[bF (by omega) (by omega)];rfl,?_⟩
 rw[Ak]
 have e:(qvCz a b)[i.1]?=some (a.getD i.1 []++b.getD i.1 []):=by
  have h2:i.1<(qvCz a b).length:=by rw[hB];exact hi
  rw[dn h2]
  congr 1
  have h3:(qvCz a b)[i.1]=(qvCz a b).getD i.1 []:=by rw[ay,dn h2];rfl
  rw[h3];unfold qvCz;rw[jI hi]
  rw[<-FK hra,<-FK hrb]
  exact b3U _ _ _ _ _
 rw[e];simp
def qrDz (a:MQ) (b:LQ'):LQ' × Bool × Unit:=if pO a b=true then (uV a b,true,()) else ([],false,())
def rsx (a:MQ) (b:LQ') (t:Nat):LQ':=(List.range (wdM a)).map fun c=>if c ∈ (eF a b).2.take t then (eF a b).1 ((eF a b).2.idxOf c) (wdM a) else 0
theorem b5C {a:MQ} {b:LQ'} {t:Nat} (hd:(eF a b).2.Nodup) (ht:t<(eF a b).2.length):(rsx a b t).set (eF a b).2[t] ((eF a b).1 t (wdM a))=rsx a b (t+1):=by
 unfold rsx;rw[map_set]
 refine jf fun d _=>?_
 by_cases e:d=(eF a b).2[t]
 ·rw[eY e,eY ((rG ht).mpr (.inr e)),e,vM hd ht]
 ·rw[dw e]
  by_cases e2:d ∈ (eF a b).2.take t
  ·rw[eY e2,eY ((rG ht).mpr (.inl e2))]
  ·rw[dw e2,dw (fun h=>((rG ht).mp h).elim e2 e)]
def c2A:Ctr:=⟨[tM,.list tQ],[.list tQ,tB],fun x=>okM x.1/\wdM (show MQ from x.1)<=63/\(show LQ' from x.2.1).length=(show MQ from x.1).length/\(∀ q ∈ (show LQ' from x.2.1),rsz q<=10000000)/\AQ (show MQ from x.1).length (wdM (show MQ from x.1)+1) (gV (wdM (show MQ from x.1)) (ent x.1) (fun i _=>lv x.2.1 i)) (wdM (show MQ from x.1)+1),fun x=>qrDz x.1 x.2.1⟩
theorem b2V:aY Tryz.prog 65 c2A:=by
 refine bH (((((nil0.an a2h).ad WZ).ad a3Y).ad b2M).ad b2F) ⟨[],[],[]⟩ Tryz.func65 rfl (by decide) (fun x=>[.inv {t:Nat // t<=(eF (show MQ from x.1) x.2.1).2.length} (fun t=>[(10,.val tI (t.1:Int))]++[(27,.any),(28,.any),(29,.any)]) (fun t=>[(27,.mat 32 64 tQ none [rsx (show MQ from x.1) x.2.1 t.1] 0)]) (fun t=>(eF (show MQ from x.1) x.2.1).2.length-t.1) ⟨0,by omega⟩ (fun _=>[])]) (fun x hp=>?_)
 obtain⟨a,b,u⟩:=x
 change List (List Rat) at a
 change List Rat at b
 refine bP (let A₀:=(List.getD a 0 (aC Rat)).length;let A₁:=(dA (lC (qvCz a (qjWz b))));let A₂:=(List.range (aA A₀).toNat);let aV:=(zV (qvCz a (qjWz b)));(asT Int 0<=0/\0<aA a.length/\True)/\(List.length b<=1000/\(okM a/\okM (qjWz b)/\List.length a=List.length (qjWz b))/\okE (qvCz a (qjWz b))/\True)/\(List.length A₁<=1000000/\True)/\ifB (List.any A₁ fun(q:Int)=>q==aA A₀) (True/\aC Rat=Prod.fst (qrDz a b)/\True/\false=Prod.fst (qrDz a b).2/\True) (((asT Int 0<=1/\asT Int 1<=1000/\0<=aA A₀/\aA A₀<=1000)/\asT Int 0<=0/\0<aA (aH none (List.map (fun(j:Nat)=>0) A₂::aC (List Rat)))/\0<aH none (List.map (fun(j:Nat)=>0) A₂::aC (List Rat))/\True)/\(asT Int 0=0/\0=0/\List.length (List.map (fun(j:Nat)=>0) A₂::aC (List Rat))=List.length (rsx a b 0::aC (List Rat))/\List.map (fun(j:Nat)=>0) A₂::aC (List Rat)=rsx a b 0::aC (List Rat)/\True)/\∀ (i:{ t:Nat // t<=List.length (eF a b).2 }),let aP:=(aA (aB i)).toNat;let dB:=(rowAt (rsx a b (aB i)::aC (List Rat)) 0);let eH:=(List.getD A₁ aP 0).toNat;let dU:=(List.getD aV aP (aC Rat));let dO:=(List.getD dU (aA A₀).toNat 0);asT Bool true=true/\ifB (decide (aA (aB i)<aA A₁.length)) ((0<=aA (aB i)/\aA (aB i)<aA A₁.length/\0<=aA (aB i)/\aA (aB i)<aA aV.length/\0<=aA A₀/\aA A₀<aA dU.length/\0<=List.getD A₁ aP 0/\List.getD A₁ aP 0<aA dB.length/\Int.toNat (List.getD A₁ aP 0)<List.length dB/\True)/\∃ (i':{ t:Nat // t<=List.length (eF a b).2 }),List.length (eF a b).2-aB i'<List.length (eF a b).2-aB i/\IntKind.wrap IntKind.i64 (aA (aB i)+1)=aA (aB i')/\0=0/\List.length (List.set dB eH dO::aC (List Rat))=List.length (rsx a b (aB i')::aC (List Rat))/\List.set dB eH dO::aC (List Rat)=rsx a b (aB i')::aC (List Rat)/\True) (True/\rsx a b (aB i)=Prod.fst (qrDz a b)/\True/\true=Prod.fst (qrDz a b).2/\True))) (by kernel_rfl) ?_
 have hZ:(⟨false,0,[],[]⟩:aF)=bV:=rfl
 dsimp only[aA,asT,aB,aC,Ty.den,Lf.den] at *
 simp only[hZ,Int.toNat_natCast,aJ,dh,bn,mg,mW,aH,nameAt,aX,aN,aZ,rowAt,iw,gJ]
 have hp:okM a/\wdM a<=63/\b.length=a.length/\(∀ q ∈ b,rsz q<=10000000)/\AQ a.length (wdM a+1) (gV (wdM a) (ent a) (fun i _=>lv b i)) (wdM a+1):=hp
 obtain⟨ha,h63,hb,sb,hok⟩:=hp
 have q1:=ha.r64
 have q3:=ha.pos
 have q4:=ha.c1
 have hC:isM (qjWz b) a.length 1:=by unfold qjWz;rw[hb];exact pV (by omega) q1 (by omega) (by omega)
 have eC:∀ i,i<a.length->ent (qjWz b) i 0=lv b i:=fun i hi=>kN (by omega) (by omega)
 have hCk:okM (qjWz b):=⟨hC.self,fun i hi j hj=>by
  rw[hC.len] at hi
  rw[hC.wd] at hj
  rw[show j=0 by omega,eC i hi]
  exact jc (fA sb (by omega)) (by omega)⟩
 have hB:isM (qvCz a (qjWz b)) a.length (wdM a+1):=by
  unfold qvCz;rw[hC.wd];exact pV q3 q1 (by omega) (by omega)
 have eB:∀ i,i<a.length->∀ c,c<wdM a+1->ent (qvCz a (qjWz b)) i c=gV (wdM a) (ent a) (fun i _=>lv b i) i c:=fun i hi c hc=>by
  unfold qvCz;rw[hC.wd,kN hi hc];unfold gV;split
  ·rfl
  ·rw[show c-wdM a=0 by omega];exact eC i hi
 have hX:=zC eB (wdM a+1) (aj _)
 have hE:okE (qvCz a (qjWz b)):=by
  refine⟨⟨hB.self,fun i hi j hj=>?_⟩,fun t ht i hi c hc=>?_⟩
  ·rw[hB.len] at hi
   rw[hB.wd] at hj
   rw[eB i hi j hj];exact jc (hok.at hi hj) (by omega)
  ·rw[hB.len] at hi ⊢
   rw[hB.wd] at hc ht
   rw[(zC eB t ht).2 i hi c hc];exact hok t ht i hi c hc
 have e1:lC (qvCz a (qjWz b))=(red a.length (gV (wdM a) (ent a) (fun i _=>lv b i)) (wdM a+1)).2:=by unfold lC EY;rw[hB.len,hB.wd];exact hX.1
 have e2:∀ i,i<a.length->List.getD (zV (qvCz a (qjWz b))) i []=(List.range (wdM a+1)).map ((red a.length (gV (wdM a) (ent a) (fun i _=>lv b i)) (wdM a+1)).1 i):=fun i hi=>by
  unfold zV EY;rw[hB.len,hB.wd,jI hi]
  exact jf fun c hc=>hX.2 i hi c (qN.mp hc)
 have e3:(zV (qvCz a (qjWz b))).length=a.length:=by unfold zV;rw[aZ,hB.len]
 have E:=iL a.length (gV (wdM a) (ent a) (fun i _=>lv b i)) (wdM a)
 have hle:=E.le
 have hle2:=(iL a.length (gV (wdM a) (ent a) (fun i _=>lv b i)) (wdM a+1)).le
 have l0:(a.getD 0 []).length=wdM a:=rfl
 have lg:∀ l:List Rat,[l].getD 0 []=l:=fun _=>rfl
 have ln:∀ l:List Rat,[l].length=1:=fun _=>rfl
 have key:pO a b=true↔fk (eF a b).1 (wdM a) (eF a b).2.length (a.length-(eF a b).2.length)=a.length:=by
  unfold pO
  rw[dh]
  constructor
  ·intro h
   exact ZN _ _ _ _ _ hle (by have:(eF a b).2.length<=a.length:=hle;omega) (fun i h1 h2=>h i h2 h1) (fun h3=>by have:(eF a b).2.length<=a.length:=hle;omega)
  ·intro h i h1 h2
   exact LW _ _ (a.length-(eF a b).2.length) _ i h2 (by rw[h];exact h1)
 simp only[e1,e3,l0,qX,lg,ln,ny,gJ,VX]
 refine⟨⟨qh 0,by omega⟩,⟨by omega,⟨ha,hCk,hC.len.symm⟩,hE⟩,by omega,fun h=>?_,fun h=>⟨⟨⟨by omega,by omega,by omega,by omega⟩,qh 0,by omega,by omega⟩,⟨trivial,?_⟩,fun t=>⟨fun h4=>?_,fun h4=>?_⟩⟩⟩
 ·have h:=oz h
  have hs:pO a b=false:=by
   rw[Bool.eq_false_iff]
   intro hs
   rw[EZ (key.mp hs)] at h
   have:=E.lt _ h
   omega
  have e:qrDz a b=([],false,()):=by unfold qrDz;rw[hs];rfl
  rw[e];exact⟨rfl,rfl⟩
 ·congr 1
 ·have h:=zy h
  have hs:pO a b=true:=by
   refine key.mpr ?_
   by_cases f:fk (eF a b).1 (wdM a) (eF a b).2.length (a.length-(eF a b).2.length)=a.length
   ·exact f
   ·exfalso
    refine h ?_
    rw[NK rfl f];simp
  have hr:red a.length (gV (wdM a) (ent a) (fun i _=>lv b i)) (wdM a+1)=eF a b:=EZ (key.mp hs)
  rw[hr] at h4 ⊢
  have ht:t.1<(eF a b).2.length:=by omega
  have hle3:(eF a b).2.length<=a.length:=hle
  have hp:=E.lt _ (jm ht)
  have l4:(rsx a b t.1).length=wdM a:=by simp[rsx]
  have e5:(dA (eF a b).2).getD t.1 0=(((eF a b).2[t.1]:Nat):Int):=by unfold dA;simp[ay,ht]
  rw[e2 t.1 (by omega),hr,e5,l4,Int.toNat_natCast,ny,gJ,gG (by omega)]
  refine⟨⟨by omega,h4,by omega,by omega,by omega,by omega,by omega,by omega,hp⟩,⟨t.1+1,by omega⟩,by simp only;omega,by rw[bF (by omega) (by omega)];rfl,trivial,?_⟩
  congr 1
  exact b5C E.nd ht
 ·have h:=zy h
  have hs:pO a b=true:=by
   refine key.mpr ?_
   by_cases f:fk (eF a b).1 (wdM a) (eF a b).2.length (a.length-(eF a b).2.length)=a.length
   ·exact f
   ·exfalso
    refine h ?_
    rw[NK rfl f];simp
  have hr:red a.length (gV (wdM a) (ent a) (fun i _=>lv b i)) (wdM a+1)=eF a b:=EZ (key.mp hs)
  rw[hr] at h4
  have e:qrDz a b=(uV a b,true,()):=by unfold qrDz;rw[hs];rfl
  have ht:t.1=(eF a b).2.length:=by have:=t.2;omega
  rw[e,ht]
  refine⟨?_,rfl⟩
  show rsx a b _=uV a b
  unfold rsx uV xs
  rw[List.take_length]
def b0q:Ctr:=⟨[tM],[tB],fun x=>okM x.1/\wdM (show MQ from x.1)=(show MQ from x.1).length,fun x=>(mD x.1,())⟩
def b6T:Ctr:=⟨[.list tQ],[tB],fun x=>(show LQ' from x.1).length<=1000/\∀ q ∈ (show LQ' from x.1),rsz q<=100000000,fun x=>((show LQ' from x.1).any (fun q=>decide (q≠0)),())⟩
theorem NQ:aY Tryz.prog 13 b0q:=by
 refine bH ((nil0.ad FN).ad NR) ⟨[],[],[]⟩ Tryz.func13 rfl (by decide) (fun x=>[]) (fun x hp=>?_)
 obtain⟨a,u⟩:=x
 change List (List Rat) at a
 refine bP ((okM a/\(oP a/\oP (trM a))/\True)/\True/\decide (a=trM a)=mD a/\True) (by kernel_rfl) ?_
 have hZ:(⟨false,0,[],[]⟩:aF)=bV:=rfl
 dsimp only[aA,asT,aB,aC,Ty.den,Lf.den] at *
 simp only[hZ,Int.toNat_natCast,aJ,dh,bn,mg,mW,aH,nameAt,aX,aN,aZ,rowAt,iw,gJ]
 have hp:okM a/\wdM a=a.length:=hp
 obtain⟨ha,hw⟩:=hp
 have q1:=ha.r64
 have q2:=ha.c64
 have hM:isM a a.length a.length:=by have:=ha.1;rwa [hw] at this
 have hT:=hM.trp
 refine⟨⟨ha,ha.oP,?_⟩,?_⟩
 ·refine okM.oP ⟨hT.self,fun i hi j hj=>?_⟩
  rw[hT.len] at hi
  rw[hT.wd] at hj
  rw[hM.KR hi hj];exact ha.2 j hj i (by omega)
 ·unfold mD
  refine yj.mpr ⟨fun h i hi j hj=>?_,fun h=>?_⟩
  ·rw[<-hM.KR hi hj,<-h]
  ·exact hM.tab.symm.trans ((fE fun i hi j hj=>by rw[hM.KR hi hj];exact h i hi j hj).trans hT.tab)
theorem a2b:aY Tryz.prog 30 b6T:=by
 refine bH (nil0.ad a6y) ⟨[],[],[]⟩ Tryz.func30 rfl (by decide) (fun x=>[.inv {k:Nat // k<=(show LQ' from x.1).length/\((show LQ' from x.1).take k).any (fun q=>decide (q≠0))=false} (fun k=>[(3,.val tI (k.1:Int))]) (fun k=>[]) (fun k=>(show LQ' from x.1).length-k.1) ⟨0,by omega,rfl⟩ (fun _=>[])]) (fun x hp=>?_)
 obtain⟨x,u⟩:=x
 change List Rat at x
 refine bP ((asT Int 0=0/\True)/\∀ (i:{ k:Nat // k<=List.length x/\(List.any (List.take k x) fun(q:Rat)=>decide (q≠0))=false }),asT Bool true=true/\ifB (decide (aA (aB i)<aA x.length)) ((0<=aA (aB i)/\aA (aB i)<aA x.length/\rsz (List.getD x (aA (aB i)).toNat 0)<=190000000/\True)/\ifB (sgn (Rat.num (List.getD x (aA (aB i)).toNat 0)) != 0) (True/\(true=List.any x fun(q:Rat)=>decide (q≠0))/\True) (∃ (i':{ k:Nat // k<=List.length x/\(List.any (List.take k x) fun(q:Rat)=>decide (q≠0))=false }),List.length x-aB i'<List.length x-aB i/\IntKind.wrap IntKind.i64 (aA (aB i)+1)=aA (aB i')/\True)) (True/\(false=List.any x fun(q:Rat)=>decide (q≠0))/\True)) (by kernel_rfl) ?_
 have hZ:(⟨false,0,[],[]⟩:aF)=bV:=rfl
 dsimp only[aA,asT,aB,aC,Ty.den,Lf.den] at *
 simp only[hZ,Int.toNat_natCast,aJ,dh,bn,mg,mW,aH,nameAt,aX,aN,aZ,rowAt,iw,gJ]
 have hp:x.length<=1000/\∀ q ∈ x,rsz q<=100000000:=hp
 obtain⟨hl,sx⟩:=hp
 refine fun i=>⟨fun h1=>?_,fun h1=>?_⟩
 ·have hi:i.1<x.length:=by omega
  have z:rsz (x.getD i.1 0)<=100000000:=fA sx hi
  refine⟨⟨by omega,h1,by omega⟩,fun h2=>?_,fun h2=>⟨⟨i.1+1,by omega,?_⟩,by simp only;omega,by rw[bF (by omega) (by omega)];rfl⟩⟩
  ·refine(tY.mpr ⟨x.getD i.1 0,jY hi,?_⟩).symm
   show decide (x.getD i.1 0≠0)=true
   by_cases e:x.getD i.1 0=0
   ·rw[e] at h2;cases h2
   ·rw[dh];exact e
  ·have e:x.getD i.1 0=0:=mQ.mp (by simpa using h2)
   rw[mM (d:=0) hi,i.2.2]
   show (false || decide (x.getD i.1 0≠0))=false
   rw[e];rfl
 ·have h3:=i.2.2
  rw[jG (by omega)] at h3
  exact h3.symm
def b0o:Ctr:=⟨[.list tR],[tB],fun x=>True,fun x=>(brL x.1 10,())⟩
theorem WJ:aY Tryz.prog 19 b0o:=by
 refine bH (nil0.ad a2k) ⟨[],[],[]⟩ Tryz.func19 rfl (by decide) (fun x=>[]) (fun x hp=>?_)
 obtain⟨x,u⟩:=x
 change List aF at x
 refine bP ((((∃ (m:Nat),10=aA m/\m<=1000)/\asT Int 6=6)/\True)/\True/\brL x 10=brL x 10/\True) (by kernel_rfl) ?_
 try simp only[aJ,dh,bn]
 try dsimp only[Ty.den,Lf.den,asT] at *
 try simp only[uF,uD,trF,uG]
 have hZ:(⟨false,0,[],[]⟩:aF)=bV:=rfl
 try dsimp only[aA,asT,aB,aC,Ty.den,Lf.den] at *
 try simp only[hZ,Int.toNat_natCast,aJ,dh,bn,mg,mW,aH,nameAt,aX,aN,aZ,rowAt,iw,gJ]
 try simp only[jK,List.all_cons,List.all_nil,yx,nI,qw,jd,uy,ne_eq,ak,qg,nS,tC,xk,imp_self,AO,and_self,mg,mW,iD,qZ,qO,List.length_cons,List.length_nil]
 try simp only[wdF,iT,jA]
 exact⟨10,rfl,by omega⟩
def b6X:Ctr:=⟨[tM],[tB],fun x=>okM x.1,fun x=>(wS x.1,())⟩
theorem TP:aY Tryz.prog 27 b6X:=by
 refine bH (nil0.ad a2b) ⟨[],[],[]⟩ Tryz.func27 rfl (by decide) (fun x=>[.inv {k:Nat // k<=(show MQ from x.1).length/\∀ i,i<k->∀ j,j<wdM (show MQ from x.1)->ent (show MQ from x.1) i j=0} (fun k=>[(7,.val tI (k.1:Int))]) (fun k=>[]) (fun k=>(show MQ from x.1).length-k.1) ⟨0,by omega,fun i h=>absurd h (by omega)⟩ (fun _=>[])]) (fun x hp=>?_)
 obtain⟨a,u⟩:=x
 change List (List Rat) at a
 refine bP ((asT Int 0=0/\True)/\∀ (i:{ k:Nat // k<=List.length a/\∀ (i:Nat),i<k->∀ (j:Nat),j<wdM a->ent a i j=0 }),asT Bool true=true/\ifB (decide (aA (aB i)<aA a.length)) ((0<=aA (aB i)/\aA (aB i)<aA a.length/\True)/\((List.length (List.getD a (aA (aB i)).toNat (aC Rat))<=1000/\∀ (q:Rat),q ∈ List.getD a (aA (aB i)).toNat (aC Rat)->rsz q<=100000000)/\True)/\ifB (List.any (List.getD a (aA (aB i)).toNat (aC Rat)) fun(q:Rat)=>decide (q≠0)) (True/\false=wS a/\True) (∃ (i':{ k:Nat // k<=List.length a/\∀ (i:Nat),i<k->∀ (j:Nat),j<wdM a->ent a i j=0 }),List.length a-aB i'<List.length a-aB i/\IntKind.wrap IntKind.i64 (aA (aB i)+1)=aA (aB i')/\True)) (True/\true=wS a/\True)) (by kernel_rfl) ?_
 try simp only[aJ,dh,bn]
 try dsimp only[Ty.den,Lf.den,asT] at *
 try simp only[uF,uD,trF,uG]
 have hZ:(⟨false,0,[],[]⟩:aF)=bV:=rfl
 try dsimp only[aA,asT,aB,aC,Ty.den,Lf.den] at *
 try simp only[hZ,Int.toNat_natCast,aJ,dh,bn,mg,mW,aH,nameAt,aX,aN,aZ,rowAt,iw,gJ]
 try simp only[jK,List.all_cons,List.all_nil,yx,nI,qw,jd,uy,ne_eq,ak,qg,nS,tC,xk,imp_self,AO,and_self,mg,mW,iD,qZ,qO,List.length_cons,List.length_nil]
 try simp only[wdF,iT,jA]
 have ha:okM a:=hp
 have q1:=ha.r64
 have q2:=ha.c64
 refine fun i=>⟨fun h1=>?_,fun h1=>(jw fun k hk j hj=>i.2.2 k (by omega) j hj).symm⟩
 have hi:i.1<a.length:=by omega
 have hr:=ha.row hi
 have hmem:a.getD i.1 [] ∈ a:=by rw[ay,dn hi];exact jm hi
 refine⟨⟨by omega,h1⟩,⟨by rw[hr];omega,fun q hq=>ha.ent hmem hq⟩,fun h2=>?_,fun h2=>⟨⟨i.1+1,by omega,fun k hk j hj=>?_⟩,by simp only;omega,?_⟩⟩
 ·obtain⟨q,hq,hq2⟩:=tY.mp h2
  obtain⟨j,hj,e⟩:=Bc hq
  refine(jq fun h=>oz hq2 ?_).symm
  have e5:ent a i.1 j=q:=by
   show (a.getD i.1 []).getD j 0=_
   rw[ay (l:=a.getD i.1 []),dn hj];exact e
  exact e5.symm.trans (h i.1 hi j (by omega))
 ·by_cases h3:k<i.1
  ·exact i.2.2 k h3 j hj
  ·rw[show k=i.1 by omega]
   have hj2:j<(a.getD i.1 []).length:=by omega
   have:=vC.mp h2 (a.getD i.1 [])[j] (jm hj2)
   have e:ent a i.1 j=(a.getD i.1 [])[j]:=by
    show (a.getD i.1 []).getD j 0=_
    rw[ay (l:=a.getD i.1 []),dn hj2];rfl
   rw[e];simpa using this
 ·rw[bF (by omega) (by omega)];rfl
theorem a1L {a b:MQ} {R C:Nat} (sa:szM a 1000000) (sb:szM b 1000000) (hM:isM (mulM a b) R C) (hw:wdM a=b.length) (h64:b.length<=7) {i j:Nat} (hi:i<R) (hj:j<C):rsz (ent (mulM a b) i j)<=14000008:=by
 have l1:(mulM a b).length=a.length:=aZ
 have hi2:i<a.length:=by have:=hM.len;omega
 have l2:wdM (mulM a b)=wdM b:=QE (by omega)
 have hj2:j<wdM b:=by have:=hM.wd;omega
 unfold mulM
 rw[kN hi2 hj2]
 have:=BK (K:=2000000) (f:=fun k=>ent a i k*ent b k j) b.length (fun k hk=>by
  have y1:=sa i hi2 k (by omega)
  have y2:=sb k hk j hj2
  have y3:=oI (ent a i k) (ent b k j)
  show rsz (ent a i k*ent b k j)<=_
  omega)
 have y4:b.length*(2000000+1)<=7*2000001:=oh h64 (aj _)
 show rsz (sm b.length fun k=>ent a i k*ent b k j)<=_
 omega
def b6R:Ctr:=⟨[tM,tM],[tB],fun x=>RZ x.1 x.2.1/\(show MQ from x.2.1).length<=7,fun x=>(lY x.1 x.2.1,())⟩
theorem a1q:aY Tryz.prog 63 b6R:=by
 refine bH ((((nil0.ad zD).ad QA).ad NQ).ad TP) ⟨[],[],[]⟩ Tryz.func63 rfl (by decide) (fun x=>[]) (fun x hp=>?_)
 obtain⟨a,b,u⟩:=x
 change List (List Rat) at a
 change List (List Rat) at b
 refine bP (let A₀:=(List.getD b 0 (aC Rat)).length;((okM a/\wdM a=List.length a)/\(((!mD a)==false)=true->((!mD a)==false)=true/\((!mD a)==false)=true/\(okM a/\okM b/\wdM a=List.length b/\szM a 1000000/\szM b 1000000)/\True)/\(((!mD a)==false)=true->((!mD a)==false)=true/\okM (mulM a b)/\True)/\(((!mD a)==false)=true->((!mD a)==false)=true/\True)/\((!mD a)=false->((!mD a)==false)=true)/\True)/\ifB (bif !mD a then true else !wS (mulM a b)) (True/\false=lY a b/\True) ((okE b/\True)/\(asT Int 0<=0/\0<aA b.length/\(((aA (rkM b)==aA A₀)==true)=true->((aA (rkM b)==aA A₀)==true)=true/\True)/\(((aA (rkM b)==aA A₀)==true)=true->((aA (rkM b)==aA A₀)==true)=true/\okE a/\True)/\(((aA (rkM b)==aA A₀)==true)=true->((aA (rkM b)==aA A₀)==true)=true/\((aA (rkM b)==aA A₀)==true)=true/\True)/\(((aA (rkM b)==aA A₀)==true)=true->((aA (rkM b)==aA A₀)==true)=true/\((aA (rkM b)==aA A₀)==true)=true/\True)/\((aA (rkM b)==aA A₀)=true->((aA (rkM b)==aA A₀)==true)=true)/\True)/\True/\(bif aA (rkM b)==aA A₀ then aA (rkM b)==IntKind.wrap IntKind.i64 (aA a.length-aA (rkM a)) else false)=lY a b/\True)) (by kernel_rfl) ?_
 try simp only[aJ,dh,bn]
 try dsimp only[Ty.den,Lf.den,asT] at *
 try simp only[uF,uD,trF,uG]
 have hZ:(⟨false,0,[],[]⟩:aF)=bV:=rfl
 try dsimp only[aA,asT,aB,aC,Ty.den,Lf.den] at *
 try simp only[hZ,Int.toNat_natCast,aJ,dh,bn,mg,mW,aH,nameAt,aX,aN,aZ,rowAt,iw,gJ]
 try simp only[jK,List.all_cons,List.all_nil,yx,nI,qw,jd,uy,ne_eq,ak,qg,nS,tC,xk,imp_self,AO,and_self,mg,mW,iD,qZ,qO,List.length_cons,List.length_nil]
 try simp only[wdF,iT,jA]
 have hp:RZ a b/\b.length<=7:=hp
 obtain⟨hp,b7⟩:=hp
 obtain⟨ea,eb,hw,hl,sa,sb⟩:=hp
 have ha:=ea.1
 have hb:=eb.1
 have q1:=ha.r64
 have q2:=hb.r64
 have q3:=hb.c64
 have q4:=hb.pos
 have ra:rkM a<=a.length:=PZ a
 have rb:rkM b<=b.length:=PZ b
 have hM:isM (mulM a b) a.length (wdM b):=ha.1.mul (by have:=hb.1;rwa [hl,<-hw] at this)
 have okP:okM (mulM a b):=⟨hM.self,fun i hi j hj=>by
  rw[hM.len] at hi;rw[hM.wd] at hj
  exact jc (a1L sa sb hM (by omega) b7 hi hj) (by omega)⟩
 refine⟨⟨⟨ha,hw⟩,fun h=>⟨h,h,ha,hb,by omega,sa,sb⟩,fun h=>⟨h,okP⟩⟩,fun h=>?_,fun h=>⟨eb,⟨by omega,by omega,fun h=>⟨h,ea⟩⟩,?_⟩⟩
 ·unfold lY
  rcases h with h|h
  ·rw[h];rfl
  ·rw[h,Bool.and_false];rfl
 ·unfold lY
  rw[h.1,h.2,bF (by omega) (by omega)]
  by_cases h3:rkM b=wdM b
  ·rw[show (((rkM b:Nat):Int)==((wdM b:Nat):Int))=true by rw[h3];exact beq_self_eq_true _,jw h3]
   show (((rkM b:Nat):Int)==(a.length:Int)-(rkM a:Int))=decide (rkM b+rkM a=a.length)
   by_cases h4:rkM b+rkM a=a.length
   ·rw[jw h4];exact jd.mpr (by omega)
   ·rw[jq h4];exact nS.mpr (by omega)
  ·rw[show (((rkM b:Nat):Int)==((wdM b:Nat):Int))=false from nS.mpr (by omega),jq h3];rfl
def gdL (l:LR):Prop:=∀ q ∈ l,a3h q
theorem a1M {a:MQ} {R C K L:Nat} (h:isM a R C) (ha:szM a K) {x:LQ'} (hx:∀ q ∈ x,rsz q<=L) (hl:x.length=C):∀ q ∈ mvL a x,rsz q<=C*(K+L+1)+1:=fun q hq=>by
 obtain⟨i,hi,rfl⟩:=Bc hq
 have hi2:i<R:=by rw[qAOz,h.len] at hi;exact hi
 have e:(mvL a x)[i]=mv C (ent a) (lv x) i:=by
  rw[<-a0c h hi2];unfold lv;rw[ay,dn hi];rfl
 rw[e]
 exact BK (K:=K+L) (f:=fun k=>ent a i k*lv x k) C (fun k hk=>by
  have y1:rsz (ent a i k)<=K:=ha i (by rw[h.len];exact hi2) k (by rw[h.wd];exact hk)
  have y2:rsz (lv x k)<=L:=hx _ (by unfold lv;rw[ay,dn (by omega)];exact jm _)
  have y3:=oI (ent a i k) (lv x k)
  show rsz (ent a i k*lv x k)<=_
  omega)
theorem c1r {n b:MQ} {N c K L:Nat} (hn:isM n N N) (hb:isM b N c) (h:N+c<=64) (H:CdM n K) (G:CdM b L):CdM (stM n b) (K+L):=by
 have hs:=a2p hn hb h
 unfold CdM at H G ⊢
 rw[hn.len,hn.wd] at H
 rw[hb.len,hb.wd] at G
 rw[hs.len,hs.wd]
 refine((Cd.bes H.tr G).tr).congr fun i hi j hj=>?_
 show _=if i<N then ent n i j else ent b j (i-N)
 by_cases hiN:i<N
 ·rw[eY hiN];exact a6j hn hiN j
 ·rw[dw hiN]
  obtain⟨k,rfl⟩:∃ k,i=N+k:=⟨i-N,by omega⟩
  rw[a6i hn,Af,hb.KR (by omega) hj]
def qjGz (n g b:MR) (l:Option LR):Int :=
 if (bW n=0/\bW g=0/\bW b=0)/\okR (l.getD [])=true then
  if ((n.length=wdM n/\g.length=n.length)/\b.length=n.length/\wdM b=wdM g)/\(l.isSome=true->(l.getD []).length=n.length) then
   if lY (mq n) (mq g)=true then
    if kR (bgM (mq g) (mq b))=true then 0 else 14
   else 12
  else 4
 else 1
theorem b0d {n g b:MR} {l:Option LR} (h:qjGz n g b l=0):a8v n g b/\okR (l.getD [])=true/\(l.isSome=true->(l.getD []).length=n.length):=by
 unfold qjGz at h
 by_cases h0:(bW n=0/\bW g=0/\bW b=0)/\okR (l.getD [])=true
 ·rw[eY h0] at h
  by_cases h1:((n.length=wdM n/\g.length=n.length)/\b.length=n.length/\wdM b=wdM g)/\(l.isSome=true->(l.getD []).length=n.length)
  ·rw[eY h1] at h
   by_cases h2:lY (mq n) (mq g)=true
   ·rw[eY h2] at h
    by_cases h3:kR (bgM (mq g) (mq b))=true
    ·exact⟨⟨h0.1.1,h0.1.2.1,h0.1.2.2,h1.1.1.1,h1.1.1.2,h1.1.2.1,h1.1.2.2,h2,h3⟩,h0.2,h1.2⟩
    ·rw[dw h3] at h;exact absurd h (by decide)
   ·rw[dw h2] at h;exact absurd h (by decide)
  ·rw[dw h1] at h;exact absurd h (by decide)
 ·rw[dw h0] at h;exact absurd h (by decide)
theorem b4q {n g b:MR} {r:LR} (h:¬ qjGz n g b (some r)=0):oW n g b r=([],qjGz n g b (some r),()):=by
 unfold qjGz at h ⊢
 unfold oW
 have e0:((some r).getD []:LR)=r:=rfl
 rw[e0] at h ⊢
 by_cases h0:(bW n=0/\bW g=0/\bW b=0)/\okR r=true
 ·rw[eY h0] at h ⊢
  rw[eY h0]
  by_cases h1:((n.length=wdM n/\g.length=n.length)/\b.length=n.length/\wdM b=wdM g)/\r.length=n.length
  ·have h1':((n.length=wdM n/\g.length=n.length)/\b.length=n.length/\wdM b=wdM g)/\((some r).isSome=true->r.length=n.length):=⟨h1.1,fun _=>h1.2⟩
   rw[eY h1'] at h ⊢
   rw[eY h1]
   by_cases h2:lY (mq n) (mq g)=true
   ·rw[eY h2] at h ⊢
    rw[eY h2]
    by_cases h3:kR (bgM (mq g) (mq b))=true
    ·rw[eY h3] at h;exact absurd rfl h
    ·rw[dw h3,dw h3]
   ·rw[dw h2,dw h2]
  ·rw[dw h1,dw (fun hh=>h1 ⟨hh.1,hh.2 rfl⟩)]
 ·rw[dw h0,dw h0]
theorem b4r {n g b:MR} {r:LR} (F:a8v n g b) (h1:okR r=true) (h2:r.length=n.length):oW n g b r=if pO (mq n) (lq r)=true then (mvL (sM (mq g) (mq b)) (uV (mq n) (lq r)),0,()) else ([],6,()):=by
 unfold oW
 rw[eY ⟨⟨F.cn,F.cg,F.cb⟩,h1⟩,eY ⟨⟨⟨F.e1,F.e2⟩,F.e3,F.e4⟩,h2⟩,eY F.hG,eY F.hR]
end Go.Proofs.YtgplhbhfdgempaaGreat
