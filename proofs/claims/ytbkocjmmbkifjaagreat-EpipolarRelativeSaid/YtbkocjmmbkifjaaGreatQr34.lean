/-
  Lemmas for the theorem vrelative28_holds, part 34 of 35.
-/
import Derived.Test.YtbkocjmmbkifjaaGreatQr33
namespace Go.Proofs.YtbkocjmmbkifjaaGreat
open Go Go.RowKit
set_option maxRecDepth 100000
set_option maxHeartbeats 4000000
set_option linter.unusedVariables false
set_option linter.unusedSimpArgs false
def q20 (q:aT):Prop:=q.1.natAbs<=20/\q.2.1.natAbs<=20/\q.2.2.1.natAbs<=20/\q.2.2.2.1.natAbs<=20
theorem BQ {a b:Int} (h:a.natAbs<=20) (g:b.natAbs<=20):-400<=a*b/\a*b<=400:=by
 have:(a*b).natAbs<=400:=by rw[Ei];exact uy h g
 omega
theorem b8E {q:aT} (h:q20 q) {i j:Nat} (hi:i<3) (hj:j<3):(qM q.1 q.2.1 q.2.2.1 q.2.2.2.1 i j).natAbs<=1600/\(qN q.1 q.2.1 q.2.2.1 q.2.2.2.1).natAbs<=1600:=by
 obtain⟨qa,qb,qc,qd,u⟩:=q;obtain⟨a,b,c,d⟩:=h;dsimp only at *
 have aa:=BQ a a;have ab:=BQ a b;have ac:=BQ a c;have ad:=BQ a d;have bb:=BQ b b;have bc:=BQ b c;have bd:=BQ b d;have cc:=BQ c c;have cd:=BQ c d;have dd:=BQ d d;clear a b c d;refine⟨?_,?_⟩
 ·rcases three hi with rfl|rfl|rfl<;>rcases three hj with rfl|rfl|rfl<;>simp only[qM]<;>omega
 ·unfold qN;omega
theorem b7T {q:aT} (h:qOk q) (h2:q20 q):CdM (qMx q) 1:=by
 rw[CO];exact IK (by omega) ⟨(qN q.1 q.2.1 q.2.2.1 q.2.2.2.1).toNat,by have:=lW h.1;omega,by
  have:=(b8E h2 (i:=0) (j:=0) (by omega) (by omega)).2;have e:=a8G (z:=qN q.1 q.2.1 q.2.2.1 q.2.2.2.1) (by omega);have hp:=lW h.1;unfold isz at e;rw[show (qN q.1 q.2.1 q.2.2.1 q.2.2.2.1).toNat=(qN q.1 q.2.1 q.2.2.1 q.2.2.2.1).natAbs by omega];exact e,fun i hi j hj=>⟨_,b3b _ _ _ _ (lW h.1) i j,a8G (by have:=(b8E h2 hi hj).1;omega)⟩⟩
def NM (a b:dQ):MQ:=mulM (mulM (trM (qMx b.2.1)) (kW (eH a b))) (qMx a.2.1)
theorem c7a (a b:dQ):isM (NM a b) 3 3:=((q33 b.2.1).trp.mul (nG _)).mul (q33 a.2.1)
theorem a9J (a b:dQ) {i j:Nat} (hi:i<3) (hj:j<3):ent (NM a b) i j=dt 3 (fun k=>qE b.2.1 k i) (mv 3 (crE (lv (eH a b))) fun l=>qE a.2.1 l j):=by
 have hq:∀ q:aT,∀ i,i<3->∀ j,j<3->ent (qMx q) i j=qE q i j:=fun q i hi j hj=>by rw[CO];exact eF hi hj
 have h2:=JK (q33 b.2.1) (hq b.2.1);have h4:=nR (q33 b.2.1).trp (nG (eH a b)) h2 (g:=crE (lv (eH a b))) fun i hi j hj=>by rw[EC];exact eF hi hj
 have h5:=nR ((q33 b.2.1).trp.mul (nG (eH a b))) (q33 a.2.1) h4 (hq a.2.1);exact(h5 i hi j hj).trans (b8B _ _ _ i j)
theorem b7M {a b:dQ} (h:iG a) (g:iG b) (ha:q20 a.2.1) (hb:q20 b.2.1):m33 9 (NM a b):=by have c1:=(b7T g.2.1 hb).trp (q33 _);have c3:=c1.mul (a0L h g) (q33 _).trp (nG _);have c4:=c3.mul (b7T h.2.1 ha) ((q33 _).trp.mul (nG _)) (q33 _);exact⟨c7a a b,c4.sz (by omega)⟩
theorem nb9 {s:dQ} (h:iG s):qN s.2.1.1 s.2.1.2.1 s.2.1.2.2.1 s.2.1.2.2.2.1≠0:=by have:=lW h.2.1.1;omega
theorem b8V {a b:dQ} (h:iG a) (g:iG b) (hne:¬ PZ a b):∃ i,i<3/\trV (qE b.2.1) (lv (eH a b)) i≠0:=by
 apply oz;intro hc;have z:∀ i,i<3->trV (qE b.2.1) (lv (eH a b)) i=0:=fun i hi=>oz fun h0=>hc ⟨i,hi,h0⟩;have z0:=z 0 (by omega);have z1:=z 1 (by omega);have z2:=z 2 (by omega);have r:=(a1t (nb9 g)).1;have key:∀ l,l<3->lv (eH a b) l=0:=fun l hl=>by
  have r0:qE b.2.1 l 0*qE b.2.1 0 0+qE b.2.1 l 1*qE b.2.1 0 1+qE b.2.1 l 2*qE b.2.1 0 2=qZ l 0:=r l hl 0 (by omega);have r1:qE b.2.1 l 0*qE b.2.1 1 0+qE b.2.1 l 1*qE b.2.1 1 1+qE b.2.1 l 2*qE b.2.1 1 2=qZ l 1:=r l hl 1 (by omega);have r2:qE b.2.1 l 0*qE b.2.1 2 0+qE b.2.1 l 1*qE b.2.1 2 1+qE b.2.1 l 2*qE b.2.1 2 2=qZ l 2:=r l hl 2 (by omega);unfold trV at z0 z1 z2;have e:qZ l 0*lv (eH a b) 0+qZ l 1*lv (eH a b) 1+qZ l 2*lv (eH a b) 2=0:=by rw[<-r0,<-r1,<-r2];clear r0 r1 r2 r z hc;grind
  clear r0 r1 r2 r z hc z0 z1 z2;rcases three hl with rfl|rfl|rfl<;>simp only[qZ,Nat.reduceEqDiff,↓reduceIte] at e<;>grind
 have zz:∀ x y:Int,aH (x-y)=0->y=x:=fun x y e=>by have e:((x-y:Int):Rat)=((0:Int):Rat):=e;have:=Dq.1 e;omega
 exact hne ⟨zz _ _ (key 0 (by omega)),zz _ _ (key 1 (by omega)),zz _ _ (key 2 (by omega))⟩
theorem a0t {a b:dQ} (h:iG a) (g:iG b) {i j:Nat} (hi:i<3) (hj:j<3):ent (NM a b) i j=crE (trV (qE b.2.1) (lv (eH a b))) i 0*qrR b.2.1 a.2.1 0 j+crE (trV (qE b.2.1) (lv (eH a b))) i 1*qrR b.2.1 a.2.1 1 j+crE (trV (qE b.2.1) (lv (eH a b))) i 2*qrR b.2.1 a.2.1 2 j:=(a9J a b hi hj).trans (b9r h g hi hj)
theorem a7o {a b:dQ} (h:iG a) (g:iG b):Rot (qrR b.2.1 a.2.1):=a1t (by
 rw[c0E];exact Dp (nb9 g) (nb9 h))
theorem b7L {a b:dQ} (h:iG a) (g:iG b) (hne:¬ PZ a b):∃ i j,i<3/\j<3/\ent (NM a b) i j≠0:=by
 apply oz;intro hc;have z:∀ i j,i<3->j<3->ent (NM a b) i j=0:=fun i j hi hj=>oz fun h0=>hc ⟨i,j,hi,hj,h0⟩;have hR:=a7o h g;have wp:=c4q (b8V h g hne);have e:∀ i,i<3->crE (trV (qE b.2.1) (lv (eH a b))) i 0*crE (trV (qE b.2.1) (lv (eH a b))) i 0+crE (trV (qE b.2.1) (lv (eH a b))) i 1*crE (trV (qE b.2.1) (lv (eH a b))) i 1+crE (trV (qE b.2.1) (lv (eH a b))) i 2*crE (trV (qE b.2.1) (lv (eH a b))) i 2=0:=fun i hi=>by rw[<-RF hR,<-a0t h g hi (j:=0) (by omega),<-a0t h g hi (j:=1) (by omega),<-a0t h g hi (j:=2) (by omega),z i 0 hi (by omega),z i 1 hi (by omega),z i 2 hi (by omega)];grind
 have e0:=e 0 (by omega);have e1:=e 1 (by omega);have e2:=e 2 (by omega);unfold wwS at wp;simp only[crE] at e0 e1 e2;clear e hR z hc hne;generalize trV (qE b.2.1) (lv (eH a b)) 0=x at *
 generalize trV (qE b.2.1) (lv (eH a b)) 1=y at *
 generalize trV (qE b.2.1) (lv (eH a b)) 2=v at *
 grind
theorem b2V {K:Nat} {m:MQ} (hm:m33 K m) (hK:K<=1000000) (h:∃ i j,i<3/\j<3/\ent m i j≠0):vN m.flatten:=by obtain⟨i,j,hi,hj,h0⟩:=h;obtain⟨l9,hs⟩:=hm.flat;exact⟨by omega,fun q hq=>au (hs q hq) hK,_,Df.2 ⟨m.getD i [],jH (by rw[hm.1.len];exact hi),jH (d:=(0:Rat)) (by rw[hm.1.2.1 _ (jH (by rw[hm.1.len];exact hi))];exact hj)⟩,h0⟩
theorem b0b {K:Nat} {m:MQ} (hm:m33 K m) (hp:vN m.flatten):m33 (10*K+2) (sU m.flatten):=by obtain⟨l9,hs⟩:=hm.flat;refine b0D (by rw[ny,KW,l9]) fun q hq=>?_;obtain⟨n,hn,rfl⟩:=jq.1 hq;have h1:=a3v hp hs n hn;rw[l9] at h1;have h2:rsz (aH n)<=isz n+1:=wM n;omega
theorem a6d {m:MQ} (hm:isM m 3 3) (a b:dQ) {i j:Nat} (hi:i<3) (hj:j<3):ent (esM m a b) i j=mm 3 (mm 3 (tr (ent (fJ b))) (ent m)) (ent (fJ a)) i j :=
 nR ((jB b).trp.mul hm) (jB a) (nR (jB b).trp hm (JK (jB b) fun i hi j hj=>rfl) fun i hi j hj=>rfl) (fun i hi j hj=>rfl) i hi j hj
theorem b0U {m n:MQ} (hm:isM m 3 3) (hn:isM n 3 3) {c:Rat} (h:∀ i,i<3->∀ j,j<3->ent m i j=c*ent n i j) (a b:dQ) {i j:Nat} (hi:i<3) (hj:j<3):ent (esM m a b) i j=c*ent (esM n a b) i j:=by rw[a6d hm a b hi hj,a6d hn a b hi hj];unfold mm tr;simp only[sm3];rw[h 0 (by omega) 0 (by omega),h 0 (by omega) 1 (by omega),h 0 (by omega) 2 (by omega),h 1 (by omega) 0 (by omega),h 1 (by omega) 1 (by omega),h 1 (by omega) 2 (by omega),h 2 (by omega) 0 (by omega),h 2 (by omega) 1 (by omega),h 2 (by omega) 2 (by omega)];clear h;grind
def fX (a b:dQ):MQ:=sU (FM a b).flatten
def esX (a b:dQ):MQ:=sU (esM (fX a b) a b).flatten
theorem b8c {a b:dQ} (h:iG a) (g:iG b) (hne:¬ PZ a b):m33 12000 (fX a b)/\∃ c:Rat,c≠0/\∀ i,i<3->∀ j,j<3->ent (NM a b) i j=c*ent (esM (fX a b) a b) i j:=by have hF:=b7K h g;have hp:=(b7J h g hne).1;have hf:m33 1002 (fX a b):=b0b hF hp;obtain⟨c,hc,he⟩:=a5L hF hp;refine⟨hf.mono (by omega),c,hc,fun i hi j hj=>?_⟩;rw[a9J a b hi hj,<-c0J h g hi hj];exact b0U hF.1 hf.1 he a b hi hj
theorem b1b {a b:dQ} (h:iG a) (g:iG b) (hne:¬ PZ a b):bgP (fX a b)/\m33 200000 (esM (fX a b) a b)/\vN (esM (fX a b) a b).flatten:=by
 obtain⟨hf,c,hc,he⟩:=b8c h g hne;obtain⟨i,j,hi,hj,h0⟩:=b7L h g hne;have hes:ent (esM (fX a b) a b) i j≠0:=fun z=>h0 (by rw[he i hi j hj,z,Bv]);have ma:m33 1 (fJ a):=⟨jB a,(JA h).sz (aj _)⟩;have mb:m33 1 (fJ b):=⟨jB b,(JA g).sz (aj _)⟩;have x1:m33 40000 (mulM (trM (fJ b)) (fX a b)):=(BR mb.tr hf).mono (by omega);have x2:m33 200000 (esM (fX a b) a b):=(BR x1 ma).mono (by omega);refine⟨⟨hf,oz fun hn=>hes ?_⟩,x2,b2V x2 (by omega) ⟨i,j,hi,hj,hes⟩⟩;have z:∀ i,i<3->∀ j,j<3->ent (fX a b) i j=0*ent (fX a b) i j:=fun i hi j hj=>by rw[Bd];exact oz fun h0=>hn ⟨i,j,hi,hj,h0⟩
 rw[b0U hf.1 hf.1 z a b hi hj,Bd]
theorem b9z {a b:dQ} (h:iG a) (g:iG b) (ha:q20 a.2.1) (hb:q20 b.2.1) (hne:¬ PZ a b):esX a b=sU (NM a b).flatten:=by obtain⟨hf,c,hc,he⟩:=b8c h g hne;exact(b0d hc (b7M h g ha hb) (b1b h g hne).2.1 he).symm
theorem c6F {a b:dQ} (h:iG a) (g:iG b) (ha:q20 a.2.1) (hb:q20 b.2.1) (hne:¬ PZ a b):dcQ (esX a b)/\∃ t:Rat,esH (esX a b) t (trV (qE b.2.1) (lv (eH a b))) (qrR b.2.1 a.2.1):=by
 rw[b9z h g ha hb hne];have hN:=b7M h g ha hb;have hn:=b7L h g hne;have hp:=b2V hN (by omega) hn;have hx:m33 100 (sU (NM a b).flatten):=(b0b hN hp).mono (by omega);obtain⟨c,hc,he⟩:=a5L hN hp;have ic:=jw _ hc;obtain⟨i,j,hi,hj,h0⟩:=hn;refine⟨⟨hx,i,j,hi,hj,fun z=>h0 (by rw[he i hi j hj,z,Bv])⟩,c⁻¹,hx,fun z=>?_,b8V h g hne,a7o h g,fun i hi j hj=>?_⟩
 ·rw[z,Bv] at ic;exact absurd ic (by decide)
 ·have e:=he i hi j hj;rw[a0t h g hi hj] at e;rw[e];generalize ent (sU (NM a b).flatten) i j=x;clear e he h0;grind
abbrev nC:Type:=aT × List Int × Unit
def negL (u:List Int):List Int:=[-(u.getD 0 0),-(u.getD 1 0),-(u.getD 2 0)]
def c6z (u:List Int):List Int:=[u.getD 0 0,u.getD 1 0,u.getD 2 0]
def poE (e:MQ) (k:Nat):List nC:=[((omT (dcM e k)).1,c6z (axU e),()),((omT (dcM e k)).1,negL (axU e),())]
def poL (e:MQ) (k:Nat):List nC:=((List.range k).map (poE e)).flatten
def dcT (e:MQ):List nC × Int × Unit:=if TG e=true/\rtB (sqD e)=true then (if (omT (dcM e 0)).2.1≠0 then ([],(omT (dcM e 0)).2.1,()) else if (omT (dcM e 1)).2.1≠0 then ([],(omT (dcM e 1)).2.1,()) else (poL e 2,0,())) else ([],15,())
theorem a7d (e:MQ) (k:Nat):(poL e k).length=2*k:=by
 unfold poL
 induction k with
 | zero=>rfl
 | succ k ih=>rw[wz,Az,List.flatten_append,dh,ih];show 2*k+2=_;omega
theorem c6y (e:MQ) (k:Nat):poL e (k+1)=poL e k++poE e k:=by unfold poL;rw[wz,Az,List.flatten_append];show _++(poE e k++[])=_;rw[Aj]
theorem b0F {e:MQ} (h:TG e=false\/rtB (sqD e)=false):([]=(dcT e).1/\15=(dcT e).2.1):=by
 rw[show dcT e=([],15,()) from bn fun⟨a,b⟩=>by
  rcases h with h|h
  ·rw[h] at a;cases a
  ·rw[h] at b;cases b]
 exact⟨rfl,rfl⟩
theorem b5e {e:MQ} (hE:TG e=true) (hb:rtB (sqD e)=true) {k:Nat} (hk:k<2) (h:∀ j,j<k->(omT (dcM e j)).2.1=0) (h2:¬ (omT (dcM e k)).2.1=0):[]=(dcT e).1/\(omT (dcM e k)).2.1=(dcT e).2.1:=by
 rw[show dcT e=_ from dn ⟨hE,hb⟩];have hc:k=0\/k=1:=by omega
 rcases hc with rfl|rfl
 ·rw[dn h2];exact⟨rfl,rfl⟩
 ·rw[bn (fun c=>c (h 0 (by omega))),dn h2];exact⟨rfl,rfl⟩
theorem b5d {e:MQ} (hE:TG e=true) (hb:rtB (sqD e)=true) {k:Nat} (hk:k=2) (h:∀ j,j<k->(omT (dcM e j)).2.1=0):poL e k=(dcT e).1/\0=(dcT e).2.1:=by subst hk;rw[show dcT e=_ from dn ⟨hE,hb⟩,bn (fun c=>c (h 0 (by omega))),bn (fun c=>c (h 1 (by omega)))];exact⟨rfl,rfl⟩
theorem nx2 {P:Nat->Prop} {k:Nat} (h:∀ j,j<k->P j) (h2:P k):∀ j,j<k+1->P j:=fun j hj=>by
 rcases Eb.1 hj with hj|rfl
 ·exact h j hj
 ·exact h2
noncomputable def c7C:Ctr:=⟨[tQ,tQ],[tQ,tI],fun x=>s44 x.1 x.2.1/\(show Rat from x.2.1)≠0,fun x=>((show Rat from x.1) / (show Rat from x.2.1),(0:Int),())⟩
theorem b5k:aJ Tryz.prog 87 c7C:=by intro F w vs x hF hvs hp;refine(QJ F w vs x hF hvs hp.1).mono ?_;rintro e w' ⟨v,rfl,hv,hb⟩;obtain⟨a,b,t⟩:=x;rw[show (a9V 400000000 14).fn (a,b,t)=(dK ((show Rat from a) / (show Rat from b)),0,()) from bn hp.2] at hv;obtain⟨vs2,rfl,v1,vs3,rfl,⟨cs,h1,h2⟩,h3⟩:=hv;exact⟨_,rfl,⟨_,rfl,v1,vs3,rfl,⟨cs,h1,tX (.lf .fO) (.lf .rat) _ rfl cs _ h2 ⟨rfl,trivial⟩⟩,h3⟩,hb⟩
noncomputable def c4Z:Ctr:=⟨[tM],[.list PL,tI],fun x=>dcQ x.1,fun x=>dcT x.1⟩
noncomputable def stN:Nat:=Classical.choice ⟨0⟩
noncomputable def stc {α:Type} (x:α):α:=if stN=stN then x else x
theorem oP {α:Type} (x:α):stc x=x:=by unfold stc;split<;>rfl
noncomputable def c7B:Ctr:=⟨[tQ,tQ],[tQ,tI],fun x=>s44 x.1 x.2.1/\(show Rat from x.2.1)≠0,fun x=>(stc ((show Rat from x.1) / (show Rat from x.2.1)),(0:Int),())⟩
theorem b5j:aJ Tryz.prog 87 c7B:=jF b5k fun x _=>qw (fun y:Rat=>(y,(0:Int),())) (oP _).symm
noncomputable def c7g:Ctr:=⟨[tM],[.list tZ,tQ],fun x=>axP x.1,fun x=>(stc (axU x.1),stc (axL x.1),())⟩
theorem b4z:aJ Tryz.prog 86 c7g:=jF b4A fun x _=>show (axU x.1,axL x.1,())=(stc (axU x.1),stc (axL x.1),()) by rw[oP,oP]
noncomputable def c8a:Ctr:=⟨[tM,.list tM],[tM],fun x=>tJ x.1 x.2.1,fun x=>(stc (iT x.1 x.2.1),())⟩
theorem b6M:aJ Tryz.prog 64 c8a:=jF a7i fun x _=>qw (fun y:MQ=>(y,())) (oP _).symm
noncomputable def c8q:Ctr:=⟨[tM],[tM],fun x=>okM x.1,fun x=>(stc (trM x.1),())⟩
theorem b7y:aJ Tryz.prog 65 c8q:=jF a7M fun x _=>qw (fun y:MQ=>(y,())) (oP _).symm
noncomputable def c8l:Ctr:=⟨[tM,tQ],[tM,tI],fun x=>okM x.1/\rsz x.2.1<=400000000,fun x=>(stc (nV x.1 x.2.1),(0:Int),())⟩
theorem b7p:aJ Tryz.prog 92 c8l:=jF a3G fun x _=>qw (fun y:MQ=>(y,(0:Int),())) (oP _).symm
noncomputable def c7w:Ctr:=⟨[tM],[tM],fun x=>m33 1000000 x.1,fun x=>(stc (WM x.1),())⟩
theorem b4V:aJ Tryz.prog 93 c7w:=jF b0w fun x _=>qw (fun y:MQ=>(y,())) (oP _).symm
noncomputable def c7m:Ctr:=⟨[.list tZ],[tM],fun x=>(show List Int from x.1).length=3/\∀ n ∈ (show List Int from x.1),isz n<=1000000,fun x=>(stc (kW ((show List Int from x.1).map fun n=>aH n)),())⟩
theorem b4I:aJ Tryz.prog 94 c7m:=jF b4X fun x _=>qw (fun y:MQ=>(y,())) (oP _).symm
noncomputable def c8n:Ctr:=⟨[tM,tM],[tM,tI],fun x=>okM x.1/\okM x.2.1/\(show MQ from x.1).length=(show MQ from x.2.1).length/\wdM (show MQ from x.1)=wdM (show MQ from x.2.1),fun x=>(stc (VO x.1 x.2.1),(0:Int),())⟩
theorem b7t:aJ Tryz.prog 95 c8n:=jF b3Y fun x _=>qw (fun y:MQ=>(y,(0:Int),())) (oP _).symm
noncomputable def c7d:Ctr:=⟨[tM,tM],[tM,tI],fun x=>okM x.1/\okM x.2.1/\(show MQ from x.1).length=(show MQ from x.2.1).length/\wdM (show MQ from x.1)=wdM (show MQ from x.2.1),fun x=>(stc (RZ x.1 x.2.1),(0:Int),())⟩
theorem b4x:aJ Tryz.prog 96 c7d:=jF a9L fun x _=>qw (fun y:MQ=>(y,(0:Int),())) (oP _).symm
theorem b5h:aJ Tryz.prog 21 c4Z:=by
 refine aN ((((((((((((((((((nil0.ad oG).ad rM).ad QJ).ad vJ).ad b5j).ad a7R).ad b5t).ad b4z).ad b6M).ad b7y).ad VX).ad b7m).ad b7p).ad b4V).ad b4I).ad b7t).ad b4x).ad b6B) ⟨[5,6,8,10,11,13,23,24,28],[],[]⟩ Tryz.func21 rfl (by decide) (fun x=>[.inv {k:Nat // k<=2/\∀ j,j<k->(omT (dcM (show MQ from x.1) j)).2.1=0} (fun k=>[(137,.val tI (k.1:Int)),(25,.own 156 0),(156,.any)]) (fun k=>[(23,.box [⟨tZ,(axU (show MQ from x.1)).getD 0 0⟩,⟨tZ,(axU (show MQ from x.1)).getD 1 0⟩,⟨tZ,(axU (show MQ from x.1)).getD 2 0⟩]),(24,.box [⟨tZ,-((axU (show MQ from x.1)).getD 0 0)⟩,⟨tZ,-((axU (show MQ from x.1)).getD 1 0)⟩,⟨tZ,-((axU (show MQ from x.1)).getD 2 0)⟩]),(156,.row 60 PL (poL (show MQ from x.1) k.1) 0)]) (fun k=>2-k.1) ⟨0,by omega,fun j h=>absurd h (Bl j)⟩ (fun _=>[])]) (fun x hp=>?_);obtain⟨e,u⟩:=x;change MQ at e;refine aP (let aO:=((Int × Int × Int × Int × PUnit) × List Int × PUnit);let bC:=(True/\aC aO=Prod.fst (dcT e)/\True/\15=Prod.fst (dcT e).2/\True);let bI:=(stc (axU e)).length;let bH:=(stc (kW (List.map (fun(n:Int)=>aH n) (stc (axU e)))));let cZ:=(stc (trM e)::aC (List (List Rat)));let A₁:=(trQ (stc (iT e cZ)) / (aH 2*stc (axL e)));let bU:=(rtT (stc A₁)).1;let fB:=(e::aC (List (List Rat)));let fD:=(aI.x bU*stc (axL e));let A₂:=(stc (nV (stc (iT bH fB)) (stc (aH 1 / fD))));let gB:=(stc A₁*stc (axL e));let aK:=(stc (nV (stc (WM e)) (stc (aH 1 / gB))));let A₀:=(stc (VO aK A₂)::stc (RZ aK A₂)::aC (List (List Rat)));let dG:=((okM aK/\okM A₂/\List.length aK=List.length A₂/\wdM aK=wdM A₂)/\True);(bgP e/\True)/\(m33 100 e/\True)/\ifB (!TG e) bC ((axP e/\True)/\ifB (aB bI==0) bC ((okM e/\tJ e cZ/\m33 1000000 (stc (iT e cZ))/\aV 2/\s44 (aH 2) (stc (axL e))/\(s44 (trQ (stc (iT e cZ))) (aH 2*stc (axL e))/\aH 2*stc (axL e)≠0)/\True)/\((0<Rat.num (stc A₁)/\rsz (stc A₁)<=100000)/\True)/\ifB (!Prod.fst (rtT (stc A₁)).2) bC ((aV 1/\True)/\(s44 (stc A₁) (stc (axL e))/\(s44 (aH 1) gB/\stc A₁*stc (axL e)≠0)/\True)/\(aI.ok bU=true/\s44 (aI.x bU) (stc (axL e))/\(s44 (aH 1) fD/\aI.x bU*stc (axL e)≠0)/\True)/\(m33 1000000 e/\(okM (stc (WM e))/\rsz (stc (aH 1 / gB))<=400000000)/\True)/\((List.length (stc (axU e))=3/\∀ (n:Int),n ∈ stc (axU e)->isz n<=1000000)/\tJ bH fB/\(okM (stc (iT bH fB))/\rsz (stc (aH 1 / fD))<=400000000)/\True)/\dG/\dG/\(asT Int 0<=0/\0<aB bI/\asT Int 0<=1/\1<aB bI/\asT Int 0<=2/\2<aB bI/\True)/\(asT Int 0<=0/\0<aB bI/\isz (List.getD (stc (axU e)) 0 0)<=1000000000/\asT Int 0<=1/\1<aB bI/\isz (List.getD (stc (axU e)) 1 0)<=1000000000/\asT Int 0<=2/\2<aB bI/\isz (List.getD (stc (axU e)) 2 0)<=1000000000/\True)/\(asT Int 0=0/\(True/\poL e 0=aC aO)/\List.getD (stc (axU e)) 0 0=List.getD (axU e) 0 0/\List.getD (stc (axU e)) 1 0=List.getD (axU e) 1 0/\List.getD (stc (axU e)) 2 0=List.getD (axU e) 2 0/\-List.getD (stc (axU e)) 0 0=-List.getD (axU e) 0 0/\-List.getD (stc (axU e)) 1 0=-List.getD (axU e) 1 0/\-List.getD (stc (axU e)) 2 0=-List.getD (axU e) 2 0/\(poL e 0=aC aO/\0=0/\asT Bool true=true)/\True)/\∀ (i:{ k:Nat // k<=2/\∀ (j:Nat),j<k->Prod.fst (omT (dcM e j)).2=0 }),let iU:=(List.getD A₀ (aB (aA i)).toNat (aC (List Rat)));let gQ:=(omT iU).1.2;let fE:=(Prod.fst (omT iU).1,Prod.fst gQ,Prod.fst gQ.2,Prod.fst gQ.2.2,());let jZ:=(fE,-List.getD (axU e) 0 0::-List.getD (axU e) 1 0::-List.getD (axU e) 2 0::aC Int,());let lM:=(fE,List.getD (axU e) 0 0::List.getD (axU e) 1 0::List.getD (axU e) 2 0::aC Int,());asT Bool true=true/\ifB (decide (aB (aA i)<aB A₀.length)) ((0<=aB (aA i)/\aB (aA i)<aB A₀.length/\True)/\(m33 150000 iU/\True)/\ifB (Prod.fst (omT iU).2 != 0) (True/\aC aO=Prod.fst (dcT e)/\True/\Prod.fst (omT iU).2=Prod.fst (dcT e).2/\True) ((List.length (poL e (aA i))+List.length (lM::jZ::aC aO)<=1000000000/\True)/\∃ (i':{ k:Nat // k<=2/\∀ (j:Nat),j<k->Prod.fst (omT (dcM e j)).2=0 }),2-aA i'<2-aA i/\IntKind.wrap IntKind.i64 (aB (aA i)+1)=aB (aA i')/\List.getD (axU e) 0 0=List.getD (axU e) 0 0/\List.getD (axU e) 1 0=List.getD (axU e) 1 0/\List.getD (axU e) 2 0=List.getD (axU e) 2 0/\-List.getD (axU e) 0 0=-List.getD (axU e) 0 0/\-List.getD (axU e) 1 0=-List.getD (axU e) 1 0/\-List.getD (axU e) 2 0=-List.getD (axU e) 2 0/\poL e (aA i)++lM::jZ::aC aO=poL e (aA i')/\True)) (True/\poL e (aA i)=Prod.fst (dcT e)/\True/\0=Prod.fst (dcT e).2/\True))))) (by kernel_rfl) ?_;simp only[oP];try simp only[zP0]
 try dsimp only[aB,asT,aA,aC,Ty.den,Lf.den] at *
 try simp only[zP1]
 try simp only[zP2]
 have hP:dcQ e:=hp;have b1:iT e [trM e]=gM e:=rfl;have b2:iT (kW (List.map (fun n=>aH n) (axU e))) [e]=ueM e:=rfl;have s0:trQ (gM e) / (aH 2*axL e)=sqD e:=rfl;have s1:aH 1 / (sqD e*axL e)=aD e:=rfl;have s2:nV (WM e) (aD e)=fiM e:=rfl;simp only[b1,b2,s0,s1,s2];have o1:=(hP.m.mono (show 100<=1000000 by omega)).ok (aj _);have hl:=IX e;have hus:=SE hP.ax;have u:∀ k,k<3->isz ((axU e).getD k 0)<=12001:=fun k hk=>cO hus (by rw[hl];exact hk);have z1:=a0D hP.ax;have z2:=a5m hP;have z3:=VU (WT hP.m);have z4:rsz (aH 2)<=10:=by decide +kernel
 have z5:rsz (aH 1)<=10:=by decide +kernel
 have z6:=fC (aH 2) (axL e);have z7:=b8L hP;have z8:=b8u hP;have z9:rsz (kD e)<=rsz (sqD e):=b3B _;have za:=b7N hP;have zb:=b7O hP;have g0:=b8v hP;have g1:=b8K hP;have g2:=b8t hP;have oc:=((XJ hP.m).mono (show 500<=1000000 by omega)).ok (aj _);have ou:=((c4m hP).mono (show 37000<=1000000 by omega)).ok (aj _);have of:=((b9C hP).mono (show 52000<=1000000 by omega)).ok (aj _);have os:=((c4b hP).mono (show 88100<=1000000 by omega)).ok (aj _);rw[hl];refine⟨⟨hP.m.mono (by omega),hP.2⟩,hP.m,fun h=>b0F (.inl h),fun hE=>⟨hP.ax,fun h=>by omega,fun _=>⟨⟨o1.1,a7l (by omega) hP.m hP.m.tr,(WT hP.m).mono (by omega),by decide,⟨by omega,by omega⟩,⟨by omega,by omega⟩,g0⟩,⟨BZ (a1I hP),by omega⟩,fun h=>?_,fun h=>?_⟩⟩⟩
 ·have hb:rtB (sqD e)=false:=by rw[<-Bool.not_eq_true];intro c;unfold rtT at h;rw[dn c] at h;cases h
  exact b0F (.inr hb)
 ·have hb:rtB (sqD e)=true:=by apply oz;intro c;unfold rtT at h;rw[bn c] at h;cases h
  have hR:rtT (sqD e)=(dK (kD e),true,()):=dn hb;have s3:(dK (kD e)).x=kD e:=rfl;have s4:nV (ueM e) (bD e)=seM e:=rfl;have s5:aH 1 / (kD e*axL e)=bD e:=rfl;simp only[hR,s3,s5,s4];have dk:∀ k,k<2->[VO (fiM e) (seM e),RZ (fiM e) (seM e)].getD k []=dcM e k:=fun k hk=>by
   have:k=0\/k=1:=by omega
   rcases this with rfl|rfl<;>rfl
  refine⟨by decide,⟨⟨by omega,by omega⟩,⟨by omega,by omega⟩,g1⟩,⟨by first|exact trivial|rfl,⟨by omega,by omega⟩,⟨by omega,by omega⟩,g2⟩,⟨hP.m.mono (by omega),oc.1,by omega⟩,⟨⟨by first|exact trivial|rfl,fun n hn=>au (hus n hn) (by omega)⟩,?_,ou.1,by omega⟩,⟨of.1,os.1,by rw[of.2.2.2,os.2.2.2],by rw[of.2.2.1,os.2.2.1]⟩,⟨of.1,os.1,by rw[of.2.2.2,os.2.2.2],by rw[of.2.2.1,os.2.2.1]⟩,by omega,⟨by omega,by omega,au (u 0 (by omega)) (by omega),by omega,by omega,au (u 1 (by omega)) (by omega),by omega,by omega,au (u 2 (by omega)) (by omega)⟩,rfl,fun i=>⟨fun h1=>?_,fun h1=>?_⟩⟩
  ·exact⟨by show 1<=1000;omega,fun n hn=>by
    rw[mg] at hn;subst hn;exact hP.m.mono (by omega),fun k hk=>by
    have hk:k<=1:=hk;have e1:k=0\/k=1:=by omega
    rcases e1 with rfl|rfl<;>simp only[List.take_zero,List.take_succ_cons,xX,vO]
    ·exact(c6N hP.ax).mono (by omega)
    ·exact(c4m hP).mono (by omega)⟩
  ·have hi:i.1<2:=by omega
   rw[dk i.1 hi];exact⟨by omega,b5c hP i.1,fun h2=>b5e hE hb hi i.2.2 h2,fun h2=>⟨by rw[a7d];omega,⟨i.1+1,by omega,nx2 i.2.2 h2⟩,by simp only;omega,by rw[aG (by omega) (by omega)];rfl,(c6y e i.1).symm⟩⟩
  ·exact b5d hE hb (by have:=i.2.1;omega) i.2.2
theorem MO {α:Type} {l:List α} {i:Nat} {d:α} (h:l.length<=i):l.getD i d=d:=by rw[bg,qm h];rfl
def bsQ (l:List Int) (k:Nat):LQ':=(List.range k).map fun i=>aH (l.getD i 0)
theorem a5K (l:List Int) (k:Nat):(bsQ l k).length=k:=by unfold bsQ;rw[ny,jr]
theorem c4G (l:List Int) (k:Nat):bsQ l (k+1)=bsQ l k++List.map (fun x:Int × Int × Unit=>Rat.divInt x.1 x.2.1) [(l.getD k 0,1,())]:=by unfold bsQ;rw[wz,Az];show _++[aH (l.getD k 0)]=_++[Rat.divInt (l.getD k 0) 1];rw[a4n]
def QE (u:LQ') (t:aT) (p:nC):Bool:=decide (p.1=t)&&decide (lv (mvL (kW u) (bsQ p.2.1 3)) 0=0)&&decide (lv (mvL (kW u) (bsQ p.2.1 3)) 1=0)&&decide (lv (mvL (kW u) (bsQ p.2.1 3)) 2=0)&&decide (0<nJ u (bsQ p.2.1 3) 3)
theorem c5I (x y:aT):eqD jD x y=decide (x=y):=by obtain⟨a,b,c,d,u⟩:=x;obtain⟨e,f,g,h,v⟩:=y;show (a==e&&(b==f&&(c==g&&(d==h&&true))))=_;rw[Bool.eq_iff_iff];simp
theorem c0K (v b:LQ') (t q:aT):(eqD jD q t&&sgn ((mvL (kW v) b).getD 0 0).num==0&&sgn ((mvL (kW v) b).getD 1 0).num==0&&sgn ((mvL (kW v) b).getD 2 0).num==0&&decide (sgn (nJ v b 3).num > 0))=(decide (q=t)&&decide (lv (mvL (kW v) b) 0=0)&&decide (lv (mvL (kW v) b) 1=0)&&decide (lv (mvL (kW v) b) 2=0)&&decide (0<nJ v b 3)):=by
 rw[c5I,a1F,a1F,a1F];congr 1;exact decide_eq_decide.2 (Int.sign_pos_iff.trans ⟨fun h=>by
  apply oz;intro c;have c2:-nJ v b 3=0\/0 < -nJ v b 3:=by grind
  rcases c2 with e|e
  ·have e0:nJ v b 3=0:=by grind
   rw[e0] at h;exact absurd h (by decide)
  ·have:=BZ e;rw[Rat.neg_num] at this;omega,BZ⟩)
def a1s (p:nC):Prop:=p.2.1.length=3/\∀ n ∈ p.2.1,isz n<=15000
def uP9 (u:LQ'):Prop:=u.length=3/\∀ q ∈ u,rsz q<=1000
noncomputable def c4Y:Ctr:=⟨[.list tQ],[tM],fun x=>(show LQ' from x.1).length=3/\∀ q ∈ (show LQ' from x.1),rsz q<=1000,fun x=>(stc (kW x.1),())⟩
theorem b0C:aJ Tryz.prog 34 c4Y:=jF b0A fun x _=>qw (fun y:MQ=>(y,())) (oP _).symm
noncomputable def c4I:Ctr:=⟨[tM,.list tQ],[.list tQ],fun x=>okM x.1/\szM x.1 1000000/\(show LQ' from x.2.1).length=wdM (show MQ from x.1)/\∀ q ∈ (show LQ' from x.2.1),rsz q<=1000000,fun x=>(stc (mvL x.1 x.2.1),())⟩
theorem a1X:aJ Tryz.prog 19 c4I:=jF a4S fun x _=>qw (fun y:LQ'=>(y,())) (oP _).symm
noncomputable def c8j:Ctr:=⟨[PL,.ref (.list tQ),.ref jD],[tB],fun x=>a1s x.1/\uP9 x.2.1,fun x=>(QE x.2.1 x.2.2.1 x.1,())⟩
theorem a7q:aJ Tryz.prog 32 c8j:=by
 refine aN (((((nil0.ad a0p).ad b0C).ad a1X).ad b0J).ad b3x) ⟨[7],[],[]⟩ Tryz.func32 rfl (by decide) (fun x=>[.inv {k:Nat // k<=3} (fun k=>[(11,.val tI (k.1:Int)),(5,.own 18 0),(18,.any)]) (fun k=>[(18,.row 47 tQ (bsQ (show List Int from x.1.2.1) k.1) 0)]) (fun k=>3-k.1) ⟨0,by omega⟩ (fun _=>[])]) (fun x hp=>?_);obtain⟨p,v,t,u⟩:=x;change nC at p;change List Rat at v;change aT at t;refine aP (let A₀:=(Ty.pair (Ty.int IntKind.i64) (Ty.pair (Ty.int IntKind.i64) (Ty.pair (Ty.int IntKind.i64) (Ty.pair (Ty.int IntKind.i64) Ty.unit))));let A₁:=(asT (List Int) p.2.1);let A₂:=(eqD A₀ p.1 t==true);let aK:=(fun(x:Ty.den (Ty.pair (Ty.lf Lf.big) (Ty.pair (Ty.lf Lf.big) Ty.unit)))=>Rat.divInt (asT Int x.1) (asT Int x.2.1));let aO:=(A₂=true->A₂=true/\True);(asT Int 0=0/\(True/\asT (List Rat) (aC Rat)=aC Rat)/\(asT (List Rat) (aC Rat)=aC Rat/\0=0/\asT Bool true=true)/\True)/\∀ (i:{ k:Nat // k<=3 }),let bC:=(stc (mvL (stc (kW v)) (bsQ A₁ (aA i))));let cZ:=(Rat.num (List.getD bC 0 0));let dG:=((List.getD A₁ (aB (aA i)).toNat 0,1,())::aC (Int × Int × PUnit));let fB:=(bif eqD A₀ p.1 t then sgn cZ==0 else false);let bU:=(fB==true);let fD:=(Rat.num (List.getD bC 1 0));let bH:=(bif bif eqD A₀ p.1 t then sgn cZ==0 else false then sgn fD==0 else false);let gB:=((bH==true)=true->(bH==true)=true/\True);let fE:=(nJ v (bsQ A₁ (aA i)) v.length);let iU:=(bU=true->bU=true/\True);let jZ:=(Rat.num (List.getD bC 2 0));let bI:=(bif bif bif eqD A₀ p.1 t then sgn cZ==0 else false then sgn fD==0 else false then sgn jZ==0 else false);asT Bool true=true/\ifB (decide (aB (aA i)<3)) ((0<=aB (aA i)/\aB (aA i)<3/\True)/\(aV 1/\List.length (bsQ A₁ (aA i))+List.length (List.map aK dG)<=1000000000/\((asT Int 0<1/\Int.gcd (List.getD A₁ (aB (aA i)).toNat 0) 1=1/\True)/\True)/\True)/\∃ (i':{ k:Nat // k<=3 }),3-aA i'<3-aA i/\IntKind.wrap IntKind.i64 (aB (aA i)+1)=aB (aA i')/\bsQ A₁ (aA i)++List.map aK dG=bsQ A₁ (aA i')/\True) (((List.length v=3/\∀ (q:Rat),q ∈ v->rsz q<=1000)/\(okM (stc (kW v))/\szM (stc (kW v)) 1000000/\List.length (bsQ A₁ (aA i))=wdM (stc (kW v))/\∀ (q:Rat),q ∈ bsQ A₁ (aA i)->rsz q<=1000000)/\True)/\((A₂=true->A₂=true/\asT Int 0<=0/\0<aB bC.length/\True)/\aO/\(A₂=true->A₂=true/\rsz (List.getD bC 0 0)<=190000000/\True)/\aO/\(eqD A₀ p.1 t=true->A₂=true)/\(bU=true->bU=true/\asT Int 0<=1/\1<aB bC.length/\True)/\iU/\(bU=true->bU=true/\rsz (List.getD bC 1 0)<=190000000/\True)/\iU/\(fB=true->bU=true)/\((bH==true)=true->(bH==true)=true/\asT Int 0<=2/\2<aB bC.length/\True)/\gB/\((bH==true)=true->(bH==true)=true/\rsz (List.getD bC 2 0)<=190000000/\True)/\gB/\(bH=true->(bH==true)=true)/\((bI==true)=true->(bI==true)=true/\(bI==true)=true/\XK v (bsQ A₁ (aA i))/\True)/\((bI==true)=true->(bI==true)=true/\rsz fE<=190000000/\True)/\((bI==true)=true->(bI==true)=true/\True)/\(bI=true->(bI==true)=true)/\True)/\True/\(bif bif bif bif eqD A₀ p.1 t then sgn cZ==0 else false then sgn fD==0 else false then sgn jZ==0 else false then decide (sgn (Rat.num fE) > 0) else false)=QE v t p/\True)) (by kernel_rfl) ?_;simp only[oP];try simp only[zP0]
 try dsimp only[aB,asT,aA,aC,Ty.den,Lf.den] at *
 try simp only[zP1]
 try simp only[zP2]
 obtain⟨⟨hl,hz⟩,hv,hu⟩:a1s p/\uP9 v:=hp;have eS:∀ X:LQ',(sgn (X.getD 0 0).num==0)=decide (X.getD 0 0=0):=fun X=>a1F _;have uz:∀ i,rsz (lv v i)<=1000:=fun i=>by
  by_cases hi:i<v.length
  ·exact cO hu hi
  ·unfold lv;rw[MO (by omega)];decide +kernel
 have bz:∀ k,rsz (aH (p.2.1.getD k 0))<=15001:=fun k=>by
  refine au (wM _) (Nat.succ_le_succ ?_);by_cases hk:k<p.2.1.length
  ·exact cO hz hk
  ·rw[MO (by omega)];decide +kernel
 refine fun i=>⟨fun h1=>⟨⟨by omega,h1⟩,⟨by decide,by rw[a5K];show i.1+1<=_;omega,by decide,Int.gcd_one_right _⟩,⟨i.1+1,by omega⟩,by simp only;omega,by rw[aG (by omega) (by omega)];rfl,(c4G _ _).symm⟩,fun h1=>?_⟩;obtain⟨i,hi⟩:=i;have hk:i=3:=by have h1:¬ ((i:Nat):Int)<3:=h1;omega
 subst hk;dsimp only;have bl:(bsQ p.2.1 3).length=3:=a5K _ _;have bs:∀ q ∈ bsQ p.2.1 3,rsz q<=15001:=fun q hq=>by obtain⟨k,hk,rfl⟩:=jq.1 hq;exact bz k
 have cm:m33 1000 (kW v):=b0B (by omega) uz;have xl:(mvL (kW v) (bsQ p.2.1 3)).length=3:=by rw[a1o];exact cm.1.len
 have xs:=b2z cm.1 cm.2 bs bl;have x:∀ k,k<3->rsz ((mvL (kW v) (bsQ p.2.1 3)).getD k 0)<=190000000:=fun k hk=>au (cO xs (by omega)) (by omega);have dp:XK v (bsQ p.2.1 3):=⟨by omega,by omega,fun i hi=>⟨au (uz i) (by omega),au (cO bs (by omega)) (by omega)⟩⟩;have dz:=dp.sz (k:=v.length) (aj _);have ok:=(cm.mono (show 1000<=1000000 by omega)).ok (aj _);refine⟨⟨⟨hv,hu⟩,ok.1,(cm.mono (by omega)).2,by rw[bl];exact cm.1.wd.symm,fun q hq=>au (bs q hq) (by omega)⟩,⟨fun h=>⟨h,by omega,by rw[xl];decide⟩,fun h=>⟨h,x 0 (by omega)⟩,fun h=>⟨h,by omega,by rw[xl];decide⟩,fun h=>⟨h,x 1 (by omega)⟩,fun h=>⟨h,by omega,by rw[xl];decide⟩,fun h=>⟨h,x 2 (by omega)⟩,fun h=>⟨h,h,dp⟩,fun h=>⟨h,by omega⟩⟩,?_⟩;rw[hv];exact c0K _ _ _ _
def qrT (b a:aT):Nat->Int:=qT (qrI b a 0) (qrI b a 1) (qrI b a 2) (qrI b a 3)
theorem ZR {a b:aT} (ha:q20 a) (hb:q20 b):∀ j,j<4->(qrT b a j).natAbs<=1048576:=fun j hj=>by
 obtain⟨qa,qb,qc,qd,u⟩:=a;obtain⟨pa,pb,pc,pd,v⟩:=b;obtain⟨a0,a1,a2,a3⟩:=ha;obtain⟨b0,b1,b2,b3⟩:=hb;dsimp only at *
 have m:=fun {x y:Int} (h:x.natAbs<=20) (g:y.natAbs<=20)=>BQ h g;have m00:=m b0 a0;have m01:=m b0 a1;have m02:=m b0 a2;have m03:=m b0 a3;have m10:=m b1 a0;have m11:=m b1 a1;have m12:=m b1 a2;have m13:=m b1 a3;have m20:=m b2 a0;have m21:=m b2 a1;have m22:=m b2 a2;have m23:=m b2 a3;have m30:=m b3 a0;have m31:=m b3 a1;have m32:=m b3 a2;have m33:=m b3 a3;clear m a0 a1 a2 a3 b0 b1 b2 b3
 match j,hj with
 | 0,_=>show (qrI _ _ 0).natAbs<=_;simp only[qrI];omega
 | 1,_=>show (qrI _ _ 1).natAbs<=_;simp only[qrI];omega
 | 2,_=>show (qrI _ _ 2).natAbs<=_;simp only[qrI];omega
 | 3,_=>show (qrI _ _ 3).natAbs<=_;simp only[qrI];omega
theorem b8G {a b:aT} (ha:qOk a) (hb:qOk b):0<qN (qrI b a 0) (qrI b a 1) (qrI b a 2) (qrI b a 3):=by rw[c0E];exact Int.mul_pos (lW hb.1) (lW ha.1)
theorem b3d {a b:aT} (ha:qOk a) (hb:qOk b):∃ j,j<4/\qrT b a j≠0:=by apply oz;intro hc;have z:∀ j,j<4->qrT b a j=0:=fun j hj=>oz fun h0=>hc ⟨j,hj,h0⟩;have h0:qrI b a 0=0:=z 0 (by omega);have h1:qrI b a 1=0:=z 1 (by omega);have h2:qrI b a 2=0:=z 2 (by omega);have h3:qrI b a 3=0:=z 3 (by omega);have:=b8G ha hb;rw[h0,h1,h2,h3] at this;exact absurd this (by decide)
theorem a8y {x:MQ} {R:Mt} {k:Nat} (hx:dcQ x) (hR:Rot R) (h:∀ i,i<3->∀ j,j<3->ent (dcM x k) i j=2*(uP x R i j*(axL x)⁻¹)-R i j):(omT (dcM x k)).2.1=0\/(omT (dcM x k)).2.1=3:=by
 have lp:=tN hx.ax;have hy:wwS (uR x)*(axL x)⁻¹=1:=by rw[<-a5G];exact jw _ (by grind)
 have hT:=a3C (b5c hx k) (b1v hR hy) h;obtain⟨j,_,_,_,e⟩:=a3m (b5c hx k) hT;rw[e];exact a4P _
theorem b9q {x:MQ} {t:Rat} {w:Nat->Rat} {b a:aT} (hx:dcQ x) (h:esH x t w (qrR b a)) (ha:qOk a) (hb:qOk b) (sa:q20 a) (sb:q20 b):∃ k s,k<2/\s≠0/\(∀ i,i<3->w i=s*uR x i)/\omT (dcM x k)=dM (qrT b a)/\(dcT x=([],3,())\/dcT x=(poL x 2,0,())):=by
 obtain⟨s,hs,hw⟩:=c8C h;have hw:∀ i,i<3->w i=s*uR x i:=hw;obtain⟨k,hk,hR,hH⟩:=c5J h hs hw;have hE:=b9A h;have hq:rtB (sqD x)=true:=by rw[b0V h hs hw];exact(b8J fun z=>by rcases yj.1 z with z|z;exact h.2.1 z;exact hs z).1
 have nq:=b8G ha hb;have e1:omT (dcM x k)=dM (qrT b a):=c6x (b5c hx k) (by omega) hR;have c1:(omT (dcM x k)).2.1=0:=by rw[e1,CJ (ZR sa sb) (b3d ha hb)]
 have c2:∀ m,m=1-k->(omT (dcM x m)).2.1=0\/(omT (dcM x m)).2.1=3:=fun m e=>by rw[e];exact a8y hx h.2.2.2.1 hH
 refine⟨k,s,hk,hs,hw,e1,?_⟩;have d:dcT x=(if (omT (dcM x 0)).2.1≠0 then ([],(omT (dcM x 0)).2.1,()) else if (omT (dcM x 1)).2.1≠0 then ([],(omT (dcM x 1)).2.1,()) else (poL x 2,0,())):=dn ⟨hE,hq⟩;rw[d];clear d;have fin:∀ c0 c1:Int,(c0=0\/c0=3)->(c1=0\/c1=3)->(if c0≠0 then (([],c0,()):List nC × Int × Unit) else if c1≠0 then ([],c1,()) else (poL x 2,0,()))=([],3,())\/(if c0≠0 then (([],c0,()):List nC × Int × Unit) else if c1≠0 then ([],c1,()) else (poL x 2,0,()))=(poL x 2,0,()):=fun c0 c1 h0 h1=>by
  rcases h0 with rfl|rfl
  ·rcases h1 with rfl|rfl
   ·exact .inr rfl
   ·exact .inl rfl
  ·exact .inl rfl
 have e2:k=0\/k=1:=by omega
 rcases e2 with rfl|rfl
 ·have c2:=c2 1 rfl;generalize (omT (dcM x 0)).2.1=k0 at *
  generalize (omT (dcM x 1)).2.1=k1 at *
  exact fin k0 k1 (.inl c1) c2
 ·have c2:=c2 0 rfl;generalize (omT (dcM x 0)).2.1=k0 at *
  generalize (omT (dcM x 1)).2.1=k1 at *
  exact fin k0 k1 c2 (.inl c1)
theorem b2X {X:Nat->Int} (hn:∃ j,j<4/\X j≠0):prG X 4≠0/\∀ j,j<4->X j=prN X 4 j*prG X 4:=by obtain⟨i,hi,hz⟩:=hn;exact⟨CG hi hz,fun j hj=>(Fa (ES (xs:=X) hj)).symm⟩
def cjT (q:aT):Nat->Int:=qT q.1 (-q.2.1) (-q.2.2.1) (-q.2.2.2.1)
theorem c8v {q:aT} (h:qOk q):∃ (g:Int) (c:aT),g≠0/\dM (cjT q)=(c,0,())/\q.1=c.1*g/\-q.2.1=c.2.1*g/\-q.2.2.1=c.2.2.1*g/\-q.2.2.2.1=c.2.2.2.1*g/\qOk c:=by
 obtain⟨h0,⟨a0,a1⟩,⟨b0,b1⟩,⟨c0,c1⟩,d0,d1⟩:=h;have hn:∃ j,j<4/\cjT q j≠0:=by apply oz;intro hc;have z:∀ j,j<4->cjT q j=0:=fun j hj=>oz fun h0=>hc ⟨j,hj,h0⟩;have z0:q.1=0:=z 0 (by omega);have z1:-q.2.1=0:=z 1 (by omega);have z2:-q.2.2.1=0:=z 2 (by omega);have z3:-q.2.2.2.1=0:=z 3 (by omega);exact h0 ⟨z0,by omega,by omega,by omega⟩
 have hs:∀ j,j<4->(cjT q j).natAbs<=1048576:=fun j hj=>match j,hj with
  | 0,_=>by show q.1.natAbs<=_;omega
  | 1,_=>by show (-q.2.1).natAbs<=_;omega
  | 2,_=>by show (-q.2.2.1).natAbs<=_;omega
  | 3,_=>by show (-q.2.2.2.1).natAbs<=_;omega
 obtain⟨hg,he⟩:=b2X hn;have e0:q.1=_:=he 0 (by omega);have e1:-q.2.1=_:=he 1 (by omega);have e2:-q.2.2.1=_:=he 2 (by omega);have e3:-q.2.2.2.1=_:=he 3 (by omega);have a:=fun j (hj:j<4)=>a7f (X:=cjT q) hj hn;have s0:=hs 0 (by omega);have s1:=hs 1 (by omega);have s2:=hs 2 (by omega);have s3:=hs 3 (by omega);have p0:=a 0 (by omega);have p1:=a 1 (by omega);have p2:=a 2 (by omega);have p3:=a 3 (by omega);refine⟨prG (cjT q) 4,(prN (cjT q) 4 0,prN (cjT q) 4 1,prN (cjT q) 4 2,prN (cjT q) 4 3,()),hg,CJ hs hn,e0,e1,e2,e3,fun⟨z0,z1,z2,z3⟩=>h0 ?_,?_⟩
 ·dsimp only at z0 z1 z2 z3;rw[z0,Int.zero_mul] at e0;rw[z1,Int.zero_mul] at e1;rw[z2,Int.zero_mul] at e2;rw[z3,Int.zero_mul] at e3;exact⟨e0,by omega,by omega,by omega⟩
 ·have z:∀ n m:Int,n.natAbs<=m.natAbs->m.natAbs<=1048576->cdI n:=fun n m h g=>⟨by omega,by omega⟩;exact⟨z _ _ p0 s0,z _ _ p1 s1,z _ _ p2 s2,z _ _ p3 s3⟩
theorem b4J {q c:aT} (a:aT) {g:Int} (hg:g≠0) (e0:q.1=c.1*g) (e1:-q.2.1=c.2.1*g) (e2:-q.2.2.1=c.2.2.1*g) (e3:-q.2.2.2.1=c.2.2.2.1*g):dM (qmI c a)=dM (qrT q a):=by
 have f1:q.2.1=-(c.2.1*g):=by omega
 have f2:q.2.2.1=-(c.2.2.1*g):=by omega
 have f3:q.2.2.2.1=-(c.2.2.2.1*g):=by omega
 refine PD (u:=1) (v:=g) (by decide) hg fun j hj=>?_
 match j,hj with
 | 0,_=>show g*(c.1*a.1-c.2.1*a.2.1-c.2.2.1*a.2.2.1-c.2.2.2.1*a.2.2.2.1)=1*qrI q a 0;simp only[qrI];rw[e0,f1,f2,f3];clear e0 e1 e2 e3 f1 f2 f3;grind
 | 1,_=>show g*(c.1*a.2.1+c.2.1*a.1+c.2.2.1*a.2.2.2.1-c.2.2.2.1*a.2.2.1)=1*qrI q a 1;simp only[qrI];rw[e0,f1,f2,f3];clear e0 e1 e2 e3 f1 f2 f3;grind
 | 2,_=>show g*(c.1*a.2.2.1-c.2.1*a.2.2.2.1+c.2.2.1*a.1+c.2.2.2.1*a.2.1)=1*qrI q a 2;simp only[qrI];rw[e0,f1,f2,f3];clear e0 e1 e2 e3 f1 f2 f3;grind
 | 3,_=>show g*(c.1*a.2.2.2.1+c.2.1*a.2.2.1-c.2.2.1*a.2.1+c.2.2.2.1*a.1)=1*qrI q a 3;simp only[qrI];rw[e0,f1,f2,f3];clear e0 e1 e2 e3 f1 f2 f3;grind
theorem b9m {q c:aT} {g:Int} (hg:g≠0) (e0:q.1=c.1*g) (e1:-q.2.1=c.2.1*g) (e2:-q.2.2.1=c.2.2.1*g) (e3:-q.2.2.2.1=c.2.2.2.1*g) {i j:Nat} (hi:i<3) (hj:j<3):qE c i j=qE q j i:=by
 have f1:q.2.1=-(c.2.1*g):=by omega
 have f2:q.2.2.1=-(c.2.2.1*g):=by omega
 have f3:q.2.2.2.1=-(c.2.2.2.1*g):=by omega
 have n:qN q.1 q.2.1 q.2.2.1 q.2.2.2.1=g*g*qN c.1 c.2.1 c.2.2.1 c.2.2.2.1:=by rw[e0,f1,f2,f3];unfold qN;clear e0 e1 e2 e3 f1 f2 f3;grind
 have m:qM q.1 q.2.1 q.2.2.1 q.2.2.2.1 j i=g*g*qM c.1 c.2.1 c.2.2.1 c.2.2.2.1 i j:=by rw[e0,f1,f2,f3];clear e0 e1 e2 e3 f1 f2 f3 n;rcases three hi with rfl|rfl|rfl<;>rcases three hj with rfl|rfl|rfl<;>simp only[qM]<;>grind
 unfold qE qR;rw[n,m,Rat.divInt_mul_left (Dp hg hg)]
theorem b2B {m:MQ} {f:Mt} (hm:isM m 3 3) (he:∀ i,i<3->∀ j,j<3->ent m i j=f i j) (d:LQ') {i:Nat} (hi:i<3):lv (mvL m d) i=f i 0*lv d 0+f i 1*lv d 1+f i 2*lv d 2:=by unfold mvL;rw[hm.len,hm.wd];rw[show lv ((List.range 3).map (mv 3 (ent m) (lv d))) i=mv 3 (ent m) (lv d) i from iL hi];unfold mv;rw[sm3,he i hi 0 (by omega),he i hi 1 (by omega),he i hi 2 (by omega)]
theorem c9i {q c:aT} {g:Int} (hg:g≠0) (e0:q.1=c.1*g) (e1:-q.2.1=c.2.1*g) (e2:-q.2.2.1=c.2.2.1*g) (e3:-q.2.2.2.1=c.2.2.2.1*g) (d:LQ') {i:Nat} (hi:i<3):lv (mvL (qMx c) d) i=trV (qE q) (lv d) i:=by rw[b2B (f:=qE c) (q33 c) (fun i hi j hj=>by rw[CO];exact eF hi hj) d hi,b9m hg e0 e1 e2 e3 hi (j:=0) (by omega),b9m hg e0 e1 e2 e3 hi (j:=1) (by omega),b9m hg e0 e1 e2 e3 hi (j:=2) (by omega)];rfl
theorem a7r {u:LQ'} {x:MQ} {l:List Int} {s r:Rat} {t:aT} (hu:∀ i,i<3->lv u i=s*uR x i) (hl:∀ i,i<3->aH (l.getD i 0)=r*uR x i) (hs:0<s*r) (hx:0<axL x):QE u t (t,l,())=true:=by
 have bl:∀ i,i<3->lv (bsQ l 3) i=r*uR x i:=fun i hi=>by rw[<-hl i hi];exact iL hi
 have cr:∀ i,i<3->lv (mvL (kW u) (bsQ l 3)) i=0:=fun i hi=>by rw[b2B (f:=crE (lv u)) (nG u) (fun i hi j hj=>by rw[EC];exact eF hi hj) _ hi,bl 0 (by omega),bl 1 (by omega),bl 2 (by omega)];have h0:=hu 0 (by omega);have h1:=hu 1 (by omega);have h2:=hu 2 (by omega);clear bl hu hl;rcases three hi with rfl|rfl|rfl<;>simp only[crE,h0,h1,h2]<;>clear h0 h1 h2<;>grind
 have dp:0<nJ u (bsQ l 3) 3:=by unfold nJ;rw[sm3,bl 0 (by omega),bl 1 (by omega),bl 2 (by omega),hu 0 (by omega),hu 1 (by omega),hu 2 (by omega)];have p:=Rat.mul_pos hs hx;rw[a5G] at p;unfold wwS at p;clear bl hu hl cr;grind
 show (decide (t=t)&&decide (lv (mvL (kW u) (bsQ l 3)) 0=0)&&decide (lv (mvL (kW u) (bsQ l 3)) 1=0)&&decide (lv (mvL (kW u) (bsQ l 3)) 2=0)&&decide (0<nJ u (bsQ l 3) 3))=true;rw[jg rfl,jg (cr 0 (by omega)),jg (cr 1 (by omega)),jg (cr 2 (by omega)),jg dp];rfl
theorem b6I {u:LQ'} {x:MQ} {s:Rat} {k:Nat} (hk:k<2) (hs:s≠0) (hu:∀ i,i<3->lv u i=s*uR x i) (hx:0<axL x):(poL x 2).any (QE u (omT (dcM x k)).1)=true:=by
 have c1:((1:Int):Rat)=1:=Rat.intCast_one;have mem:∀ p ∈ poE x k,p ∈ poL x 2:=fun p hp=>Df.2 ⟨_,jq.2 ⟨k,oq.2 hk,rfl⟩,hp⟩;by_cases hp:0<s
 ·refine yx.2 ⟨((omT (dcM x k)).1,c6z (axU x),()),mem _ (je ..),a7r hu (r:=1) (fun i hi=>?_) (by grind) hx⟩;rw[Rat.one_mul];rcases three hi with rfl|rfl|rfl<;>rfl
 ·refine yx.2 ⟨((omT (dcM x k)).1,negL (axU x),()),mem _ (jd _ (je ..)),a7r hu (r:=-1) (fun i hi=>?_) (by grind) hx⟩;have e:∀ n:Int,aH (-n)=-1*aH n:=fun n=>by rw[show aH (-n)=-aH n from Rat.intCast_neg n];grind
  rcases three hi with rfl|rfl|rfl<;>exact e _
theorem c0B {x:MQ} (hx:dcQ x):∀ p ∈ poL x 2,a1s p:=fun p hp=>by
 obtain⟨l,hl,hp⟩:=Df.1 hp;obtain⟨k,_,rfl⟩:=jq.1 hl;have sz:=SE hx.ax;have z:∀ i,isz ((axU x).getD i 0)<=15000:=fun i=>by
  by_cases h:i<(axU x).length
  ·exact au (cO sz h) (by omega)
  ·rw[MO (by omega)];decide +kernel
 have zn:∀ i,isz (-((axU x).getD i 0))<=15000:=fun i=>by rw[kR];exact z i
 rcases jh.1 hp with rfl|hp
 ·refine⟨rfl,fun n hn=>?_⟩;rcases jh.1 hn with rfl|hn
  ·exact z 0
  ·rcases jh.1 hn with rfl|hn
   ·exact z 1
   ·rcases jh.1 hn with rfl|hn
    ·exact z 2
    ·exact nomatch hn
 ·rcases jh.1 hp with rfl|hp
  ·refine⟨rfl,fun n hn=>?_⟩;rcases jh.1 hn with rfl|hn
   ·exact zn 0
   ·rcases jh.1 hn with rfl|hn
    ·exact zn 1
    ·rcases jh.1 hn with rfl|hn
     ·exact zn 2
     ·exact nomatch hn
  ·exact nomatch hp
theorem a5H {a b:dQ} (h:iG a) (g:iG b):∀ q ∈ eH a b,rsz q<=2:=fun q hq=>by
 have z:∀ n:Int,isz n<=1->rsz (aH n)<=2:=fun n h=>au (wM n) (by omega);rcases jh.1 hq with rfl|hq
 ·exact z _ (g.1.1.d h.1.1).1
 ·rcases jh.1 hq with rfl|hq
  ·exact z _ (g.1.2.1.d h.1.2.1).1
  ·rcases jh.1 hq with rfl|hq
   ·exact z _ (g.1.2.2.d h.1.2.2).1
   ·exact nomatch hq
theorem c9j {a b:dQ} {c:aT} (h:iG a) (g:iG b) (hc:qOk c):uP9 (mvL (qMx c) (eH a b)):=by refine⟨by rw[a1o];exact(q33 c).len,fun q hq=>?_⟩;have:=b2z (q33 c) ((a2e hc).sz (aj _)) (a5H h g) rfl q hq;omega
def b4s:nC:=((0,0,0,0,PUnit.unit),0::List.replicate 2 0,PUnit.unit)
noncomputable def c5i:Ctr:=⟨[.list PL,.clo 32 (.pair (.ref (.list tQ)) (.pair (.ref jD) .unit))],[tI],fun x=>(show List (nC) from x.1).length<=1000000/\∀ q ∈ (show List (nC) from x.1),(fun p=>a1s p/\uP9 x.2.1.1) q,fun x=>(pI (QE x.2.1.1 x.2.1.2.1) (show List (nC) from x.1),())⟩
theorem b1S:aJ Tryz.prog 114 c5i:=by
 refine aN (nil0.ad a7q) ⟨[],[],[]⟩ Tryz.func114 rfl (by decide) (fun x=>[.inv {k:Nat // k<=(show List (nC) from x.1).length/\((show List (nC) from x.1).take k).any (QE x.2.1.1 x.2.1.2.1)=false} (fun k=>[(8,.val tI (k.1:Int))]) (fun k=>[]) (fun k=>(show List (nC) from x.1).length-k.1) ⟨0,by omega,rfl⟩ (fun _=>[])]) (fun x hp=>?_);obtain⟨x,c,u⟩:=x;change List (nC) at x;refine aP (let A₁:=(asT (List Rat) c.1);let A₀:=(QE A₁ c.2.1);(asT Int 0=0/\True)/\∀ (i:{ k:Nat // k<=List.length x/\List.any (List.take k x) A₀=false }),let A₂:=(List.getD x (aB (aA i)).toNat b4s);asT Bool true=true/\ifB (decide (aB (aA i)<aB x.length)) ((0<=aB (aA i)/\aB (aA i)<aB x.length/\(a1s A₂/\uP9 A₁)/\True)/\ifB (QE A₁ c.2.1 A₂) (True/\aB (aA i)=pI A₀ x/\True) (∃ (i':{ k:Nat // k<=List.length x/\List.any (List.take k x) A₀=false }),List.length x-aA i'<List.length x-aA i/\IntKind.wrap IntKind.i64 (aB (aA i)+1)=aB (aA i')/\True)) (True/\-1=pI A₀ x/\True)) (by kernel_rfl) ?_;try simp only[zP0]
 try dsimp only[aB,asT,aA,aC,Ty.den,Lf.den] at *
 try simp only[zP1]
 try simp only[zP2]
 have hp:x.length<=1000000/\∀ q ∈ x,(fun p=>a1s p/\uP9 c.1) q:=hp;obtain⟨hl,hb⟩:=hp;refine fun i=>⟨fun h1=>⟨(by first|exact⟨by omega,h1,cO hb (by omega)⟩|exact⟨by omega,h1⟩),fun h2=>?_,fun h2=>⟨⟨i.1+1,by omega,?_⟩,by simp only;omega,?_⟩⟩,fun h1=>?_⟩
 ·exact(xI (d:=b4s) (by omega) i.2.2 (by first|exact h2|rw[h2];rfl)).symm
 ·rw[jL (d:=b4s) (by omega),i.2.2,h2];rfl
 ·rw[aG (by omega) (by omega)];rfl
 ·have h3:=i.2.2;rw[jf (by omega)] at h3;exact(EG h3).symm
noncomputable def c4S:Ctr:=⟨[.list PL,.clo 32 (.pair (.ref (.list tQ)) (.pair (.ref jD) .unit))],[tB],fun x=>(show List (nC) from x.1).length<=1000000/\∀ q ∈ (show List (nC) from x.1),(fun p=>a1s p/\uP9 x.2.1.1) q,fun x=>((show List (nC) from x.1).any (QE x.2.1.1 x.2.1.2.1),())⟩
theorem b0t:aJ Tryz.prog 31 c4S:=by refine aN ((nil0.ad a7q).ad b1S) ⟨[],[],[]⟩ Tryz.func31 rfl (by decide) (fun x=>[]) (fun x hp=>?_);obtain⟨x,c,u⟩:=x;change List (nC) at x;refine aP (((List.length x<=1000000/\∀ (q:nC),q ∈ x->a1s q/\uP9 (asT (List Rat) c.1))/\True)/\True/\decide (pI (QE (asT (List Rat) c.1) c.2.1) x ≥ 0)=List.any x (QE (asT (List Rat) c.1) c.2.1)/\True) (by kernel_rfl) ?_;exact⟨⟨hp,trivial⟩,trivial,xJ _ _,trivial⟩
end Go.Proofs.YtbkocjmmbkifjaaGreat
