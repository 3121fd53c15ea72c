/-
  Lemmas for the theorem vrelative28_holds, part 31 of 35.
-/
import Derived.Test.YtbkocjmmbkifjaaGreatQr30
namespace Go.Proofs.YtbkocjmmbkifjaaGreat
open Go Go.RowKit
theorem Fa:type_of% @Int.fdiv_mul_cancel:=@Int.fdiv_mul_cancel
set_option maxRecDepth 100000
set_option maxHeartbeats 4000000
set_option linter.unusedVariables false
set_option linter.unusedSimpArgs false
def qZ (i j:Nat):Rat:=if i=j then 1 else 0
def tuE (m:MQ) (i j:Nat):Prop:=ent (mulM m (trM m)) i j=qZ i j
def wP (m:MQ):Bool:=((List.range 3).all fun i=>(List.range 3).all fun j=>decide (ent (mulM m (trM m)) i j=qZ i j))&&decide (jV (ent m)=1)
theorem xZ {m:MQ}:wP m=true↔(∀ i,i<3->∀ j,j<3->tuE m i j)/\jV (ent m)=1:=by
 unfold wP tuE;rw[ay,jc,zh];refine and_congr ⟨fun h i hi j hj=>?_,fun h i hi=>?_⟩ Iff.rfl
 ·exact qj (zh.1 (h i (oq.2 hi)) j (oq.2 hj))
 ·rw[zh];exact fun j hj=>jg (h i (oq.1 hi) j (oq.1 hj))
noncomputable def cTu:Ctr:=⟨[tM],[tB],fun x=>m33 150000 x.1,fun x=>(wP x.1,())⟩
theorem b7z:aJ Tryz.prog 193 cTu:=by
 refine aN (((((nil0.ad oG).ad a0R).ad VW).ad a6J).ad a2k) ⟨[10,12],[],[]⟩ Tryz.func193 rfl (by decide) (fun x=>[.inv {i:Nat // i<=(show MQ from x.1).length/\∀ a,a<i->∀ b,b<(show MQ from x.1).length->tuE (show MQ from x.1) a b} (fun i=>[(27,.val tI (i.1:Int))]) (fun i=>[]) (fun i=>(show MQ from x.1).length-i.1) ⟨0,ru _,fun a h=>absurd h (Bl a)⟩ (fun i=>[
 .inv {j:Nat // j<=(show MQ from x.1).length/\∀ b,b<j->tuE (show MQ from x.1) i.1 b} (fun j=>[(34,.val tI (j.1:Int))]) (fun j=>[]) (fun j=>(show MQ from x.1).length-j.1) ⟨0,ru _,fun a h=>absurd h (Bl a)⟩ (fun _=>[])])]) (fun x hp=>?_)
 obtain⟨m,u⟩:=x;change MQ at m;refine aP (let A₁:=(tab (wdM m) m.length (tr (ent m)));let A₀:=(tab m.length (wdM A₁) (mm A₁.length (ent m) (ent A₁)));let A₂:=(True/\false=wP m/\True);(okM m/\True)/\((okM m/\okM A₁/\wdM m=List.length A₁/\szM m 1000000/\szM A₁ 1000000)/\True)/\(asT Int 0=0/\True)/\∀ (i:{ i:Nat // i<=List.length m/\∀ (a:Nat),a<i->∀ (b:Nat),b<List.length m->tuE m a b }),let aK:=(List.getD A₀ (aB (aA i)).toNat (aC Rat));asT Bool true=true/\ifB (decide (aB (aA i)<aB A₀.length)) ((0<=aB (aA i)/\aB (aA i)<aB A₀.length/\True)/\(asT Int 0=0/\True)/\∀ (i_1:{ j:Nat // j<=List.length m/\∀ (b:Nat),b<j->tuE m (aA i) b }),let aO:=(∃ (i':{ j:Nat // j<=List.length m/\∀ (b:Nat),b<j->tuE m (aA i) b }),List.length m-aA i'<List.length m-aA i_1/\IntKind.wrap IntKind.i64 (aB (aA i_1)+1)=aB (aA i')/\True);let bC:=(List.getD aK (aB (aA i_1)).toNat 0);asT Bool true=true/\ifB (decide (aB (aA i_1)<aB aK.length)) ((0<=aB (aA i_1)/\aB (aA i_1)<aB aK.length/\True)/\ifB (aB (aA i)==aB (aA i_1)) ((aV 1/\s44 bC (aH 1)/\True)/\ifB (zO bC (aH 1) != 0) A₂ aO) ((aV 0/\s44 bC (aH 0)/\True)/\ifB (zO bC (aH 0) != 0) A₂ aO)) (∃ (i':{ i:Nat // i<=List.length m/\∀ (a:Nat),a<i->∀ (b:Nat),b<List.length m->tuE m a b }),List.length m-aA i'<List.length m-aA i/\IntKind.wrap IntKind.i64 (aB (aA i)+1)=aB (aA i')/\True)) ((m33 150000 m/\True)/\(aV 1/\s44 (jV (ent m)) (aH 1)/\True)/\True/\(zO (jV (ent m)) (aH 1)==0)=wP m/\True)) (by kernel_rfl) ?_;try simp only[zP0]
 try dsimp only[aB,asT,aA,aC,Ty.den,Lf.den] at *
 try simp only[zP1]
 try simp only[zP2]
 have hm:m33 150000 m:=hp;have ht:m33 150000 (trM m):=hm.tr;have hP:m33 1000000 (mulM m (trM m)):=(BR hm ht).mono (by omega);have eT:tab (wdM m) m.length (tr (ent m))=trM m:=rfl;rw[eT];have eP:tab m.length (wdM (trM m)) (mm (trM m).length (ent m) (ent (trM m)))=mulM m (trM m):=rfl;rw[eP];obtain⟨lP,rP⟩:=hP.rows;have o1:=(hm.mono (show 150000<=1000000 by omega)).ok (aj _);have o2:=(ht.mono (show 150000<=1000000 by omega)).ok (aj _);have q1:aH 1=1:=by decide +kernel
 have q0:aH 0=0:=by decide +kernel
 rw[q1,q0];have z1:rsz (1:Rat)<=400000000:=by decide +kernel
 have z0:rsz (0:Rat)<=400000000:=by decide +kernel
 have no:∀ i j,i<3->j<3->¬ tuE m i j->false=wP m:=fun i j hi hj h=>by symm;rw[<-Bool.not_eq_true];exact fun e=>h ((xZ.1 e).1 i hi j hj)
 have lm:=o1.2.2.2;simp only[JE];have nx:∀ (i j:Nat),j<3->(∀ b,b<j->tuE m i b)->tuE m i j->∀ b,b<j+1->tuE m i b:=fun i j hj h h4 b hb=>by
  rcases Eb.1 hb with hb|rfl
  ·exact h b hb
  ·exact h4
 refine⟨o1.1,⟨o1.1,o2.1,by rw[o1.2.2.1,o2.2.2.2],o1.2.1,o2.2.1⟩,fun i=>⟨fun h1=>⟨⟨by omega,h1⟩,fun j=>⟨fun h2=>?_,fun h2=>?_⟩⟩,fun h1=>?_⟩⟩
 ·have hi:i.1<3:=by omega
  rw[(rP i.1 hi).1] at h2;have hj:j.1<3:=by omega
  have b1:=(rP i.1 hi).2 j.1 hj;rw[(rP i.1 hi).1];have eE:(List.getD (mulM m (trM m)) i.1 []).getD j.1 0=ent (mulM m (trM m)) i.1 j.1:=rfl;rw[eE];rw[show lv (List.getD (mulM m (trM m)) i.1 []) j.1=ent (mulM m (trM m)) i.1 j.1 from rfl] at b1;refine⟨⟨by omega,by omega⟩,fun h3=>⟨⟨by decide,au b1 (by omega),z1⟩,fun h4=>no _ _ hi hj fun h5=>h4 (h5.trans (dn h3)),fun h4=>⟨⟨j.1+1,by omega,nx _ _ hj j.2.2 (h4.trans (dn h3).symm)⟩,by simp only;omega,by rw[aG (by omega) (by omega)];rfl⟩⟩,fun h3=>⟨⟨by decide,au b1 (by omega),z0⟩,fun h4=>no _ _ hi hj fun h5=>h4 (h5.trans (bn h3)),fun h4=>⟨⟨j.1+1,by omega,nx _ _ hj j.2.2 (h4.trans (bn h3).symm)⟩,by simp only;omega,by rw[aG (by omega) (by omega)];rfl⟩⟩⟩
 ·have hi:i.1<3:=by omega
  rw[(rP i.1 hi).1] at h2;refine⟨⟨i.1+1,by omega,fun a ha b hb=>?_⟩,by simp only;omega,by rw[aG (by omega) (by omega)];rfl⟩;rcases Eb.1 ha with ha|rfl
  ·exact i.2.2 a ha b hb
  ·exact j.2.2 b (by omega)
 ·refine⟨hm,⟨by decide,au (a5Y hm) (by omega),z1⟩,?_⟩;have al:∀ a,a<3->∀ b,b<3->tuE m a b:=fun a ha b hb=>i.2.2 a (by omega) b (by omega);by_cases hd:jV (ent m)=1
  ·rw[(xZ.2 ⟨al,hd⟩),(JE _ _).2 hd];rfl
  ·have:wP m=false:=by rw[<-Bool.not_eq_true];exact fun e=>hd (xZ.1 e).2
   rw[this,Af];exact fun e=>hd ((JE _ _).1 e)
def at3 (i:Int):Prop:=0<=i/\i<3
noncomputable def cPl (g:Rat->Rat->Rat):Ctr:=⟨[tI,tI,.ref tM],[tQ],fun x=>at3 x.1/\at3 x.2.1/\m33 150000 x.2.2.1,fun x=>(g (ent x.2.2.1 x.1.toNat x.2.1.toNat) (ent x.2.2.1 x.2.1.toNat x.1.toNat),())⟩
theorem b6H:aJ Tryz.prog 195 (cPl (·+·)):=by
 refine aN (nil0.ad wB) ⟨[5],[],[]⟩ Tryz.func195 rfl (by decide) (fun x=>[]) (fun x hp=>?_);obtain⟨i,j,m,u⟩:=x;change Int at i;change Int at j;change MQ at m;refine aP ((0<=i/\i<aB m.length/\0<=j/\j<aB (List.getD m i.toNat (aC Rat)).length/\0<=j/\j<aB m.length/\0<=i/\i<aB (List.getD m j.toNat (aC Rat)).length/\s44 (List.getD (List.getD m i.toNat (aC Rat)) j.toNat 0) (List.getD (List.getD m j.toNat (aC Rat)) i.toNat 0)/\True)/\True/\List.getD (List.getD m i.toNat (aC Rat)) j.toNat 0+List.getD (List.getD m j.toNat (aC Rat)) i.toNat 0=ent m i.toNat j.toNat+ent m j.toNat i.toNat/\True) (by kernel_rfl) ?_;try simp only[zP0]
 try dsimp only[aB,asT,aA,aC,Ty.den,Lf.den] at *
 try simp only[zP1]
 try simp only[zP2]
 obtain⟨h1,h2,h3⟩:at3 i/\at3 j/\m33 150000 m:=hp;obtain⟨l3,hr⟩:=h3.rows;obtain⟨i,rfl⟩:∃ n:Nat,i=n:=⟨i.toNat,by unfold at3 at h1;omega⟩;obtain⟨j,rfl⟩:∃ n:Nat,j=n:=⟨j.toNat,by unfold at3 at h2;omega⟩;simp only[Int.toNat_natCast];have hi:i<3:=by unfold at3 at h1;omega
 have hj:j<3:=by unfold at3 at h2;omega
 have b1:=(hr i hi).2 j hj;have b2:=(hr j hj).2 i hi;rw[l3,(hr i hi).1,(hr j hj).1];exact⟨by omega,by omega,by omega,by omega,by omega,by omega,by omega,by omega,au b1 (by omega),au b2 (by omega)⟩
theorem b5U:aJ Tryz.prog 196 (cPl (·-·)):=by
 refine aN (nil0.ad JR) ⟨[5],[],[]⟩ Tryz.func196 rfl (by decide) (fun x=>[]) (fun x hp=>?_);obtain⟨i,j,m,u⟩:=x;change Int at i;change Int at j;change MQ at m;refine aP ((0<=i/\i<aB m.length/\0<=j/\j<aB (List.getD m i.toNat (aC Rat)).length/\0<=j/\j<aB m.length/\0<=i/\i<aB (List.getD m j.toNat (aC Rat)).length/\s44 (List.getD (List.getD m i.toNat (aC Rat)) j.toNat 0) (List.getD (List.getD m j.toNat (aC Rat)) i.toNat 0)/\True)/\True/\List.getD (List.getD m i.toNat (aC Rat)) j.toNat 0-List.getD (List.getD m j.toNat (aC Rat)) i.toNat 0=ent m i.toNat j.toNat-ent m j.toNat i.toNat/\True) (by kernel_rfl) ?_;try simp only[zP0]
 try dsimp only[aB,asT,aA,aC,Ty.den,Lf.den] at *
 try simp only[zP1]
 try simp only[zP2]
 obtain⟨h1,h2,h3⟩:at3 i/\at3 j/\m33 150000 m:=hp;obtain⟨l3,hr⟩:=h3.rows;obtain⟨i,rfl⟩:∃ n:Nat,i=n:=⟨i.toNat,by unfold at3 at h1;omega⟩;obtain⟨j,rfl⟩:∃ n:Nat,j=n:=⟨j.toNat,by unfold at3 at h2;omega⟩;simp only[Int.toNat_natCast];have hi:i<3:=by unfold at3 at h1;omega
 have hj:j<3:=by unfold at3 at h2;omega
 have b1:=(hr i hi).2 j hj;have b2:=(hr j hj).2 i hi;rw[l3,(hr i hi).1,(hr j hj).1];exact⟨by omega,by omega,by omega,by omega,by omega,by omega,by omega,by omega,au b1 (by omega),au b2 (by omega)⟩
def omS (s:List Int) (e:Mt):Nat->Rat
 | 0=>((1:Int):Rat)
 | k+1=>omS s e k+((s.getD k 0:Int):Rat)*e k k
theorem sg1 {n:Int} (h:n=1\/n=-1):rsz (aH n)<=2:=by rcases h with rfl|rfl<;>decide +kernel
theorem a4I {s:List Int} {m:MQ} (hs:∀ k,k<3->(s.getD k 0=1\/s.getD k 0=-1)) (hm:m33 150000 m):∀ k,k<=3->rsz (omS s (ent m) k)<=k*150010+2
 | 0,_=>by show rsz ((1:Int):Rat)<=_;exact au (sg1 (.inl rfl)) (by omega)
 | k+1,hk=>by have h:=a4I hs hm k (by omega);have b:=hm.2 k (by rw[hm.1.len];omega) k (by rw[hm.1.wd];omega);have c:=sg1 (hs k (by omega));have d:=fC (aH (s.getD k 0)) (ent m k k);have e:=oD (omS s (ent m) k) (aH (s.getD k 0)*ent m k k);show rsz (omS s (ent m) k+aH (s.getD k 0)*ent m k k)<=_;omega
noncomputable def cSu:Ctr:=⟨[.arr 3 tI,.ref tM],[tQ],fun x=>(show List Int from x.1).length=3/\(∀ k,k<3->((show List Int from x.1).getD k 0=1\/(show List Int from x.1).getD k 0=-1))/\m33 150000 x.2.1,fun x=>(omS x.1 (ent x.2.1) 3,())⟩
theorem b7v:aJ Tryz.prog 194 cSu:=by
 refine aN (((nil0.ad oG).ad wB).ad rM) ⟨[3,4],[],[]⟩ Tryz.func194 rfl (by decide) (fun x=>[.inv {k:Nat // k<=3} (fun k=>[(9,.val tI (k.1:Int))]) (fun k=>[(3,.box [⟨tR,bP⟩]),(4,.box [⟨tQ,omS x.1 (ent x.2.1) k.1⟩])]) (fun k=>3-k.1) ⟨0,by omega⟩ (fun _=>[])]) (fun x hp=>?_);obtain⟨s,m,u⟩:=x;change List Int at s;change MQ at m;refine aP ((aV 1/\True)/\(asT Int 0=0/\asT aI bP=bP/\aH 1=omS s (ent m) 0/\True)/\∀ (i:{ k:Nat // k<=3 }),let A₀:=(aB (aA i)).toNat;let A₁:=(List.getD m A₀ (aC Rat));asT Bool true=true/\ifB (decide (aB (aA i)<3)) ((0<=aB (aA i)/\aB (aA i)<3/\True)/\(aV (List.getD s A₀ 0)/\0<=aB (aA i)/\aB (aA i)<aB m.length/\0<=aB (aA i)/\aB (aA i)<aB A₁.length/\s44 (aH (List.getD s A₀ 0)) (List.getD A₁ A₀ 0)/\s44 (omS s (ent m) (aA i)) (aH (List.getD s A₀ 0)*List.getD A₁ A₀ 0)/\True)/\∃ (i':{ k:Nat // k<=3 }),3-aA i'<3-aA i/\IntKind.wrap IntKind.i64 (aB (aA i)+1)=aB (aA i')/\asT aI bP=bP/\omS s (ent m) (aA i)+aH (List.getD s A₀ 0)*List.getD A₁ A₀ 0=omS s (ent m) (aA i')/\True) (True/\omS s (ent m) (aA i)=omS s (ent m) 3/\True)) (by kernel_rfl) ?_;try simp only[zP0]
 try dsimp only[aB,asT,aA,aC,Ty.den,Lf.den] at *
 try simp only[zP1]
 try simp only[zP2]
 obtain⟨hl,hs,hm⟩:s.length=3/\(∀ k,k<3->(s.getD k 0=1\/s.getD k 0=-1))/\m33 150000 m:=hp;obtain⟨l3,hr⟩:=hm.rows;have r3:=a4I hs hm;refine⟨by decide,rfl,fun i=>⟨fun h1=>?_,fun h1=>?_⟩⟩
 ·have hi:i.1<3:=by omega
  have b1:rsz ((List.getD m i.1 []).getD i.1 0)<=150000:=(hr i.1 hi).2 i.1 hi;have b2:=sg1 (hs i.1 hi);have b3:=r3 i.1 (by omega);have b4:=fC (aH (s.getD i.1 0)) ((List.getD m i.1 []).getD i.1 0);have w1:aV (s.getD i.1 0):=by rcases hs i.1 hi with e|e<;>rw[e]<;>decide
  rw[l3,(hr i.1 hi).1];exact⟨⟨by omega,by omega⟩,⟨w1,by omega,by omega,by omega,by omega,⟨by omega,by omega⟩,⟨by omega,by omega⟩⟩,⟨i.1+1,by omega⟩,by simp only;omega,by rw[aG (by omega) (by omega)];rfl,rfl⟩
 ·rw[show i.1=3 by have:=i.2;omega]
def omE (e:Mt):Nat->LQ'
 | 0=>[omS [1,1,1] e 3,e 2 1-e 1 2,e 0 2-e 2 0,e 1 0-e 0 1]
 | 1=>[e 2 1-e 1 2,omS [1,-1,-1] e 3,e 0 1+e 1 0,e 0 2+e 2 0]
 | 2=>[e 0 2-e 2 0,e 0 1+e 1 0,omS [-1,1,-1] e 3,e 1 2+e 2 1]
 | _=>[e 1 0-e 0 1,e 0 2+e 2 0,e 1 2+e 2 1,omS [-1,-1,1] e 3]
def omZ (e:Mt) (k:Nat):Bool:=nzB (fun j=>(omE e k).getD j 0)
def omP (e:Mt) (k:Nat):QcV:=dM (clX (fun j=>(omE e k).getD j 0))
def omF (e:Mt):QcV:=if omZ e 0=true then omP e 0 else if omZ e 1=true then omP e 1 else if omZ e 2=true then omP e 2 else if omZ e 3=true then omP e 3 else ((0,0,0,0,()),15,())
theorem c0w {m:MQ} (hm:m33 150000 m):∀ k j,rsz ((omE (ent m) k).getD j 0)<=50000000:=fun k j=>by
 have a:∀ i j,i<3->j<3->rsz (ent m i j)<=150000:=fun i j hi hj=>hm.2 i (by rw[hm.1.len];exact hi) j (by rw[hm.1.wd];exact hj);have p:∀ i j k l,i<3->j<3->k<3->l<3->rsz (ent m i j+ent m k l)<=50000000/\rsz (ent m i j-ent m k l)<=50000000:=fun i j k l h1 h2 h3 h4=>by have:=a i j h1 h2;have:=a k l h3 h4;have:=oD (ent m i j) (ent m k l);have:=CZ (ent m i j) (ent m k l);exact⟨by omega,by omega⟩
 have q:∀ s:List Int,(∀ k,k<3->(s.getD k 0=1\/s.getD k 0=-1))->rsz (omS s (ent m) 3)<=50000000:=fun s hs=>au (a4I hs hm 3 (by omega)) (by omega);have z:rsz (0:Rat)<=50000000:=by decide +kernel
 match k,j with
 | 0,0=>exact q _ (by decide)
 | 0,1=>exact(p 2 1 1 2 (by omega) (by omega) (by omega) (by omega)).2
 | 0,2=>exact(p 0 2 2 0 (by omega) (by omega) (by omega) (by omega)).2
 | 0,3=>exact(p 1 0 0 1 (by omega) (by omega) (by omega) (by omega)).2
 | 1,0=>exact(p 2 1 1 2 (by omega) (by omega) (by omega) (by omega)).2
 | 1,1=>exact q _ (by decide)
 | 1,2=>exact(p 0 1 1 0 (by omega) (by omega) (by omega) (by omega)).1
 | 1,3=>exact(p 0 2 2 0 (by omega) (by omega) (by omega) (by omega)).1
 | 2,0=>exact(p 0 2 2 0 (by omega) (by omega) (by omega) (by omega)).2
 | 2,1=>exact(p 0 1 1 0 (by omega) (by omega) (by omega) (by omega)).1
 | 2,2=>exact q _ (by decide)
 | 2,3=>exact(p 1 2 2 1 (by omega) (by omega) (by omega) (by omega)).1
 | _+3,0=>exact(p 1 0 0 1 (by omega) (by omega) (by omega) (by omega)).2
 | _+3,1=>exact(p 0 2 2 0 (by omega) (by omega) (by omega) (by omega)).1
 | _+3,2=>exact(p 1 2 2 1 (by omega) (by omega) (by omega) (by omega)).1
 | _+3,3=>exact q _ (by decide)
 | 0,_+4=>exact z
 | 1,_+4=>exact z
 | 2,_+4=>exact z
 | _+3,_+4=>exact z
theorem mX {b:Bool} (h:b=false):¬ b=true:=by rw[h];decide
def omT (m:MQ):QcV:=if wP m=true then omF (ent m) else ((0,0,0,0,()),15,())
noncomputable def cOm:Ctr:=⟨[tM],[jD,tI],fun x=>m33 150000 x.1,fun x=>omT x.1⟩
theorem b6B:aJ Tryz.prog 98 cOm:=by
 refine aN (((((((nil0.ad qX).ad b7z).ad b6H).ad b5U).ad b7v).ad b6l).ad b4M) ⟨[2,8],[],[]⟩ Tryz.func98 rfl (by decide) (fun x=>[.turns 5 [74] [2] []]) (fun x hp=>?_);obtain⟨m,u⟩:=x;change MQ at m;refine aP (let bC:=(List.map (fun(xs:Ty.den (Ty.list (Ty.lf Lf.rat)))=>List.map (fun(x:Ty.den (Ty.lf Lf.rat))=>dK x) xs) m);let aO:=(bif aB m.length != 3 then true else nI bC != 0);let bI:=(asT Int 0=0/\asT Int 0=0/\asT Int 0=0/\asT Int 0=0/\True);let fD:=((aB m.length != 3)==false);let gB:=((aO==false)=true->(aO==false)=true/\True);let fE:=(at3 0/\at3 2/\m33 150000 m);let iU:=(1::-1::-1::aC Int);let A₀:=((ent m 2 1-ent m 1 2)::omS iU (ent m) 3::(ent m 0 1+ent m 1 0)::(ent m 0 2+ent m 2 0)::aC Rat);let bU:=(dM (clX fun(j:Nat)=>List.getD A₀ j 0));let jZ:=(-1::1::-1::aC Int);let A₁:=((ent m 0 2-ent m 2 0)::(ent m 0 1+ent m 1 0)::omS jZ (ent m) 3::(ent m 1 2+ent m 2 1)::aC Rat);let cZ:=(dM (clX fun(j:Nat)=>List.getD A₁ j 0));let lM:=(-1::-1::1::aC Int);let A₂:=((ent m 1 0-ent m 0 1)::(ent m 0 2+ent m 2 0)::(ent m 1 2+ent m 2 1)::omS lM (ent m) 3::aC Rat);let dG:=(dM (clX fun(j:Nat)=>List.getD A₂ j 0));let gQ:=(1::1::1::aC Int);let aK:=(omS gQ (ent m) 3::(ent m 2 1-ent m 1 2)::(ent m 0 2-ent m 2 0)::(ent m 1 0-ent m 0 1)::aC Rat);let bH:=(dM (clX fun(j:Nat)=>List.getD aK j 0));let fB:=(aK::A₀::A₁::A₂::aC (List Rat)).length;let oH:=bH.1.2;let oI:=bU.1.2;let C₁:=cZ.1.2;let C₂:=dG.1.2;let C₃:=(at3 2/\at3 1/\m33 150000 m);let kC:=(at3 1/\at3 0/\m33 150000 m);let iE:=(at3 0/\at3 1/\m33 150000 m);let nH:=(at3 1/\at3 2/\m33 150000 m);((fD=true->fD=true/\fV (fun(x:Ty.den (Ty.list (Ty.lf Lf.rat)))=>dH (fV (fun(x:Ty.den (Ty.lf Lf.rat))=>dH (aC Cd)) x::aC Cd)) m/\rH bC/\True)/\(fD=true->fD=true/\True)/\((aB m.length != 3)=false->fD=true)/\((aO==false)=true->(aO==false)=true/\asT Int 0<=0/\0<aB m.length/\True)/\gB/\gB/\gB/\(aO=false->(aO==false)=true)/\True)/\ifB (bif bif aB m.length != 3 then true else nI bC != 0 then true else aB (List.getD m 0 (aC Rat)).length != 3) (True/\(0,0,0,0,())=Prod.fst (omT m)/\True/\1=Prod.fst (omT m).2/\True) ((m33 150000 m/\True)/\ifB (!wP m) (True/\(0,0,0,0,())=Prod.fst (omT m)/\True/\15=Prod.fst (omT m).2/\True) (((List.length gQ=3/\(∀ (k:Nat),k<3->List.getD gQ k 0=1\/List.getD gQ k 0=-1)/\m33 150000 m)/\C₃/\fE/\kC/\C₃/\(List.length iU=3/\(∀ (k:Nat),k<3->List.getD iU k 0=1\/List.getD iU k 0=-1)/\m33 150000 m)/\iE/\fE/\fE/\iE/\(List.length jZ=3/\(∀ (k:Nat),k<3->List.getD jZ k 0=1\/List.getD jZ k 0=-1)/\m33 150000 m)/\nH/\kC/\fE/\nH/\(List.length lM=3/\(∀ (k:Nat),k<3->List.getD lM k 0=1\/List.getD lM k 0=-1)/\m33 150000 m)/\True)/\(asT Int 0<=0/\0<aB fB/\True)/\((List.length aK=4/\∀ (j:Nat),j<4->rsz (List.getD aK j 0)<=400000000)/\True)/\ifB (nzB fun(j:Nat)=>List.getD aK j 0) (((List.length aK=4/\(∀ (j:Nat),j<4->rsz (List.getD aK j 0)<=50000000)/\∃ (j:Nat),j<4/\List.getD aK j 0≠0)/\True)/\True/\(Prod.fst bH.1,Prod.fst oH,Prod.fst oH.2,Prod.fst oH.2.2,())=Prod.fst (omT m)/\True/\Prod.fst bH.2=Prod.fst (omT m).2/\True) (bI/\asT Bool true=true/\(asT Int 0<=1/\1<aB fB/\True)/\((List.length A₀=4/\∀ (j:Nat),j<4->rsz (List.getD A₀ j 0)<=400000000)/\True)/\ifB (nzB fun(j:Nat)=>List.getD A₀ j 0) (((List.length A₀=4/\(∀ (j:Nat),j<4->rsz (List.getD A₀ j 0)<=50000000)/\∃ (j:Nat),j<4/\List.getD A₀ j 0≠0)/\True)/\True/\(Prod.fst bU.1,Prod.fst oI,Prod.fst oI.2,Prod.fst oI.2.2,())=Prod.fst (omT m)/\True/\Prod.fst bU.2=Prod.fst (omT m).2/\True) (bI/\asT Bool true=true/\(asT Int 0<=2/\2<aB fB/\True)/\((List.length A₁=4/\∀ (j:Nat),j<4->rsz (List.getD A₁ j 0)<=400000000)/\True)/\ifB (nzB fun(j:Nat)=>List.getD A₁ j 0) (((List.length A₁=4/\(∀ (j:Nat),j<4->rsz (List.getD A₁ j 0)<=50000000)/\∃ (j:Nat),j<4/\List.getD A₁ j 0≠0)/\True)/\True/\(Prod.fst cZ.1,Prod.fst C₁,Prod.fst C₁.2,Prod.fst C₁.2.2,())=Prod.fst (omT m)/\True/\Prod.fst cZ.2=Prod.fst (omT m).2/\True) (bI/\asT Bool true=true/\(asT Int 0<=3/\3<aB fB/\True)/\((List.length A₂=4/\∀ (j:Nat),j<4->rsz (List.getD A₂ j 0)<=400000000)/\True)/\ifB (nzB fun(j:Nat)=>List.getD A₂ j 0) (((List.length A₂=4/\(∀ (j:Nat),j<4->rsz (List.getD A₂ j 0)<=50000000)/\∃ (j:Nat),j<4/\List.getD A₂ j 0≠0)/\True)/\True/\(Prod.fst dG.1,Prod.fst C₂,Prod.fst C₂.2,Prod.fst C₂.2.2,())=Prod.fst (omT m)/\True/\Prod.fst dG.2=Prod.fst (omT m).2/\True) (bI/\asT Bool true=true/\True/\(0,0,0,0,())=Prod.fst (omT m)/\True/\15=Prod.fst (omT m).2/\True))))))) (by kernel_rfl) ?_;try simp only[zP0]
 try dsimp only[aB,asT,aA,aC,Ty.den,Lf.den] at *
 try simp only[zP1]
 try simp only[zP2]
 have hm:m33 150000 m:=hp;have o1:=(hm.mono (show 150000<=1000000 by omega)).ok (aj _);obtain⟨l3,hr⟩:=hm.rows;have hc:nI (List.map (fun xs=>List.map (fun x=>dK x) xs) m)=0:=o1.1.chk;rw[hc,l3,(hr 0 (by omega)).1];have g0:[omS [1,1,1] (ent m) 3,ent m 2 1-ent m 1 2,ent m 0 2-ent m 2 0,ent m 1 0-ent m 0 1]=omE (ent m) 0:=rfl;have g1:[ent m 2 1-ent m 1 2,omS [1,-1,-1] (ent m) 3,ent m 0 1+ent m 1 0,ent m 0 2+ent m 2 0]=omE (ent m) 1:=rfl;have g2:[ent m 0 2-ent m 2 0,ent m 0 1+ent m 1 0,omS [-1,1,-1] (ent m) 3,ent m 1 2+ent m 2 1]=omE (ent m) 2:=rfl;have g3:[ent m 1 0-ent m 0 1,ent m 0 2+ent m 2 0,ent m 1 2+ent m 2 1,omS [-1,-1,1] (ent m) 3]=omE (ent m) 3:=rfl;rw[g0,g1,g2,g3];have b5:=c0w hm;have b4:∀ k j,rsz ((omE (ent m) k).getD j 0)<=400000000:=fun k j=>au (b5 k j) (by omega);have s1:∀ k,k<3->([1,1,1]:List Int).getD k 0=1\/([1,1,1]:List Int).getD k 0=-1:=by decide
 have s2:∀ k,k<3->([1,-1,-1]:List Int).getD k 0=1\/([1,-1,-1]:List Int).getD k 0=-1:=by decide
 have s3:∀ k,k<3->([-1,1,-1]:List Int).getD k 0=1\/([-1,1,-1]:List Int).getD k 0=-1:=by decide
 have s4:∀ k,k<3->([-1,-1,1]:List Int).getD k 0=1\/([-1,-1,1]:List Int).getD k 0=-1:=by decide
 have a0:at3 0:=⟨by omega,by omega⟩;have a1:at3 1:=⟨by omega,by omega⟩;have a2:at3 2:=⟨by omega,by omega⟩;have et:∀ k,omT m=omP (ent m) k->((omP (ent m) k).1.1,(omP (ent m) k).1.2.1,(omP (ent m) k).1.2.2.1,(omP (ent m) k).1.2.2.2.1,())=(omT m).1/\(omP (ent m) k).2.1=(omT m).2.1:=fun k h=>by rw[h];exact⟨rfl,rfl⟩
 refine⟨⟨fun _=>⟨rfl,rJ m,o1.1.short⟩,fun h=>⟨h,by omega,by omega⟩⟩,fun h=>?_,fun _=>⟨hm,fun hT=>?_,fun hT=>⟨⟨⟨s1,hm⟩,⟨a2,a1,hm⟩,⟨a0,a2,hm⟩,⟨a1,a0,hm⟩,⟨a2,a1,hm⟩,⟨s2,hm⟩,⟨a0,a1,hm⟩,⟨a0,a2,hm⟩,⟨a0,a2,hm⟩,⟨a0,a1,hm⟩,⟨s3,hm⟩,⟨a1,a2,hm⟩,⟨a1,a0,hm⟩,⟨a0,a2,hm⟩,⟨a1,a2,hm⟩,s4,hm⟩,⟨by omega,by omega⟩,fun j _=>b4 0 j,fun z0=>⟨⟨fun j _=>b5 0 j,yQ.1 z0⟩,et 0 ?_⟩,fun z0=>⟨⟨by omega,by omega⟩,fun j _=>b4 1 j,fun z1=>⟨⟨fun j _=>b5 1 j,yQ.1 z1⟩,et 1 ?_⟩,fun z1=>⟨⟨by omega,by omega⟩,fun j _=>b4 2 j,fun z2=>⟨⟨fun j _=>b5 2 j,yQ.1 z2⟩,et 2 ?_⟩,fun z2=>⟨⟨by omega,by omega⟩,fun j _=>b4 3 j,fun z3=>⟨⟨fun j _=>b5 3 j,yQ.1 z3⟩,et 3 ?_⟩,fun z3=>?_⟩⟩⟩⟩⟩⟩
 ·rcases h with(h|h)|h
  ·exact absurd rfl h
  ·exact absurd rfl h
  ·exact absurd rfl h
 ·rw[show omT m=((0,0,0,0,()),15,()) from bn (by rw[hT];decide)];exact⟨rfl,rfl⟩
 all_goals
  have oT:omT m=omF (ent m):=dn hT;rw[oT];unfold omF
 ·rw[dn (show omZ (ent m) 0=true from z0)]
 ·rw[bn (mX (show omZ (ent m) 0=false from z0)),dn (show omZ (ent m) 1=true from z1)]
 ·rw[bn (mX (show omZ (ent m) 0=false from z0)),bn (mX (show omZ (ent m) 1=false from z1)),dn (show omZ (ent m) 2=true from z2)]
 ·rw[bn (mX (show omZ (ent m) 0=false from z0)),bn (mX (show omZ (ent m) 1=false from z1)),bn (mX (show omZ (ent m) 2=false from z2)),dn (show omZ (ent m) 3=true from z3)]
 ·rw[bn (mX (show omZ (ent m) 0=false from z0)),bn (mX (show omZ (ent m) 1=false from z1)),bn (mX (show omZ (ent m) 2=false from z2)),bn (mX (show omZ (ent m) 3=false from z3))];exact⟨rfl,rfl⟩
def nz8 (q:Rat):Bool:=decide (q≠0)
def szB (q:Rat):Prop:=rsz q<=1000000
noncomputable def c7f:Ctr:=⟨[tQ],[tB],fun x=>szB x.1,fun x=>(nz8 x.1,())⟩
theorem a5F:aJ Tryz.prog 174 c7f:=by
 refine aN (nil0.ad tY) ⟨[],[],[]⟩ Tryz.func174 rfl (by decide) (fun x=>[]) (fun x hp=>?_);obtain⟨q,u⟩:=x;change Rat at q;refine aP ((rsz q<=1000000000/\True)/\True/\(sgn (Rat.num q) != 0)=nz8 q/\True) (by kernel_rfl) ?_;try simp only[zP0]
 try dsimp only[aB,asT,aA,aC,Ty.den,Lf.den] at *
 try simp only[zP1]
 try simp only[zP2]
 have hp:rsz q<=1000000:=hp;exact⟨by omega,b3J q⟩
noncomputable def c5g:Ctr:=⟨[.list tQ,.clo 174 .unit],[tI],fun x=>(show List (Rat) from x.1).length<=1000000/\∀ q ∈ (show List (Rat) from x.1),szB q,fun x=>(pI nz8 (show List (Rat) from x.1),())⟩
theorem b1Q:aJ Tryz.prog 211 c5g:=by
 refine aN (nil0.ad a5F) ⟨[],[],[]⟩ Tryz.func211 rfl (by decide) (fun x=>[.inv {k:Nat // k<=(show List (Rat) from x.1).length/\((show List (Rat) from x.1).take k).any nz8=false} (fun k=>[(8,.val tI (k.1:Int))]) (fun k=>[]) (fun k=>(show List (Rat) from x.1).length-k.1) ⟨0,by omega,rfl⟩ (fun _=>[])]) (fun x hp=>?_);obtain⟨x,c,u⟩:=x;change List (Rat) at x;change Unit at c;refine aP ((asT Int 0=0/\True)/\∀ (i:{ k:Nat // k<=List.length x/\List.any (List.take k x) nz8=false }),asT Bool true=true/\ifB (decide (aB (aA i)<aB x.length)) ((0<=aB (aA i)/\aB (aA i)<aB x.length/\szB (List.getD x (aB (aA i)).toNat 0)/\True)/\ifB (nz8 (List.getD x (aB (aA i)).toNat 0)) (True/\aB (aA i)=pI nz8 x/\True) (∃ (i':{ k:Nat // k<=List.length x/\List.any (List.take k x) nz8=false }),List.length x-aA i'<List.length x-aA i/\IntKind.wrap IntKind.i64 (aB (aA i)+1)=aB (aA i')/\True)) (True/\-1=pI nz8 x/\True)) (by kernel_rfl) ?_;try simp only[zP0]
 try dsimp only[aB,asT,aA,aC,Ty.den,Lf.den] at *
 try simp only[zP1]
 try simp only[zP2]
 have hp:x.length<=1000000/\∀ q ∈ x,szB q:=hp;obtain⟨hl,hb⟩:=hp;refine fun i=>⟨fun h1=>⟨(by first|exact⟨by omega,h1,cO hb (by omega)⟩|exact⟨by omega,h1⟩),fun h2=>?_,fun h2=>⟨⟨i.1+1,by omega,?_⟩,by simp only;omega,?_⟩⟩,fun h1=>?_⟩
 ·exact(xI (d:=0) (by omega) i.2.2 (by first|exact h2|rw[h2];rfl)).symm
 ·rw[jL (d:=0) (by omega),i.2.2,h2];rfl
 ·rw[aG (by omega) (by omega)];rfl
 ·have h3:=i.2.2;rw[jf (by omega)] at h3;exact(EG h3).symm
noncomputable def c4Q:Ctr:=⟨[.list tQ,.clo 174 .unit],[tB],fun x=>(show List (Rat) from x.1).length<=1000000/\∀ q ∈ (show List (Rat) from x.1),szB q,fun x=>((show List (Rat) from x.1).any nz8,())⟩
theorem b0r:aJ Tryz.prog 123 c4Q:=by refine aN ((nil0.ad a5F).ad b1Q) ⟨[],[],[]⟩ Tryz.func123 rfl (by decide) (fun x=>[]) (fun x hp=>?_);obtain⟨x,c,u⟩:=x;change List (Rat) at x;change Unit at c;refine aP (((List.length x<=1000000/\∀ (q:Rat),q ∈ x->szB q)/\True)/\True/\decide (pI nz8 x ≥ 0)=List.any x nz8/\True) (by kernel_rfl) ?_;exact⟨⟨hp,trivial⟩,trivial,xJ _ _,trivial⟩
def hlT (e:MQ):Rat:=Rat.divInt 1 2*trQ (gM e)
def hE (e:MQ) (i j:Nat):Rat:=if i=j then -ent (gM e) i j+hlT e else -ent (gM e) i j
def axC (e:MQ) (j:Nat):LQ':=(List.range 3).map fun i=>hE e i j
def axN (e:MQ) (j:Nat):Bool:=(axC e j).any nz8
def axJ (e:MQ):Nat:=if axN e 0=true then 0 else if axN e 1=true then 1 else 2
def axU (e:MQ):List Int:=mY (axC e (axJ e))
def sqI (u:List Int):Nat->Int
 | 0=>0
 | k+1=>sqI u k+u.getD k 0*u.getD k 0
def axL (e:MQ):Rat:=aH (sqI (axU e) 3)
def axP (e:MQ):Prop:=m33 100 e/\∃ j,j<3/\axN e j=true
theorem a3v {l:LQ'} {K:Nat} (h:vN l) (hK:∀ q ∈ l,rsz q<=K):∀ n ∈ mY l,isz n<=(l.length+1)*K+1:=fun n hn=>by
 obtain⟨_,j0,hj0,hx0⟩:=h.at
 have hK:∀ j,j<l.length->rsz (lv l j)<=K:=fun j hj=>cO hK hj;have e:(l.length+1)*K=l.length*K+K:=Aa _ _;have hN:∀ j,j<l.length->isz (lcN l j)<=(l.length+1)*K+1:=fun j hj=>au (JD (KF hK _ (aj _)) (kY hj) (hK j hj)) (by omega);obtain⟨j,hj,rfl⟩:=jq.1 hn;have hj:=oq.1 hj;exact a7g hj (CG hj0 (DZ (uD _ _) (kY hj0) hx0)) (hN j hj)
theorem WT {e:MQ} (he:m33 100 e):m33 700 (gM e):=(BR he he.tr).mono (by omega)
theorem b1z {e:MQ} (he:m33 100 e):rsz (hlT e)<=2200:=by
 have a:=VU (WT he);have b:rsz (Rat.divInt 1 2)<=10:=by decide +kernel
 have c:=fC (Rat.divInt 1 2) (trQ (gM e));unfold hlT;omega
theorem b8e {e:MQ} (he:m33 100 e) {i j:Nat} (hi:i<3) (hj:j<3):rsz (ent (gM e) i j)<=700:=(WT he).2 i (by rw[(WT he).1.len];exact hi) j (by rw[(WT he).1.wd];exact hj)
theorem c5P {e:MQ} (he:m33 100 e) {i j:Nat} (hi:i<3) (hj:j<3):rsz (hE e i j)<=3000:=by have a:=b8e he hi hj;have b:=b1z he;have c:=oD (-ent (gM e) i j) (hlT e);have d:=rU (ent (gM e) i j);unfold hE;split<;>omega
theorem DW (e:MQ) (j:Nat):(axC e j).length=3:=by unfold axC;rw[ny,jr]
theorem a4d {e:MQ} (he:m33 100 e) {j:Nat} (hj:j<3):∀ q ∈ axC e j,rsz q<=3000:=fun q hq=>by obtain⟨i,hi,rfl⟩:=jq.1 hq;exact c5P he (oq.1 hi) hj
theorem a0B {e:MQ} (he:m33 100 e) {j:Nat} (hj:j<3) (h:axN e j=true):vN (axC e j):=⟨by rw[DW];omega,fun q hq=>au (a4d he hj q hq) (by omega),by
 obtain⟨q,hq,h⟩:=yx.1 h;exact⟨q,hq,qj h⟩⟩
theorem a0C {e:MQ} {j:Nat} (hj:j<3) (h0:∀ k,k<j->axN e k=false) (h:axN e j=true):axJ e=j:=by
 unfold axJ
 match j,hj with
 | 0,_=>rw[dn h]
 | 1,_=>rw[bn (mX (h0 0 (by omega))),dn h]
 | 2,_=>rw[bn (mX (h0 0 (by omega))),bn (mX (h0 1 (by omega)))]
theorem axP.at {e:MQ} (h:axP e):axJ e<3/\axN e (axJ e)=true/\∀ k,k<axJ e->axN e k=false:=by
 obtain⟨j,hj,h⟩:=h.2;cases h0:axN e 0
 ·cases h1:axN e 1
  ·have hj2:j=2:=by
    match j,hj with
    | 0,_=>rw[h0] at h;cases h
    | 1,_=>rw[h1] at h;cases h
    | 2,_=>rfl
   subst hj2;have b:∀ k,k<2->axN e k=false:=fun k hk=>by
    match k,hk with
    | 0,_=>exact h0
    | 1,_=>exact h1
   rw[a0C (by omega) b h];exact⟨by omega,h,b⟩
  ·have b:∀ k,k<1->axN e k=false:=fun k hk=>by
    match k,hk with
    | 0,_=>exact h0
   rw[a0C (by omega) b h1];exact⟨by omega,h1,b⟩
 ·rw[a0C (by omega) (fun k hk=>absurd hk (Bl k)) h0];exact⟨by omega,h0,fun k hk=>absurd hk (Bl k)⟩
theorem IX (e:MQ):(axU e).length=3:=by unfold axU;rw[KW,DW]
theorem SE {e:MQ} (h:axP e):∀ n ∈ axU e,isz n<=12001:=fun n hn=>by
 obtain⟨h1,h2,_⟩:=h.at
 have:=a3v (a0B h.1 h1 h2) (a4d h.1 h1) n hn;rw[DW] at this;omega
theorem a5n {u:List Int} {K:Nat} (h:∀ n ∈ u,isz n<=K):∀ k,k<=u.length->isz (sqI u k)<=2*K+k
 | 0,_=>by show isz 0<=_;rw[KD];omega
 | k+1,hk=>by have a:=a5n h k (by omega);have b:isz (u.getD k 0)<=K:=cO h (by omega);have c:=iC (u.getD k 0) (u.getD k 0);have d:=yP (sqI u k) (u.getD k 0*u.getD k 0);show isz (sqI u k+u.getD k 0*u.getD k 0)<=_;omega
noncomputable def c7h:Ctr:=⟨[tM],[.list tZ,tQ],fun x=>axP x.1,fun x=>(axU x.1,axL x.1,())⟩
theorem b4A:aJ Tryz.prog 86 c7h:=by
 refine aN (((((((((((((nil0.ad wB).ad rM).ad PW).ad qB).ad a0U).ad JO).ad TV).ad VE).ad KU).ad LM).ad VX).ad b0r).ad a7j) ⟨[3,5,7,11,13,15],[],[]⟩ Tryz.func86 rfl (by decide) (fun x=>[.inv {j:Nat // j<=3/\∀ k,k<j->axN (show MQ from x.1) k=false} (fun j=>[(29,.val tI (j.1:Int))]) (fun j=>[(3,.box [⟨tR,bP⟩]),(7,.box [⟨tQ,hlT (show MQ from x.1)⟩])]) (fun j=>3-j.1) ⟨0,by omega,fun k h=>absurd h (Bl k)⟩ (fun j=>[
 .inv {k:Nat // k<=3} (fun i=>[(32,.val tI (i.1:Int)),(9,.own 51 0),(51,.any)]) (fun i=>[(3,.box [⟨tR,bP⟩]),(7,.box [⟨tQ,hlT (show MQ from x.1)⟩]),(51,.row 47 tQ ((List.range i.1).map fun i=>hE (show MQ from x.1) i j.1) 0)]) (fun i=>3-i.1) ⟨0,by omega⟩ (fun _=>[]),
 .inv {k:Nat // k<=3} (fun k=>[(62,.val tI (k.1:Int))]) (fun k=>[(3,.box [⟨tR,bP⟩]),(13,.box [⟨tZ,sqI (axU (show MQ from x.1)) k.1⟩])]) (fun k=>3-k.1) ⟨0,by omega⟩ (fun _=>[])])]) (fun x hp=>?_)
 obtain⟨e,u⟩:=x;change MQ at e;refine aP (let A₁:=(stk e.length (trM e)::aC (List (List Rat)));let A₀:=(stk e.length (iT e A₁));(okM e/\tJ e A₁/\True)/\((aV 1/\aV 2/\asT Int 2≠0)/\True)/\(m33 1000000 A₀/\s44 (Rat.divInt 1 2) (trQ A₀)/\True)/\(asT Int 0=0/\asT aI bP=bP/\Rat.divInt 1 2*trQ A₀=hlT e/\True)/\∀ (i:{ j:Nat // j<=3/\∀ (k:Nat),k<j->axN e k=false }),let A₂:=(fun(i_2:Nat)=>hE e i_2 (aA i));let aK:=(fun(i_3:Nat)=>hE e i_3 (aA i));let aO:=(aB (aA i)).toNat;asT Bool true=true/\ifB (decide (aB (aA i)<3)) ((asT Int 0=0/\(True/\asT (List Rat) (aC Rat)=aC Rat)/\asT aI bP=bP/\hlT e=hlT e/\(asT (List Rat) (aC Rat)=aC Rat/\0=0/\asT Bool true=true)/\True)/\∀ (i_1:{ k:Nat // k<=3 }),let bC:=(List.range (aA i_1));let bI:=(List.getD A₀ (aB (aA i_1)).toNat (aC Rat));let bH:=(mY (List.map aK bC));let bU:=(-List.getD bI aO 0+hlT e);asT Bool true=true/\ifB (decide (aB (aA i_1)<3)) ((0<=aB (aA i_1)/\aB (aA i_1)<aB A₀.length/\0<=aB (aA i)/\aB (aA i)<aB bI.length/\s4 (List.getD bI aO 0)/\True)/\ifB (aB (aA i_1)==aB (aA i)) ((s44 (-List.getD bI aO 0) (hlT e)/\True)/\(List.length (List.map A₂ bC)+List.length (bU::aC Rat)<=1000000000/\True)/\∃ (i':{ k:Nat // k<=3 }),3-aA i'<3-aA i_1/\IntKind.wrap IntKind.i64 (aB (aA i_1)+1)=aB (aA i')/\asT aI bP=bP/\hlT e=hlT e/\List.map A₂ bC++bU::aC Rat=List.map A₂ (List.range (aA i'))/\True) ((List.length (List.map A₂ bC)+List.length (-List.getD bI aO 0::aC Rat)<=1000000000/\True)/\∃ (i':{ k:Nat // k<=3 }),3-aA i'<3-aA i_1/\IntKind.wrap IntKind.i64 (aB (aA i_1)+1)=aB (aA i')/\asT aI bP=bP/\hlT e=hlT e/\List.map A₂ bC++-List.getD bI aO 0::aC Rat=List.map A₂ (List.range (aA i'))/\True)) (((List.length (List.map A₂ bC)<=1000000/\∀ (q:Rat),q ∈ List.map A₂ bC->szB q)/\True)/\ifB (!List.any (List.map A₂ bC) nz8) (∃ (i':{ j:Nat // j<=3/\∀ (k:Nat),k<j->axN e k=false }),3-aA i'<3-aA i/\IntKind.wrap IntKind.i64 (aB (aA i)+1)=aB (aA i')/\asT aI bP=bP/\hlT e=hlT e/\True) ((vN (List.map A₂ bC)/\True)/\(aV 0/\True)/\(asT Int 0=0/\asT aI bP=bP/\0=sqI (axU e) 0/\True)/\∀ (i_2:{ k:Nat // k<=3 }),let cZ:=(aB (aA i_2)).toNat;let dG:=(sqI (axU e) (aA i_2));asT Bool true=true/\ifB (decide (aB (aA i_2)<aB bH.length)) ((0<=aB (aA i_2)/\aB (aA i_2)<aB bH.length/\True)/\((isz (List.getD bH cZ 0)<=1000000000/\isz (List.getD bH cZ 0)<=1000000000)/\(isz dG<=1000000000/\isz (List.getD bH cZ 0*List.getD bH cZ 0)<=1000000000)/\True)/\∃ (i':{ k:Nat // k<=3 }),3-aA i'<3-aA i_2/\IntKind.wrap IntKind.i64 (aB (aA i_2)+1)=aB (aA i')/\asT aI bP=bP/\sqI (axU e) (aA i_2)+List.getD bH cZ 0*List.getD bH cZ 0=sqI (axU e) (aA i')/\True) ((isz dG<=390000000/\True)/\True/\mY (List.map aK bC)=axU e/\True/\aH dG=axL e/\True)))) (True/\aC Int=axU e/\(asT Bool false=true/\True)/\0=axL e/\True)) (by kernel_rfl) ?_;try simp only[zP0]
 try dsimp only[aB,asT,aA,aC,Ty.den,Lf.den] at *
 try simp only[zP1]
 try simp only[zP2]
 have hP:axP e:=hp;have he:m33 100 e:=hP.1;have ht:m33 100 (trM e):=he.tr;have hg:=WT he;have o1:=(he.mono (show 100<=1000000 by omega)).ok (aj _);simp only[OB];have b1:iT e [trM e]=gM e:=rfl;rw[b1];obtain⟨lg,rg⟩:=hg.rows;have eE:∀ i j,(List.getD (gM e) i []).getD j 0=ent (gM e) i j:=fun _ _=>rfl;have t1:=b1z he;have t2:rsz (Rat.divInt 1 2)<=10:=by decide +kernel
 have t3:=VU hg;have cl:∀ i j,(List.map (fun i=>hE e i j) (List.range i)).length=i:=fun i j=>by rw[ny,jr]
 refine⟨⟨o1.1,a7l (by omega) he ht⟩,⟨by decide,by decide,by decide⟩,⟨hg.mono (by omega),by omega,by omega⟩,rfl,fun j=>⟨fun h1 i=>⟨fun h2=>?_,fun h2=>?_⟩,fun h1=>?_⟩⟩
 ·have hj:j.1<3:=by omega
  have hi:i.1<3:=by omega
  have g1:=b8e he hi hj;have g2:=rU (ent (gM e) i.1 j.1);rw[eE,lg,(rg i.1 hi).1,cl];have st:∀ x,x=hE e i.1 j.1->List.map (fun i=>hE e i j.1) (List.range i.1)++[x]=List.map (fun i=>hE e i j.1) (List.range (i.1+1)):=fun x hx=>by rw[hx,wz,Az];rfl
  exact⟨⟨by omega,by omega,by omega,by omega,by omega⟩,fun h3=>⟨⟨by omega,by omega⟩,by omega,⟨i.1+1,by omega⟩,by simp only;omega,by rw[aG (by omega) (by omega)];rfl,st _ (dn h3).symm⟩,fun h3=>⟨by omega,⟨i.1+1,by omega⟩,by simp only;omega,by rw[aG (by omega) (by omega)];rfl,st _ (bn h3).symm⟩⟩
 ·have hj:j.1<3:=by omega
  have hi:i.1=3:=by have:=i.2;omega
  rw[hi];have eC:List.map (fun i=>hE e i j.1) (List.range 3)=axC e j.1:=rfl;rw[eC,DW];refine⟨⟨by omega,fun q hq=>au (a4d he hj q hq) (by omega)⟩,fun h3=>⟨⟨j.1+1,by omega,fun k hk=>?_⟩,by simp only;omega,by rw[aG (by omega) (by omega)];rfl⟩,fun h3=>?_⟩
  ·rcases Eb.1 hk with hk|rfl
   ·exact j.2.2 k hk
   ·exact h3
  ·have eJ:axJ e=j.1:=a0C hj j.2.2 h3;have eU:mY (axC e j.1)=axU e:=by unfold axU;rw[eJ]
   rw[eU,IX];have us:=SE hP;have ss:=a5n us;rw[IX] at ss;refine⟨a0B he hj h3,by decide,rfl,fun k=>⟨fun h4=>?_,fun h4=>⟨au (ss _ k.2) (by omega),rfl,?_⟩⟩⟩
   ·have hk:k.1<3:=by omega
    have u1:isz ((axU e).getD k.1 0)<=12001:=cO us (by rw[IX];exact hk);have u2:=iC ((axU e).getD k.1 0) ((axU e).getD k.1 0);have u3:=ss k.1 k.2;exact⟨⟨by omega,h4⟩,⟨by omega,by omega,by omega⟩,⟨k.1+1,by omega⟩,by simp only;omega,by rw[aG (by omega) (by omega)];rfl,rfl⟩
   ·rw[show k.1=3 by have:=k.2;omega];rfl
 ·obtain⟨a,b,_⟩:=hP.at
  have:=j.2.2 (axJ e) (by omega);rw[b] at this;cases this
set_option maxHeartbeats 1000000
def dcQ (e:MQ):Prop:=m33 100 e/\∃ i j,i<3/\j<3/\ent e i j≠0
theorem dcQ.m {e:MQ} (h:dcQ e):m33 100 e:=h.1
theorem YJ {K:Nat} {e:MQ} (he:m33 K e) {i j:Nat} (hi:i<3) (hj:j<3):ent (gM e) i j=0+ent e i 0*ent e j 0+ent e i 1*ent e j 1+ent e i 2*ent e j 2:=by unfold gM;rw[he.1.c0n he.1.trp hi hj];show 0+ent e i 0*ent (trM e) 0 j+ent e i 1*ent (trM e) 1 j+ent e i 2*ent (trM e) 2 j=_;rw[he.1.c4k (i:=0) (j:=j) (by omega) hj,he.1.c4k (i:=1) (j:=j) (by omega) hj,he.1.c4k (i:=2) (j:=j) (by omega) hj]
theorem BZ {x:Rat} (h:0<x):0<x.num:=by
 have a:=Rat.num_nonneg.2 (Rat.le_of_lt h);have b:x.num≠0:=fun e=>by rw[Bj.1 e] at h;exact absurd h Rat.lt_irrefl
 omega
theorem a3J (x:Rat):0<=x*x:=by
 rcases Rat.le_total (a:=0) (b:=x) with h|h
 ·exact Rat.mul_nonneg h h
 ·have:=Rat.mul_nonneg (Rat.neg_le_neg h) (Rat.neg_le_neg h);grind
theorem sq_pos {x:Rat} (h:x≠0):0<x*x:=by
 have a:=a3J x;have b:x*x≠0:=fun e=>by rcases yj.1 e with e|e<;>exact h e
 grind
theorem b4k {e:MQ} (h:dcQ e):0<trQ (gM e):=by obtain⟨he,i,j,hi,hj,hz⟩:=h;unfold trQ;rw[YJ he (by omega) (by omega),YJ he (by omega) (by omega),YJ he (by omega) (by omega)];have p:=sq_pos hz;have n:=fun a b=>a3J (ent e a b);have n00:=n 0 0;have n01:=n 0 1;have n02:=n 0 2;have n10:=n 1 0;have n11:=n 1 1;have n12:=n 1 2;have n20:=n 2 0;have n21:=n 2 1;have n22:=n 2 2;rcases three hi with rfl|rfl|rfl<;>rcases three hj with rfl|rfl|rfl<;>grind
theorem dcQ.ax {e:MQ} (h:dcQ e):axP e:=by
 refine⟨h.m,?_⟩;have ht:=b4k h;apply oz;intro hn;have z:∀ j,j<3->hE e j j=0:=fun j hj=>by apply oz;intro hz;refine hn ⟨j,hj,yx.2 ⟨hE e j j,jq.2 ⟨j,oq.2 hj,rfl⟩,jg hz⟩⟩
 have z0:=z 0 (by omega);have z1:=z 1 (by omega);have z2:=z 2 (by omega);unfold hE hlT at z0 z1 z2;rw[dn rfl] at z0 z1 z2;have hf:Rat.divInt 1 2*2=1:=by decide +kernel
 unfold trQ at ht z0 z1 z2;generalize Rat.divInt 1 2=c at *
 grind
theorem tN {e:MQ} (h:axP e):0<axL e:=by
 obtain⟨h1,h2,_⟩:=h.at
 have hp:=a0B h.1 h1 h2;have hl:=DW e (axJ e);obtain⟨_,j,hj,hz⟩:=hp.at
 have hN:lcN (axC e (axJ e)) j≠0:=DZ (uD _ _) (kY hj) hz;have hU:(axU e).getD j 0≠0:=by show (a3w (lv (axC e (axJ e))) (axC e (axJ e)).length).getD j 0≠0;unfold a3w;rw[bg,qo,Ae hj];show prN (lcN (axC e (axJ e))) (axC e (axJ e)).length j≠0;unfold prN;intro hc;have hd:=Fa (ES (xs:=lcN (axC e (axJ e))) hj);rw[hc,Int.zero_mul] at hd;exact hN hd.symm
 rw[hl] at hj;have n:∀ x:Int,0<=x*x:=fun x=>by
  rcases Int.le_total 0 x with h|h
  ·exact Int.mul_nonneg h h
  ·exact Int.mul_nonneg_of_nonpos_of_nonpos h h
 have p:∀ x:Int,x≠0->0<x*x:=fun x hx=>by have:=n x;have:x*x≠0:=Dp hx hx;omega
 have s:0<sqI (axU e) 3:=by show 0<0+(axU e).getD 0 0*(axU e).getD 0 0+(axU e).getD 1 0*(axU e).getD 1 0+(axU e).getD 2 0*(axU e).getD 2 0;have q:=p _ hU;have n0:=n ((axU e).getD 0 0);have n1:=n ((axU e).getD 1 0);have n2:=n ((axU e).getD 2 0);rcases three hj with rfl|rfl|rfl<;>omega
 show (0:Rat)<((sqI (axU e) 3:Int):Rat);exact Rat.intCast_pos.2 s
theorem a0D {e:MQ} (h:axP e):rsz (axL e)<=24006:=by have a:=a5n (SE h) 3 (by rw[IX];exact aj _);have b:=wM (sqI (axU e) 3);show rsz ((sqI (axU e) 3:Int):Rat)<=_;omega
def sqD (e:MQ):Rat:=trQ (gM e) / (aH 2*axL e)
def kD (e:MQ):Rat:=rtQ (sqD e)
theorem q2:aH 2=2:=by decide +kernel
theorem q1':aH 1=1:=by decide +kernel
theorem b8v {e:MQ} (h:dcQ e):aH 2*axL e≠0:=by have:=tN h.ax;rw[q2];grind
theorem b0H {x y:Rat} (hx:0<x) (hy:0<y):0<x / y:=by rw[Rat.div_def];exact Rat.mul_pos hx (Rat.inv_pos.2 hy)
theorem a1I {e:MQ} (h:dcQ e):0<sqD e:=by have:=tN h.ax;exact b0H (b4k h) (by rw[q2];grind)
theorem a5m {e:MQ} (h:dcQ e):rsz (sqD e)<=27000:=by
 have a:=VU (WT h.m);have b:=a0D h.ax;have c:=fC (aH 2) (axL e);have d:rsz (aH 2)<=10:=by decide +kernel
 have f:=EW (trQ (gM e)) (aH 2*axL e) (b8v h);unfold sqD;omega
theorem a6v (n:Nat):isz ((isq n:Nat):Int)<=isz (n:Int):=by
 by_cases hn:n=0
 ·rw[hn];exact aj _
 ·have h1:=(KC (show 1<=n by omega)).1;have h2:isq n<=n:=by
   by_cases h3:isq n=0
   ·omega
   ·have:=xw (isq n) (show 1<=isq n by omega);omega
  exact BJ (by simpa using h2)
theorem a1e {n:Nat} (h:1<=n):1<=isq n:=by
 have h1:=(KC h).2;by_cases h3:isq n=0
 ·rw[h3] at h1;omega
 ·omega
theorem b3B (x:Rat):rsz (rtQ x)<=rsz x:=by
 have hd:=x.den_nz;have p:=a1e (show 1<=x.den by omega);have a3:isz ((x.num.natAbs:Nat):Int)=isz x.num:=by unfold isz;rw[Int.natAbs_natCast]
 refine vT _ _ (by omega) (au (a6v _) ?_) (au (a6v _) (kK x));rw[a3];exact mZ x
theorem c0M {x:Rat} (h:0<x):rtQ x≠0:=by have hn:0<x.num:=BZ h;have p:=a1e (show 1<=x.num.natAbs by omega);have q:=a1e (show 1<=x.den by have:=x.den_nz;omega);unfold rtQ;intro e;rw[<-Rat.zero_divInt 1,Rat.divInt_eq_divInt_iff (by omega) (by omega)] at e;omega
def aD (e:MQ):Rat:=aH 1 / (sqD e*axL e)
def bD (e:MQ):Rat:=aH 1 / (kD e*axL e)
theorem b8K {e:MQ} (h:dcQ e):sqD e*axL e≠0:=by have a:=tN h.ax;have b:=a1I h;have:=Rat.mul_pos b a;grind
theorem b8t {e:MQ} (h:dcQ e):kD e*axL e≠0:=by
 have a:=tN h.ax;intro z;rcases yj.1 z with z|z
 ·exact c0M (a1I h) z
 ·grind
theorem b8L {e:MQ} (h:dcQ e):rsz (sqD e*axL e)<=51010:=by have a:=a0D h.ax;have b:=a5m h;have c:=fC (sqD e) (axL e);omega
theorem b8u {e:MQ} (h:dcQ e):rsz (kD e*axL e)<=51010:=by have a:=a0D h.ax;have b:rsz (kD e)<=rsz (sqD e):=b3B _;have c:=fC (kD e) (axL e);have d:=a5m h;omega
theorem b7N {e:MQ} (h:dcQ e):rsz (aD e)<=51020:=by
 have a:=b8L h;have b:=EW (aH 1) (sqD e*axL e) (b8K h);have c:rsz (aH 1)<=10:=by decide +kernel
 unfold aD;omega
theorem b7O {e:MQ} (h:dcQ e):rsz (bD e)<=51020:=by
 have a:=b8u h;have b:=EW (aH 1) (kD e*axL e) (b8t h);have c:rsz (aH 1)<=10:=by decide +kernel
 unfold bD;omega
theorem XJ {e:MQ} (h:m33 100 e):m33 500 (WM e):=by
 refine⟨i33,fun i hi j hj=>?_⟩;unfold WM at *
 rw[i33.len] at hi;rw[i33.wd] at hj;rw[eF hi hj];have s:∀ a b,a<3->b<3->rsz (ent e a b)<=100:=fun a b ha hb=>h.2 a (by rw[h.1.len];exact ha) b (by rw[h.1.wd];exact hb);have s1:=s ((i+1)%3) ((j+1)%3) (by omega) (by omega);have s2:=s ((i+2)%3) ((j+2)%3) (by omega) (by omega);have s3:=s ((i+1)%3) ((j+2)%3) (by omega) (by omega);have s4:=s ((i+2)%3) ((j+1)%3) (by omega) (by omega);unfold sV;have m1:=fC (ent e ((i+1)%3) ((j+1)%3)) (ent e ((i+2)%3) ((j+2)%3));have m2:=fC (ent e ((i+1)%3) ((j+2)%3)) (ent e ((i+2)%3) ((j+1)%3));have m3:=CZ (ent e ((i+1)%3) ((j+1)%3)*ent e ((i+2)%3) ((j+2)%3)) (ent e ((i+1)%3) ((j+2)%3)*ent e ((i+2)%3) ((j+1)%3));omega
def uC (e:MQ):MQ:=kW ((axU e).map fun n=>aH n)
theorem b9e {e:MQ} (h:axP e) (i:Nat):rsz (lv ((axU e).map fun n=>aH n) i)<=12002:=by
 unfold lv;by_cases hi:i<(axU e).length
 ·rw[bg,qo,dw hi];have a:=SE h _ (uq hi);have b:=wM ((axU e)[i]);show rsz (((axU e)[i]:Int):Rat)<=_;omega
 ·rw[bg,qm (by rw[ny];omega)];show rsz 0<=_;have:rsz 0<=10:=by decide +kernel
  omega
theorem b0B {v:LQ'} {K:Nat} (hK:10<=K) (h:∀ i,rsz (lv v i)<=K):m33 K (kW v):=by
 refine⟨nG v,fun i hi j hj=>?_⟩;rw[(nG v).len] at hi;rw[(nG v).wd] at hj;have z:rsz (aH 0)<=K:=au (by decide +kernel:rsz (aH 0)<=10) hK;have n:∀ i,rsz (- lv v i)<=K:=fun i=>by rw[rU];exact h i
 rcases three hi with rfl|rfl|rfl<;>rcases three hj with rfl|rfl|rfl<;>first|exact z|exact h _|exact n _
theorem c6N {e:MQ} (h:axP e):m33 12002 (uC e):=b0B (by omega) (b9e h)
def ueM (e:MQ):MQ:=mulM (uC e) e
theorem c4m {e:MQ} (h:dcQ e):m33 37000 (ueM e):=(BR (c6N h.ax) h.m).mono (by omega)
def fiM (e:MQ):MQ:=nV (WM e) (aD e)
def seM (e:MQ):MQ:=nV (ueM e) (bD e)
theorem b9C {e:MQ} (h:dcQ e):m33 52000 (fiM e):=(ZX (XJ h.m) (b7N h)).mono (by omega)
theorem c4b {e:MQ} (h:dcQ e):m33 88100 (seM e):=(ZX (c4m h) (b7O h)).mono (by omega)
theorem m33.sub {K L:Nat} {x y:MQ} (hx:m33 K x) (hy:m33 L y):m33 (K+L+1) (VO x y):=by have hm:=hx.1.sub (b:=y);refine⟨hm,fun i hi j hj=>?_⟩;rw[hm.len] at hi;rw[hm.wd] at hj;rw[hx.1.c6M hi hj];have a:=hx.2 i (by rw[hx.1.len];exact hi) j (by rw[hx.1.wd];exact hj);have b:=hy.2 i (by rw[hy.1.len];exact hi) j (by rw[hy.1.wd];exact hj);have:=CZ (ent x i j) (ent y i j);omega
theorem m33.add {K L:Nat} {x y:MQ} (hx:m33 K x) (hy:m33 L y):m33 (K+L+1) (RZ x y):=by have hm:=hx.1.add (b:=y);refine⟨hm,fun i hi j hj=>?_⟩;rw[hm.len] at hi;rw[hm.wd] at hj;rw[hx.1.c4x hi hj];have a:=hx.2 i (by rw[hx.1.len];exact hi) j (by rw[hx.1.wd];exact hj);have b:=hy.2 i (by rw[hy.1.len];exact hi) j (by rw[hy.1.wd];exact hj);have:=oD (ent x i j) (ent y i j);omega
def dcM (e:MQ) (k:Nat):MQ:=if k=0 then VO (fiM e) (seM e) else RZ (fiM e) (seM e)
theorem b5c {e:MQ} (h:dcQ e) (k:Nat):m33 150000 (dcM e k):=by
 unfold dcM;split
 ·exact((b9C h).sub (c4b h)).mono (by omega)
 ·exact((b9C h).add (c4b h)).mono (by omega)
def dcP (e:MQ):Prop:=m33 1 e/\∃ i j,i<3/\j<3/\ent e i j≠0
set_option maxHeartbeats 4000000
theorem sq0 (x:Rat) (h:x*x=0):x=0:=by grind
theorem k01 {a b c d e f g h i:Rat} (r00:0+a*a+b*b+c*c=1) (r01:0+a*d+b*e+c*f=0) (r02:0+a*g+b*h+c*i=0) (r11:0+d*d+e*e+f*f=1) (r12:0+d*g+e*h+f*i=0) (r22:0+g*g+h*h+i*i=1) (dt:a*(e*i-f*h)+b*(f*g-d*i)+c*(d*h-e*g)=1) :
  (1+a+e+i)*(1+a-e-i)=(h-f)*(h-f)/\(1+a+e+i)*(1-a+e-i)=(c-g)*(c-g)/\(1+a+e+i)*(1-a-e+i)=(d-b)*(d-b)/\(1+a-e-i)*(1-a+e-i)=(b+d)*(b+d)/\(1+a-e-i)*(1-a-e+i)=(c+g)*(c+g)/\(1-a+e-i)*(1-a-e+i)=(f+h)*(f+h):=by
 have q0:a=e*i-f*h:=by grind
 have q4:e=a*i-c*g:=by grind
 have q8:i=a*e-b*d:=by grind
 have q1:b=f*g-d*i:=by grind
 have q2:c=d*h-e*g:=by grind
 have q3:d=c*h-b*i:=by grind
 have q5:f=b*g-a*h:=by grind
 have q6:g=b*f-c*e:=by grind
 have q7:h=c*d-a*f:=by grind
 refine⟨?_,?_,?_,?_,?_,?_⟩<;>grind
def omR (e:Mt) (k j:Nat):Rat:=(omE e k).getD j 0
theorem row_zero {m:MQ} (hm:m33 150000 m) (hT:wP m=true) {k:Nat} (hk:k<4) (hz:omR (ent m) k k=0):∀ j,j<4->omR (ent m) k j=0:=by
 obtain⟨hO,dt⟩:=xZ.1 hT;have r:∀ i j,i<3->j<3->0+ent m i 0*ent m j 0+ent m i 1*ent m j 1+ent m i 2*ent m j 2=qZ i j:=fun i j hi hj=>by have:=hO i hi j hj;unfold tuE at this;rw[<-this];exact(YJ hm hi hj).symm
 generalize ent m=e at *
 have c1:((1:Int):Rat)=1:=Rat.intCast_one;have cm:((-1:Int):Rat)=-1:=by decide +kernel
 unfold jV at dt;obtain⟨s01,s02,s03,s12,s13,s23⟩:=k01 (r 0 0 (by omega) (by omega)) (r 0 1 (by omega) (by omega)) (r 0 2 (by omega) (by omega)) (r 1 1 (by omega) (by omega)) (r 1 2 (by omega) (by omega)) (r 2 2 (by omega) (by omega)) (by grind);have d0:omR e 0 0=1+e 0 0+e 1 1+e 2 2:=by show ((1:Int):Rat)+((1:Int):Rat)*e 0 0+((1:Int):Rat)*e 1 1+((1:Int):Rat)*e 2 2=_;rw[c1];grind
 have d1:omR e 1 1=1+e 0 0-e 1 1-e 2 2:=by show ((1:Int):Rat)+((1:Int):Rat)*e 0 0+((-1:Int):Rat)*e 1 1+((-1:Int):Rat)*e 2 2=_;rw[c1,cm];grind
 have d2:omR e 2 2=1-e 0 0+e 1 1-e 2 2:=by show ((1:Int):Rat)+((-1:Int):Rat)*e 0 0+((1:Int):Rat)*e 1 1+((-1:Int):Rat)*e 2 2=_;rw[c1,cm];grind
 have d3:omR e 3 3=1-e 0 0-e 1 1+e 2 2:=by show ((1:Int):Rat)+((-1:Int):Rat)*e 0 0+((-1:Int):Rat)*e 1 1+((1:Int):Rat)*e 2 2=_;rw[c1,cm];grind
 intro j hj
 match k,hk,j,hj with
 | 0,_,0,_=>exact hz
 | 0,_,1,_=>rw[d0] at hz;rw[hz,Bd] at s01;exact sq0 _ s01.symm
 | 0,_,2,_=>rw[d0] at hz;rw[hz,Bd] at s02;exact sq0 _ s02.symm
 | 0,_,3,_=>rw[d0] at hz;rw[hz,Bd] at s03;exact sq0 _ s03.symm
 | 1,_,0,_=>rw[d1] at hz;rw[hz,Bv] at s01;exact sq0 _ s01.symm
 | 1,_,1,_=>exact hz
 | 1,_,2,_=>rw[d1] at hz;rw[hz,Bd] at s12;exact sq0 _ s12.symm
 | 1,_,3,_=>rw[d1] at hz;rw[hz,Bd] at s13;exact sq0 _ s13.symm
 | 2,_,0,_=>rw[d2] at hz;rw[hz,Bv] at s02;exact sq0 _ s02.symm
 | 2,_,1,_=>rw[d2] at hz;rw[hz,Bv] at s12;exact sq0 _ s12.symm
 | 2,_,2,_=>exact hz
 | 2,_,3,_=>rw[d2] at hz;rw[hz,Bd] at s23;exact sq0 _ s23.symm
 | 3,_,0,_=>rw[d3] at hz;rw[hz,Bv] at s03;exact sq0 _ s03.symm
 | 3,_,1,_=>rw[d3] at hz;rw[hz,Bv] at s13;exact sq0 _ s13.symm
 | 3,_,2,_=>rw[d3] at hz;rw[hz,Bv] at s23;exact sq0 _ s23.symm
 | 3,_,3,_=>exact hz
theorem a3n {m:MQ} (hm:m33 150000 m) (hT:wP m=true) {k:Nat} (hk:k<4):omZ (ent m) k=true↔omR (ent m) k k≠0:=by unfold omZ;rw[yQ];exact⟨fun⟨j,hj,hn⟩ hz=>hn (row_zero hm hT hk hz j hj),fun h=>⟨k,hk,h⟩⟩
theorem b2K {m:MQ} (hm:m33 150000 m) (hT:wP m=true) {k:Nat} (hk:k<4) (h:∀ j,j<k->omR (ent m) j j=0) (hn:omR (ent m) k k≠0):omT m=omP (ent m) k:=by
 have n:∀ j,j<k->¬ omZ (ent m) j=true:=fun j hj hn=>(a3n hm hT (by omega)).1 hn (h j hj);have y:=(a3n hm hT hk).2 hn;unfold omT omF;rw[dn hT]
 match k,hk with
 | 0,_=>rw[dn y]
 | 1,_=>rw[bn (n 0 (by omega)),dn y]
 | 2,_=>rw[bn (n 0 (by omega)),bn (n 1 (by omega)),dn y]
 | 3,_=>rw[bn (n 0 (by omega)),bn (n 1 (by omega)),bn (n 2 (by omega)),dn y]
end Go.Proofs.YtbkocjmmbkifjaaGreat
