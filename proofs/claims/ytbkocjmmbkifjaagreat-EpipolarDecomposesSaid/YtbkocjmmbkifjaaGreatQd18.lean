/-
  Lemmas for the theorem vdecomposes28_holds, part 18 of 34.
-/
import Derived.Test.YtbkocjmmbkifjaaGreatQd17
namespace Go.Proofs.YtbkocjmmbkifjaaGreat
open Go Go.RowKit
theorem jf:type_of% @decide_eq_true:=@decide_eq_true
theorem uo:type_of% @beq_eq_false_iff_ne:=@beq_eq_false_iff_ne
theorem og:type_of% @of_decide_eq_true:=@of_decide_eq_true
theorem yg:type_of% @of_decide_eq_false:=@of_decide_eq_false
theorem Ac:type_of% @Int.sign_neg_iff:=@Int.sign_neg_iff
theorem Dl:type_of% @Int.mul_ne_zero:=@Int.mul_ne_zero
theorem Dn:type_of% @List.any_eq_false:=@List.any_eq_false
theorem Ci:type_of% @List.take_add_one:=@List.take_add_one
set_option maxRecDepth 100000
set_option maxHeartbeats 1000000
set_option linter.unusedVariables false
set_option linter.unusedSimpArgs false
theorem sgf (x:Int):sg (decide (x<0)) x.natAbs=x:=by unfold sg;by_cases h:x<0<;>simp[h]<;>omega
theorem c2S (x:Int):(dig x.natAbs).length=isz x:=rfl
theorem a1i (n:Nat):(((dig n).length:Int)==0)=decide (n=0):=by
 by_cases h:n=0
 ·rw[jf h,iF.2 h];rfl
 ·rw[je h]
  exact uo.mpr fun e=>h (iF.1 (jm (by omega)))
theorem a8V (n:Nat):decide (((dig n).length:Int) > 0)=decide (n≠0):=by
 have:=a1i n
 by_cases h:n=0
 ·rw[h,je (show ¬ (0:Nat)≠0 by omega),iF.2 rfl];rfl
 ·rw[jf h]
  rw[je h] at this
  have:=uo.mp this
  exact jf (by omega)
theorem c4b {n m:Bool} {a b:Nat} (h:(n==m)=true):sg n (a+b:Nat)=sg n a+sg m b:=by
 rw[eq_of_beq h];unfold sg;cases m<;>simp;omega
theorem c4c {n m:Bool} {a b:Nat} (h:(n==m)=false) (h4:b<=a):sg n (a-b:Nat)=sg n a+sg m b:=by
 have e:m=!n:=by cases n<;>cases m<;>simp_all
 subst e;unfold sg;cases n<;>simp<;>omega
theorem c4d {n m:Bool} {a b:Nat} (h:(n==m)=false) (h4:a<=b):sg m (b-a:Nat)=sg n a+sg m b:=by
 have e:m=!n:=by cases n<;>cases m<;>simp_all
 subst e;unfold sg;cases n<;>simp<;>omega
theorem a4I {a b:Nat} (h3:bK (a:Int) (b:Int) ≥ 0):b<=a:=by
 unfold bK at h3
 rcases zi a b with h|h
 ·rw[iw (by omega)] at h3;omega
 ·exact h
theorem a4J {a b:Nat} (h3:¬ bK (a:Int) (b:Int) ≥ 0):a<=b:=by
 unfold bK at h3
 rcases zi b a with h|h
 ·rw[eu (by omega),iw (by omega)] at h3;omega
 ·exact h
theorem sgM (x y:Int):sg (decide (x<0) != decide (y<0)) (x.natAbs*y.natAbs)=x*y:=by
 have e:x*y=sg (decide (x<0)) x.natAbs*sg (decide (y<0)) y.natAbs:=by rw[sgf,sgf]
 rw[e]
 cases decide (x<0)<;>cases decide (y<0)<;>simp[sg,Int.neg_mul,Int.mul_neg]
abbrev tG:Ty:=.lf .gsl
abbrev LN:Type:=List Nat
theorem oP {F:Nat->Prop} {w:World} {v:Value} {x:List Nat} (h:iQ F w tG v x):Rd w v x:=by
 obtain⟨cs,rfl,s,rfl,h2⟩:=h
 exact h2
theorem EY {F:Nat->Prop} {w:World} {v:Value} {x:List Nat} (h:Rd w v x):iQ F w tG v x:=⟨[v],rfl,v,rfl,h⟩
theorem a0R.rd {l:List Nat} {w w':World} {e:Ending} (h:a0R l w e w'):GRd l w e w':=by
 obtain⟨v,h1,h2,h3⟩:=h
 exact⟨v,h1,Rd.dO h2,h3⟩
def cGG (pre:LN->LN->Prop) [hd:∀ x y,Dc (pre x y)] (g:LN->LN->LN):Ctr:={ args:=[tG,tG],res:=[tG],pre:=fun x=>pre x.1 x.2.1,fn:=fun x=>(g x.1 x.2.1,()),dec:=fun x=>hd x.1 x.2.1 }
theorem a2W {f:FuncId} {pre:LN->LN->Prop} [∀ x y,Dc (pre x y)] {g:LN->LN->LN} (h:∀ (s t:Value) (a b:LN) (w:World),Rd w s a->Rd w t b->pre a b->Calls Tryz.prog f #[s,t] w (a0R (g a b) w)):aH Tryz.prog f (cGG pre g):=by
 intro F w vs x hF hvs hp
 obtain⟨v,vs',rfl,h1,u,vs'',rfl,h2,h3⟩:=hvs
 have h3:vs''=[]:=h3
 subst h3
 refine(h v u x.1 x.2.1 w (oP h1) (oP h2) hp).mono ?_
 intro e w' h
 obtain⟨r,rfl,hr,hb⟩:=h.rd
 exact⟨r,rfl,EY hr,hb⟩
noncomputable def cZG:Ctr:=⟨[tZ],[tG],fun _=>True,fun x=>(dig (Int.natAbs x.1),())⟩
theorem nR:aH Tryz.prog 192 cZG:=by
 intro F w vs x hF hvs hp
 obtain⟨v,vs',rfl,h1,h3⟩:=hvs
 have h3:vs'=[]:=h3
 subst h3
 refine(xW v x.1 w (QS h1).raw).mono ?_
 rintro e w' ⟨r,rfl,hr,hb⟩
 exact⟨r,rfl,EY hr,hb⟩
noncomputable def c5v:Ctr:=⟨[tB,tG],[tZ],fun x=>Low x.2.1,fun x=>(sg x.1 (val x.2.1),())⟩
theorem AX:aH Tryz.prog 190 c5v:=by
 intro F w vs x hF hvs hp
 obtain⟨v,vs',rfl,h1,u,vs'',rfl,h2,h3⟩:=hvs
 have h3:vs''=[]:=h3
 subst h3
 rw[a2U h1]
 refine(JH x.1 u x.2.1 w (oP h2) hp).mono ?_
 rintro e w' ⟨r,rfl,hr,hb⟩
 exact⟨r,rfl,YS hr,hb⟩
noncomputable def c5p:Ctr:=⟨[tG,tG],[tG,tG],fun x=>Canon x.1/\Canon x.2.1/\(show LN from x.1).length<=1000000000/\(show LN from x.2.1)≠[],fun x=>(dig (val x.1 / val x.2.1),dig (val x.1%val x.2.1),())⟩
theorem a2f:aH Tryz.prog 251 c5p:=by
 intro F w vs x hF hvs hp
 obtain⟨v,vs',rfl,h1,u,vs'',rfl,h2,h3⟩:=hvs
 have h3:vs''=[]:=h3
 subst h3
 refine(a2e v u x.1 x.2.1 w (oP h1) (oP h2) hp.1 hp.2.1 hp.2.2.1 hp.2.2.2).mono ?_
 rintro e w' ⟨r,s,rfl,hr,hs,hb⟩
 exact⟨_,rfl,⟨[_,_],rfl,_,_,rfl,EY hr,_,_,rfl,EY hs,rfl⟩,hb⟩
noncomputable def c4P:Ctr:=⟨[tG,tG],[tI],fun x=>Canon x.1/\Canon x.2.1,fun x=>(bK (val x.1) (val x.2.1),())⟩
theorem a1a:aH Tryz.prog 254 c4P:=by
 intro F w vs x hF hvs hp
 obtain⟨v,vs',rfl,h1,u,vs'',rfl,h2,h3⟩:=hvs
 have h3:vs''=[]:=h3
 subst h3
 refine(kY v u x.1 x.2.1 w (oP h1) (oP h2) hp.1 hp.2).mono ?_
 rintro e w' ⟨rfl,hb⟩
 exact⟨_,rfl,EZ _,hb⟩
noncomputable def c4N:Ctr:=⟨[tG],[tG],fun x=>(show LN from x.1).length<=1000000000,fun x=>(x.1,())⟩
theorem KY:aH Tryz.prog 191 c4N:=by
 intro F w vs x hF hvs hp
 obtain⟨v,vs',rfl,h1,h3⟩:=hvs
 have h3:vs'=[]:=h3
 subst h3
 refine(clone_any v x.1 w (oP h1) hp).mono ?_
 intro e w' h
 obtain⟨r,rfl,hr,hb⟩:=h.rd
 exact⟨r,rfl,EY hr,hb⟩
abbrev tU:Ty:=.int .u64
noncomputable def c5V:Ctr:=⟨[tU],[tG],fun x=>0<=(show Int from x.1)/\(show Int from x.1)<18446744073709551616,fun x=>(dig x.1.toNat,())⟩
theorem a7L:aH Tryz.prog 247 c5V:=by
 intro F w vs x hF hvs hp
 obtain⟨v,vs',rfl,h1,h3⟩:=hvs
 have h3:vs'=[]:=h3
 subst h3
 rw[SI h1]
 have hq:(show Int from x.1)<18446744073709551616:=hp.2
 have hq2:(0:Int)<=(show Int from x.1):=hp.1
 have:=tJ x.1.toNat w ((Int.toNat_lt hq2).2 hq)
 rw[Int.toNat_of_nonneg hp.1] at this
 refine this.mono ?_
 intro e w' h
 obtain⟨r,rfl,hr,hb⟩:=a0R.rd h
 exact⟨r,rfl,EY hr,hb⟩
noncomputable def b6X:Ctr:=⟨[tG],[tU,tB],fun x=>Low x.1,fun x=>if (show LN from x.1).length<=2 then ((val x.1:Int),true,()) else ((0:Int),false,())⟩
theorem b2r:aH Tryz.prog 265 b6X:=by
 intro F w vs x hF hvs hp
 obtain⟨v,vs',rfl,h1,h3⟩:=hvs
 have h3:vs'=[]:=h3
 subst h3
 by_cases h:(show LN from x.1).length<=2
 ·refine(BZ v x.1 w (oP h1) hp h).mono ?_
  rintro e w' ⟨rfl,hb⟩
  refine⟨_,rfl,?_,hb⟩
  rw[show b6X.fn x=((val x.1:Int),true,()) from iw h]
  exact⟨[_,_],rfl,_,_,rfl,EZ _,_,_,rfl,VE _,rfl⟩
 ·refine(QF v x.1 w (oP h1) (Nat.lt_of_not_le h)).mono ?_
  rintro e w' ⟨rfl,hb⟩
  refine⟨_,rfl,?_,hb⟩
  rw[show b6X.fn x=((0:Int),false,()) from eu h]
  exact⟨[_,_],rfl,_,_,rfl,EZ _,_,_,rfl,VE _,rfl⟩
theorem c4o:aH Tryz.prog 249 (cGG (fun a b=>Low a/\Low b/\a.length<=1000000000/\b.length<=1000000000) (fun a b=>dig (val a*val b))):=(a2W fun s t a b w hs ht h=>times_any s t a b w hs ht h.1 h.2.1 h.2.2.1 h.2.2.2)
theorem b6G:aH Tryz.prog 253 (cGG (fun a b=>Low a/\Low b/\a.length<=1000000000/\b.length<=1000000000) (fun a b=>dig (val a+val b))):=(a2W fun s t a b w hs ht h=>a2g s t a b w hs ht h.1 h.2.1 h.2.2.1 h.2.2.2)
theorem b6H:aH Tryz.prog 272 (cGG (fun a b=>Low a/\Low b/\a.length<=1000000000/\b.length<=a.length/\val b<=val a) (fun a b=>dig (val a-val b))):=(a2W fun s t a b w hs ht h=>a7i s t a b w hs ht h.1 h.2.1 h.2.2.1 h.2.2.2.1 h.2.2.2.2)
theorem uN:aH Tryz.prog 97 (cZ1 fun x=>-x):=by
 refine aI (((nil0.ad nR).ad AX).ad KY) ⟨[2],[],[]⟩ Tryz.func97 rfl (by decide) (fun x=>[]) (fun x hp=>?_)
 obtain⟨x,u⟩:=x
 change Int at x
 refine aO ((True/\List.length (dig (Int.natAbs x))<=1000000000/\Low (dig (Int.natAbs x))/\True)/\True/\sg (!decide (x<0)) (val (dig (Int.natAbs x)))=-x/\True) (by kernel_rfl) ?_
 try simp only[zP0]
 try dsimp only[aB,asT,aA,aC,Ty.den,Lf.den] at *
 try simp only[zP1]
 have hp:isz x<=1000000000:=hp
 refine⟨⟨hp,bC _⟩,?_⟩
 rw[aT]
 unfold sg
 by_cases h:x<0<;>simp[h]<;>omega
theorem oV:aH Tryz.prog 179 (cZI Int.sign):=by
 refine aI (nil0.ad nR) ⟨[],[],[]⟩ Tryz.func179 rfl (by decide) (fun x=>[]) (fun x hp=>?_)
 obtain⟨x,u⟩:=x
 change Int at x
 refine aO ((True/\True)/\ifB (aB (dig (Int.natAbs x)).length==0) (True/\0=Int.sign x/\True) (ifB (decide (x<0)) (True/\-1=Int.sign x/\True) (True/\1=Int.sign x/\True))) (by kernel_rfl) ?_
 try simp only[zP0]
 try dsimp only[aB,asT,aA,aC,Ty.den,Lf.den] at *
 try simp only[zP1]
 rw[a1i]
 refine⟨fun h=>?_,fun h=>⟨fun h1=>(qh h1).symm,fun h1=>?_⟩⟩
 ·rw[show x=0 by have:=og h;omega];rfl
 ·have:=yg h
  exact(uf (by omega)).symm
theorem oU:aH Tryz.prog 177 (cZ2 fun x y=>x*y):=by
 refine aI (((nil0.ad nR).ad AX).ad c4o) ⟨[4],[],[]⟩ Tryz.func177 rfl (by decide) (fun x=>[]) (fun x hp=>?_)
 obtain⟨x,y,u⟩:=x
 change Int at x
 change Int at y
 refine aO ((True/\True/\(Low (dig (Int.natAbs x))/\Low (dig (Int.natAbs y))/\List.length (dig (Int.natAbs x))<=1000000000/\List.length (dig (Int.natAbs y))<=1000000000)/\Low (dig (val (dig (Int.natAbs x))*val (dig (Int.natAbs y))))/\True)/\True/\sg (decide (x<0) != decide (y<0)) (val (dig (val (dig (Int.natAbs x))*val (dig (Int.natAbs y)))))=x*y/\True) (by kernel_rfl) ?_
 try simp only[zP0]
 try dsimp only[aB,asT,aA,aC,Ty.den,Lf.den] at *
 try simp only[zP1]
 obtain⟨l1,l2⟩:isz x<=1000000000/\isz y<=1000000000:=hp
 simp only[aT]
 exact⟨⟨⟨bC _,bC _,l1,l2⟩,bC _⟩,sgM x y⟩
noncomputable def c5X:Ctr:=⟨[tB,tG,tB,tG],[tZ],fun x=>Canon x.2.1/\Canon x.2.2.2.1/\(show LN from x.2.1).length<=1000000000/\(show LN from x.2.2.2.1).length<=1000000000,fun x=>(sg x.1 (val x.2.1)+sg x.2.2.1 (val x.2.2.2.1),())⟩
theorem a9O:aH Tryz.prog 248 c5X:=by
 refine aI ((((nil0.ad AX).ad b6G).ad b6H).ad a1a) ⟨[8],[],[]⟩ Tryz.func248 rfl (by decide) (fun x=>[]) (fun x hp=>?_)
 obtain⟨n,a,m,b,u⟩:=x
 change Bool at n
 change List Nat at a
 change Bool at m
 change List Nat at b
 refine aO (ifB (n==m) (((Low a/\Low b/\List.length a<=1000000000/\List.length b<=1000000000)/\Low (dig (val a+val b))/\True)/\True/\sg n (val (dig (val a+val b)))=sg n (val a)+sg m (val b)/\True) (((Canon a/\Canon b)/\True)/\ifB (decide (bK (aB (val a)) (aB (val b)) ≥ 0)) (((Low a/\Low b/\List.length a<=1000000000/\List.length b<=List.length a/\val b<=val a)/\Low (dig (val a-val b))/\True)/\True/\sg n (val (dig (val a-val b)))=sg n (val a)+sg m (val b)/\True) (((Low b/\Low a/\List.length b<=1000000000/\List.length a<=List.length b/\val a<=val b)/\Low (dig (val b-val a))/\True)/\True/\sg m (val (dig (val b-val a)))=sg n (val a)+sg m (val b)/\True))) (by kernel_rfl) ?_
 try simp only[zP0]
 try dsimp only[aB,asT,aA,aC,Ty.den,Lf.den] at *
 try simp only[zP1]
 obtain⟨h1,h2,l1,l2⟩:Canon a/\Canon b/\a.length<=1000000000/\b.length<=1000000000:=hp
 have c1:(dig (val a)).length=a.length:=by rw[dR h1]
 have c2:(dig (val b)).length=b.length:=by rw[dR h2]
 simp only[aT]
 refine⟨fun h=>⟨⟨⟨h1.1,h2.1,l1,l2⟩,bC _⟩,c4b h⟩,fun h=>⟨⟨h1,h2⟩,fun h3=>?_,fun h3=>?_⟩⟩
 ·have h4:=a4I h3
  have:=aQ h4
  exact⟨⟨⟨h1.1,h2.1,l1,by omega,h4⟩,bC _⟩,c4c h h4⟩
 ·have h4:=a4J h3
  have:=aQ h4
  exact⟨⟨⟨h2.1,h1.1,l2,by omega,h4⟩,bC _⟩,c4d h h4⟩
theorem SE:aH Tryz.prog 176 (cZ2 fun x y=>x+y):=by
 refine aI ((nil0.ad nR).ad a9O) ⟨[4],[],[]⟩ Tryz.func176 rfl (by decide) (fun x=>[]) (fun x hp=>?_)
 obtain⟨x,y,u⟩:=x
 change Int at x
 change Int at y
 refine aO ((True/\True/\(Canon (dig (Int.natAbs x))/\Canon (dig (Int.natAbs y))/\List.length (dig (Int.natAbs x))<=1000000000/\List.length (dig (Int.natAbs y))<=1000000000)/\True)/\True/\sg (decide (x<0)) (val (dig (Int.natAbs x)))+sg (decide (y<0)) (val (dig (Int.natAbs y)))=x+y/\True) (by kernel_rfl) ?_
 try simp only[zP0]
 try dsimp only[aB,asT,aA,aC,Ty.den,Lf.den] at *
 try simp only[zP1]
 obtain⟨l1,l2⟩:isz x<=1000000000/\isz y<=1000000000:=hp
 simp only[aT,sgf]
 exact⟨⟨bY _,bY _,l1,l2⟩,trivial⟩
theorem zY:aH Tryz.prog 229 cDiv:=by
 refine aI ((((((nil0.ad nR).ad AX).ad b6G).ad b6H).ad a2f).ad KY) ⟨[4,5],[],[]⟩ Tryz.func229 rfl (by decide) (fun x=>[]) (fun x hp=>?_)
 obtain⟨x,y,u⟩:=x
 change Int at x
 change Int at y
 refine aO (let A₀:=(dig (val (dig (Int.natAbs x))%val (dig (Int.natAbs y))));let A₂:=(dig (val (dig (Int.natAbs x)) / val (dig (Int.natAbs y))));let aN:=(List.map Int.toNat (1::aC Int));let aU:=(aB A₀.length > 0);let A₁:=(decide aU==true);let aX:=(dig (val (dig (Int.natAbs y))-val A₀));let bJ:=(decide (x<0) != decide (y<0));let dA:=(A₁=true->A₁=true/\True);(True/\True/\True)/\ifB (aB (dig (Int.natAbs y)).length==0) (True/\0=Int.fdiv x y/\True/\0=Int.fmod x y/\True/\asT Int 14=0/\True) (((Canon (dig (Int.natAbs x))/\Canon (dig (Int.natAbs y))/\List.length (dig (Int.natAbs x))<=1000000000/\dig (Int.natAbs y)≠aC Nat)/\True)/\(List.length A₀<=1000000000/\True)/\(dA/\dA/\(A₁=true->A₁=true/\A₁=true/\True)/\(decide aU=true->A₁=true)/\True)/\ifB (bif decide aU then decide (x<0) != decide (y<0) else false) ((List.length (1::aC Int)≠0/\(asT Int 0<=1/\True)/\(Low A₂/\Low aN/\List.length A₂<=1000000000/\List.length aN<=1000000000)/\(Low (dig (Int.natAbs y))/\Low A₀/\List.length (dig (Int.natAbs y))<=1000000000/\List.length A₀<=List.length (dig (Int.natAbs y))/\val A₀<=val (dig (Int.natAbs y)))/\True)/\(Low (dig (val A₂+val aN))/\Low aX/\True)/\True/\sg bJ (val (dig (val A₂+val aN)))=Int.fdiv x y/\True/\sg (decide (y<0)) (val aX)=Int.fmod x y/\True/\asT Int 0=0/\True) ((Low A₂/\Low A₀/\True)/\True/\sg bJ (val A₂)=Int.fdiv x y/\True/\sg (decide (y<0)) (val A₀)=Int.fmod x y/\True/\asT Int 0=0/\True))) (by kernel_rfl) ?_
 try simp only[zP0]
 try dsimp only[aB,asT,aA,aC,Ty.den,Lf.den] at *
 try simp only[zP1]
 obtain⟨l1,l2,hy⟩:isz x<=1000000000/\isz y<=1000000000/\y≠0:=hp
 have n0:0<y.natAbs:=by omega
 have hm:=Ae x.natAbs n0
 simp only[aT,a8V,a1i,gy,beq_true]
 have lm:(dig (x.natAbs%y.natAbs)).length<=(dig y.natAbs).length:=aQ (by omega)
 have lq:(dig (x.natAbs / y.natAbs)).length<=(dig x.natAbs).length:=aQ (Cj _ _)
 have l1':(dig x.natAbs).length<=1000000000:=l1
 have l2':(dig y.natAbs).length<=1000000000:=l2
 refine⟨fun h=>absurd h (by omega),fun _=>⟨⟨bY _,bY _,l1,fun e=>by have:=iF.1 e;omega⟩,by omega,?_,fun h=>?_,fun h=>?_⟩⟩
 ·exact⟨fun h=>h,fun h=>h,fun h=>⟨h,h⟩,fun h=>og (by rw[<-a8V];exact jf h)⟩
 ·have hr:x.natAbs%y.natAbs≠0:=fun e=>by rw[e] at h;simp at h
  rw[jf hr] at h
  have h:(decide (x<0) != decide (y<0))=true:=h
  obtain⟨a,b⟩:=WU (decide (x<0)) (decide (y<0)) x.natAbs y.natAbs n0 h hr
  rw[sgf,sgf] at a b
  rw[h]
  refine⟨⟨by decide,by omega,⟨bC _,fun g hg=>by rw[ng.1 hg];decide,by omega,by decide⟩,bC _,bC _,l2,lm,by omega⟩,⟨bC _,bC _⟩,?_,b.symm⟩
  exact a.symm
 ·refine⟨⟨bC _,bC _⟩,?_⟩
  cases hs:decide (x<0) != decide (y<0)
  ·have hs:decide (x<0)=decide (y<0):=by simpa using hs
   obtain⟨a,b⟩:=WV (decide (y<0)) x.natAbs y.natAbs n0
   rw[sgf,<-hs,sgf] at a b
   rw[<-hs]
   exact⟨a.symm,b.symm⟩
  ·have hr:x.natAbs%y.natAbs=0:=Decidable.byContradiction fun e=>by rw[jf e,hs] at h;cases h
   obtain⟨a,b⟩:=RI (decide (x<0)) (decide (y<0)) x.natAbs y.natAbs n0 hs hr
   rw[sgf,sgf] at a b
   rw[hr,a0C]
   exact⟨a.symm,b.symm⟩
theorem b6E {l:List Nat} (h:Canon l) (h2:l.length<=2):val l<18446744073709551616:=by
 have h1:=kK h.1
 have:BB ^ l.length<=BB ^ 2:=uw fV h2
 have:BB ^ 2=1000000000000000000:=by rw[bM]
 omega
abbrev GcO (x y:Int):={p:List Nat × List Nat // Canon p.1/\Canon p.2/\(isz x<=1000000000/\isz y<=1000000000->p.1.length<=1000000000/\p.2.length<=1000000000)/\Nat.gcd (val p.1) (val p.2)=Int.gcd x y}
abbrev GcI (x y:Int) (p:GcO x y):={q:Nat × Nat // (p.1.1.length<=2/\p.1.2.length<=2->q.1<18446744073709551616/\q.2<18446744073709551616)/\Nat.gcd q.1 q.2=Int.gcd x y}
noncomputable def c4Q:Ctr:=⟨[tI,tI],[tI],fun _=>True,fun x=>(bK x.1 x.2.1,())⟩
theorem a8E:aH Tryz.prog 255 c4Q:=by
 intro F w vs x hF hvs hp
 obtain⟨v,vs',rfl,h1,u,vs'',rfl,h2,h3⟩:=hvs
 have h3:vs''=[]:=h3
 subst h3
 rw[SI h1,SI h2]
 refine(QW x.1 x.2.1 w).mono ?_
 rintro e w' ⟨rfl,rfl⟩
 exact⟨_,rfl,EZ _,dh _ _⟩
theorem JA:aH Tryz.prog 182 (c2J bK):=by
 refine aI ((((nil0.ad nR).ad a1a).ad oV).ad a8E) ⟨[],[],[]⟩ Tryz.func182 rfl (by decide) (fun x=>[]) (fun x hp=>?_)
 obtain⟨x,y,u⟩:=x
 change Int at x
 change Int at y
 refine aO ((True/\True/\True)/\ifB (Int.sign x != Int.sign y) ((True/\True)/\True/\bK (Int.sign x) (Int.sign y)=bK x y/\True) ((True/\True/\(Canon (dig (Int.natAbs x))/\Canon (dig (Int.natAbs y)))/\True)/\ifB (decide (x<0)) (True/\IntKind.wrap IntKind.i64 (0-bK (aB (val (dig (Int.natAbs x)))) (aB (val (dig (Int.natAbs y)))))=bK x y/\True) (True/\bK (aB (val (dig (Int.natAbs x)))) (aB (val (dig (Int.natAbs y))))=bK x y/\True))) (by kernel_rfl) ?_
 try simp only[zP0]
 try dsimp only[aB,asT,aA,aC,Ty.den,Lf.den] at *
 try simp only[zP1]
 simp only[aT]
 refine⟨fun h=>a6H (by simpa using h),fun h=>?_⟩
 have hs:x.sign=y.sign:=by simpa using h
 have ha:=a8D hs (decide (x<0)) (fun _=>rfl)
 have hb:=b2M (x.natAbs:Nat) (y.natAbs:Nat)
 refine⟨⟨bY _,bY _⟩,fun h1=>?_,fun h1=>?_⟩
 ·rw[iw (jf h1)] at ha
  rw[IntKind.wrap_i64,<-ha];omega
 ·rw[je h1] at ha
  exact ha
theorem AA:aH Tryz.prog 213 (cZ2 fun x y=>((Int.gcd x y:Nat):Int)):=by
 refine aI ((((((nil0.ad nR).ad AX).ad a2f).ad KY).ad a7L).ad b2r) ⟨[4],[],[]⟩ Tryz.func213 rfl (by decide) (fun x=>[.inv (GcO x.1 x.2.1) (fun p=>[(5,.val tG p.1.1),(6,.val tG p.1.2)]) (fun p=>[(4,.box [⟨tZ,(0:Int)⟩])]) (fun p=>val p.1.2) ⟨(dig (Int.natAbs x.1),dig (Int.natAbs x.2.1)),bY _,bY _,fun h=>h,by rw[aT,aT];rfl⟩ (fun p=>[
  .inv (GcI x.1 x.2.1 p) (fun q=>[(7,.val tU (q.1.1:Int)),(9,.val tU (q.1.2:Int))]) (fun q=>[(4,.box [⟨tZ,(0:Int)⟩])]) (fun q=>q.1.2) ⟨(val p.1.1,val p.1.2),fun h=>⟨b6E p.2.1 h.1,b6E p.2.2.1 h.2⟩,p.2.2.2.2⟩ (fun _=>[])])]) (fun x hp=>?_)
 obtain⟨x,y,u⟩:=x
 change Int at x
 change Int at y
 refine aO ((True/\True/\True)/\(dig (Int.natAbs x)=dig (Int.natAbs x)/\dig (Int.natAbs y)=dig (Int.natAbs y)/\asT Int 0=0/\True)/\∀ (i:GcO x y),let A₁:=(if List.length (aA i).2<=2 then (aB (val (aA i).2),true,()) else (0,false,()));let A₂:=(val (aA i).1);let A₀:=(if List.length (aA i).1<=2 then (aB A₂,true,()) else (0,false,()));asT Bool true=true/\ifB (decide (aB (aA i).2.length > 0)) ((Low (aA i).1/\True)/\(Low (aA i).2/\True)/\((Prod.fst A₀.2=true->(Prod.fst A₀.2==true)=true)/\True)/\ifB (bif Prod.fst A₀.2 then Prod.fst A₁.2 else false) ((Prod.fst A₀=aB A₂/\Prod.fst A₁=aB (val (aA i).2)/\asT Int 0=0/\True)/\∀ (i_1:GcI x y i),let aN:=(aB (aA i_1).1);asT Bool true=true/\ifB (decide (aB (aA i_1).2 > 0)) ((aB (aA i_1).2≠0/\True)/\∃ (i':GcI x y i),Prod.snd (aA i')<Prod.snd (aA i_1)/\aB (aA i_1).2=aB (aA i').1/\Int.tmod aN (aB (aA i_1).2)=aB (aA i').2/\asT Int 0=0/\True) (((0<=aB (aA i_1).1/\aB (aA i_1).1<18446744073709551616)/\Low (dig aN.toNat)/\True)/\True/\sg false (val (dig aN.toNat))=aB (Int.gcd x y)/\True)) (((Canon (aA i).1/\Canon (aA i).2/\List.length (aA i).1<=1000000000/\Prod.snd (aA i)≠aC Nat)/\True)/\∃ (i':GcO x y),val (aA i').2<val (aA i).2/\Prod.snd (aA i)=Prod.fst (aA i')/\dig (val (aA i).1%val (aA i).2)=Prod.snd (aA i')/\asT Int 0=0/\True)) ((List.length (aA i).1<=1000000000/\Low (aA i).1/\True)/\True/\sg false A₂=aB (Int.gcd x y)/\True)) (by kernel_rfl) ?_
 try simp only[zP0]
 try dsimp only[aB,asT,aA,aC,Ty.den,Lf.den] at *
 try simp only[zP1]
 have hp:isz x<=1000000000/\isz y<=1000000000:=hp
 rintro⟨⟨a,b⟩,c1,c2,hl,hg⟩
 obtain⟨la,lb⟩:=hl hp
 have c1:Canon a:=c1
 have c2:Canon b:=c2
 have hg:Nat.gcd (val a) (val b)=Int.gcd x y:=hg
 have la:a.length<=1000000000:=la
 have lb:b.length<=1000000000:=lb
 simp only
 refine⟨fun h=>⟨c1.1,c2.1,?_,fun h2=>?_,fun h2=>?_⟩,fun h=>⟨⟨la,c1.1⟩,?_⟩⟩
 ·intro h;rw[h];rfl
 ·have s1:a.length<=2:=Decidable.byContradiction fun e=>by rw[eu e] at h2;cases h2
  have s2:b.length<=2:=Decidable.byContradiction fun e=>by rw[iw s1,eu e] at h2;cases h2
  rw[iw s1,iw s2]
  refine⟨⟨rfl,rfl⟩,?_⟩
  rintro⟨⟨m,n⟩,hb,hg2⟩
  have hb:m<18446744073709551616/\n<18446744073709551616:=hb ⟨s1,s2⟩
  have hg2:Nat.gcd m n=Int.gcd x y:=hg2
  simp only
  refine⟨fun h3=>⟨by omega,⟨(n,m%n),fun _=>⟨hb.2,Nat.lt_of_le_of_lt (Nat.mod_le _ _) hb.1⟩,?_⟩,Ae _ (by omega),rfl,rfl⟩,fun h3=>⟨⟨by omega,bC _⟩,?_⟩⟩
  ·show Nat.gcd n (m%n)=_
   rw[<-hg2,Nat.gcd_comm m n,Nat.gcd_rec n m,Nat.gcd_comm]
  ·rw[aT,<-hg2,show n=0 by omega,Nat.gcd_zero_right];rfl
 ·have hb0:b≠[]:=fun e=>by rw[e] at h;exact absurd h (by decide)
  have hv:0<val b:=Nat.pos_of_ne_zero fun e=>hb0 (by rw[<-dR c2,e];exact iF.2 rfl)
  have hlt:=Ae (val a) hv
  refine⟨⟨c1,c2,la,hb0⟩,⟨(b,dig (val a%val b)),c2,bY _,fun _=>⟨lb,?_⟩,?_⟩,?_,rfl,rfl⟩
  ·have:=aQ (show val a%val b<=val b by omega)
   rw[dR c2] at this
   exact ak this lb
  ·show Nat.gcd (val b) (val (dig (val a%val b)))=_
   rw[aT,<-hg,Nat.gcd_comm (val a),Nat.gcd_rec (val b) (val a),Nat.gcd_comm]
  ·show val (dig (val a%val b))<val b
   rw[aT];exact hlt
 ·have:b=[]:=jm (by omega)
  rw[<-hg,this]
  show _=((Nat.gcd (val a) 0:Nat):Int)
  rw[Nat.gcd_zero_right];rfl
set_option maxHeartbeats 4000000
def wG (x y:Rat):Int:=if x<y then -1 else if y<x then 1 else 0
theorem b2N (x y:Rat):bK (x.num*y.den) (y.num*x.den)=wG x y:=by
 unfold bK wG
 simp only[a3H]
set_option maxHeartbeats 1000000
theorem c3I:isz 1=1:=by decide +kernel
theorem a9S {x:Int} (h:bP x):isz x<=3:=a9Q (by obtain⟨a,b⟩:=h;rw[bM];omega)
theorem b3d (q:Rat):(0:Int)<(q.den:Int):=lH q
theorem ER (q:Rat):((q.den:Nat):Int)≠0:=by have:=lH q;omega
theorem a3v (q:Rat):Rat.divInt q.num (q.den:Int)=q:=Rat.num_divInt_den q
theorem b0H (q:Rat):Rat.divInt (-q.num) (q.den:Int)=-q:=by
 have:=a3v (-q)
 rwa [BG,BF] at this
theorem sz8 {q:Rat} {K:Nat} (h:rsz q<=K):isz q.num<=K/\isz (q.den:Int)<=K:=⟨ak (gX q) h,ak (fU q) h⟩
theorem JK {x y:Int} {K L:Nat} (hx:isz x<=K) (hy:isz y<=L):isz (x*y)<=K+L:=by have:=fJ x y;omega
theorem c1k {x:Int}:(x.sign==0)=decide (x=0):=by
 by_cases h:x=0
 ·subst h;rfl
 ·rw[je h];exact uo.mpr fun e=>h (vg.1 e)
theorem c2N (n:Nat):(bK (n:Int) 1==0)=decide (n=1):=by
 unfold bK
 rcases Nat.lt_trichotomy n 1 with h|h|h
 ·rw[iw (by omega),je (by omega)];rfl
 ·rw[eu (by omega),eu (by omega),jf h];rfl
 ·rw[eu (by omega),iw (by omega),je (by omega)];rfl
theorem rd8 {x y a b:Int} (h:a=(Rat.divInt x y).num/\b=((Rat.divInt x y).den:Int)):0<b/\Int.gcd a b=1/\Rat.divInt a b=Rat.divInt x y:=by
 rw[h.1,h.2]
 exact⟨b3d _,JW _,a3v _⟩
abbrev tV:Ty:=.lf .FV
def cIV:Ctr:=⟨[tV],[tB],fun x=>True,fun x=>((show iG from x.1).ok,())⟩
theorem a8q {f:FuncId} (h:∀ (v:Value) (ok:Bool) (x:Int) (w:World),tY w v ok x->Calls Tryz.prog f #[v] w (fun e w'=>e=.returned (.bool ok)/\Below w.heap.size w w')):aH Tryz.prog f cIV:=by
 intro F w vs x hF hvs hp
 obtain⟨v,vs',rfl,h1,h3⟩:=hvs
 have h3:vs'=[]:=h3
 subst h3
 obtain⟨cs,rfl,b,p,c,rfl,h2,_⟩:=h1
 refine(h _ _ _ w h2).mono ?_
 rintro e w' ⟨rfl,hb⟩
 exact⟨_,rfl,VE _,hb⟩
theorem NZ:aH Tryz.prog 175 cIZ:=(a2X fun x w h0 h1=>b0I x w h0 h1)
theorem b6I:aH Tryz.prog 212 cIV:=(a8q fun v ok x w h=>a4m v ok x w h)
abbrev tP:Ty:=.pair tV (.pair tV .unit)
def a2L (x y:iG):Bool:=x.ok&&(y.ok&&(decide (0<y.x)&&decide (Int.gcd x.x y.x=1)))
def b6V (K:Nat):Ctr:=⟨[tP],[tB],fun x=>isz (show iG from x.1.1).x<=K/\isz (show iG from x.1.2.1).x<=K,fun x=>(a2L x.1.1 x.1.2.1,())⟩
theorem b5B:aH Tryz.prog 126 (b6V 1000000000):=by
 refine aI (((((nil0.ad NZ).ad AA).ad oV).ad JA).ad b6I) ⟨[],[],[]⟩ Tryz.func126 rfl (by decide) (fun x=>[]) (fun x hp=>?_)
 obtain⟨x,u⟩:=x
 change iG × iG × Unit at x
 refine aO (let A₁:=(asT iG x.1);let A₂:=(asT iG x.2.1);let A₀:=(bif !iG.ok A₁ then true else !iG.ok A₂);let aN:=((!iG.ok A₁)==false);let aU:=((A₀==false)=true->(A₀==false)=true/\True);let aX:=(aN=true->aN=true/\True);(True/\aX/\(aN=true->aN=true/\True/\True)/\aX/\((!iG.ok A₁)=false->aN=true)/\aU/\((A₀==false)=true->(A₀==false)=true/\iG.ok A₂=true/\True/\True)/\aU/\(A₀=false->(A₀==false)=true)/\True)/\ifB (bif bif !iG.ok A₁ then true else !iG.ok A₂ then true else decide (Int.sign (iG.x A₂)<=0)) (True/\false=a2L A₁ A₂/\True) ((iG.ok A₁=true/\iG.ok A₂=true/\(isz (iG.x A₁)<=1000000000/\isz (iG.x A₂)<=1000000000)/\bP 1/\True/\True)/\True/\(bK (aB (Int.gcd (iG.x A₁) (iG.x A₂))) 1==0)=a2L A₁ A₂/\True)) (by kernel_rfl) ?_
 try simp only[zP0]
 try dsimp only[aB,asT,aA,aC,Ty.den,Lf.den] at *
 try simp only[zP1]
 obtain⟨⟨o1,n,g⟩,⟨o2,d,h⟩,u⟩:=x
 have e:(d.sign<=0)=¬ 0<d:=propext (by rw[<-Int.sign_pos_iff];omega)
 simp only[e,c2N,a2L] at *
 cases o1<;>cases o2<;>simp
 by_cases hd:0<d
 ·simp[hd]
  exact⟨fun h=>absurd hd (by omega),hp,by omega,by omega⟩
 ·simp[hd]
noncomputable def c5H:Ctr:=⟨[tZ,tZ],[tQ],fun x=>isz x.1<=1000000000/\isz x.2.1<=1000000000/\(show Int from x.2.1)≠0,fun x=>(Rat.divInt x.1 x.2.1,())⟩
theorem PW:aH Tryz.prog 180 c5H:=by
 refine aI ((((nil0.ad AA).ad uN).ad oV).ad zY) ⟨[4,5,2,3],[],[]⟩ Tryz.func180 rfl (by decide) (fun x=>[]) (fun x hp=>?_)
 obtain⟨x,y,u⟩:=x
 change Int at x
 change Int at y
 refine aO (let A₀:=(aB (Int.gcd (-x) (-y)));let A₁:=(Int.fdiv x (aB (Int.gcd x y)));let A₂:=(Int.fdiv y (aB (Int.gcd x y)));(True/\True)/\ifB (decide (Int.sign y<0)) ((isz x<=1000000000/\isz y<=1000000000/\True)/\((isz (-x)<=1000000000/\isz (-y)<=1000000000)/\True)/\((isz (-x)<=1000000000/\isz A₀<=1000000000/\aB (Int.gcd (-x) (-y))≠0)/\True)/\((isz (-y)<=1000000000/\isz A₀<=1000000000/\aB (Int.gcd (-x) (-y))≠0)/\True)/\(0<Int.fdiv (-y) A₀/\Int.gcd (Int.fdiv (-x) A₀) (Int.fdiv (-y) A₀)=1/\True)/\Rat.divInt (Int.fdiv (-x) A₀) (Int.fdiv (-y) A₀)=Rat.divInt x y/\True) (((isz x<=1000000000/\isz y<=1000000000)/\True)/\((isz x<=1000000000/\isz (aB (Int.gcd x y))<=1000000000/\aB (Int.gcd x y)≠0)/\True)/\((isz y<=1000000000/\isz (aB (Int.gcd x y))<=1000000000/\aB (Int.gcd x y)≠0)/\True)/\(0<Int.fdiv y (aB (Int.gcd x y))/\Int.gcd A₁ A₂=1/\True)/\Rat.divInt A₁ A₂=Rat.divInt x y/\True)) (by kernel_rfl) ?_
 try simp only[zP0]
 try dsimp only[aB,asT,aA,aC,Ty.den,Lf.den] at *
 try simp only[zP1]
 obtain⟨l1,l2,hy⟩:isz x<=1000000000/\isz y<=1000000000/\y≠0:=hp
 have hy':-y≠0:=by omega
 refine⟨fun h=>⟨⟨l1,l2⟩,⟨by rw[jJ];exact l1,by rw[jJ];exact l2⟩,⟨by rw[jJ];exact l1,jT hy' (by rw[jJ];exact l2),gcd_ne hy'⟩,⟨by rw[jJ];exact l2,jT hy' (by rw[jJ];exact l2),gcd_ne hy'⟩,?_⟩,fun h=>⟨⟨l1,l2⟩,⟨l1,jT hy l2,gcd_ne hy⟩,⟨l2,jT hy l2,gcd_ne hy⟩,?_⟩⟩
 ·have:=rd8 (a0a (n:=x) (Ac.1 h))
  exact⟨⟨this.1,this.2.1⟩,this.2.2⟩
 ·have h0:¬ y<0:=fun e=>h (Ac.2 e)
  have:=rd8 (IJ (n:=x) (show 0<y by omega))
  exact⟨⟨this.1,this.2.1⟩,this.2.2⟩
theorem b2O:aH Tryz.prog 256 (cZ1 fun x=>x):=by
 refine aI ((nil0.ad NZ).ad b6I) ⟨[2],[],[]⟩ Tryz.func256 rfl (by decide) (fun x=>[]) (fun x hp=>?_)
 obtain⟨x,u⟩:=x
 change Int at x
 refine aO ((True/\True)/\True/\x=x/\True) (by kernel_rfl) ?_
 exact⟨⟨trivial,trivial⟩,trivial,rfl,trivial⟩
theorem sN:aH Tryz.prog 90 (cIQ bP (fun i=>(i:Rat))):=by
 refine aI (nil0.ad NZ) ⟨[2],[],[]⟩ Tryz.func90 rfl (by decide) (fun x=>[]) (fun x hp=>?_)
 obtain⟨n,u⟩:=x
 change Int at n
 refine aO ((bP n/\bP 1/\True)/\(asT Int 0<1/\Int.gcd n 1=1/\True)/\Rat.divInt n 1=aV n/\True) (by kernel_rfl) ?_
 try simp only[zP0]
 try dsimp only[aB,asT,aA,aC,Ty.den,Lf.den] at *
 try simp only[zP1]
 exact⟨⟨hp,by omega,by omega⟩,⟨by omega,Int.gcd_one_right _⟩,by rw[show (1:Int)=((1:Nat):Int) from rfl,Rat.divInt_ofNat];exact Rat.mkRat_one n⟩
theorem b2S:aH Tryz.prog 250 (cQ1 (fun x=>rsz x<=1000000000) (fun x=>x)):=by
 refine aI (nil0.ad uN) ⟨[2],[],[]⟩ Tryz.func250 rfl (by decide) (fun x=>[]) (fun x hp=>?_)
 obtain⟨x,u⟩:=x
 change Rat at x
 refine aO ((isz (Rat.num x)<=1000000000/\isz (-Rat.num x)<=1000000000/\isz (aB (Rat.den x))<=1000000000/\isz (-aB (Rat.den x))<=1000000000/\True)/\(0 < - -aB (Rat.den x)/\Int.gcd (- -Rat.num x) (- -aB (Rat.den x))=1/\True)/\Rat.divInt (- -Rat.num x) (- -aB (Rat.den x))=x/\True) (by kernel_rfl) ?_
 try simp only[zP0]
 try dsimp only[aB,asT,aA,aC,Ty.den,Lf.den] at *
 try simp only[zP1]
 obtain⟨a,b⟩:=sz8 (show rsz x<=1000000000 from hp)
 simp only[Int.neg_neg,jJ]
 exact⟨⟨a,a,b,b⟩,⟨b3d x,JW x⟩,a3v x⟩
theorem b2p {f:FuncId} {K:Nat} (hf:aH Tryz.prog f (b6V K)):aH Tryz.prog f (cVal K):=fun F w vs x hF hvs hp=>by
 obtain⟨v,vs',rfl,h1,h3⟩:=hvs
 have h3:vs'=[]:=h3
 subst h3
 obtain⟨cs,rfl,b,p,c,b',p',c',rfl,h2,h4,h5⟩:=h1
 obtain⟨_,_,_,_,o1,o2,n,d,e,k1,k2,k3,_⟩:=h2
 simp only[Value.agg.injEq,Array.mk.injEq,List.cons.injEq,Dk] at e
 obtain⟨rfl,rfl,rfl,rfl⟩:=e
 rw[show (cVal K).fn x=(a2L ⟨o1,n,(show aG from x.1).g⟩ ⟨o2,d,(show aG from x.1).h⟩,()) from ql (fun o=>(o,())) k3]
 exact hf F w _ ((⟨o1,n,(show aG from x.1).g⟩,⟨o2,d,(show aG from x.1).h⟩,()),()) hF ⟨_,_,rfl,⟨_,rfl,[.bool b,.slice p (aG.n x.1) c],[.bool b',.slice p' (aG.m x.1) c'],rfl,⟨b,p,c,rfl,k1,h4⟩,[.bool b',.slice p' (aG.m x.1) c'],[],rfl,⟨b',p',c',rfl,k2,h5⟩,rfl⟩,rfl⟩ ⟨ak k1.raw.len hp.1,ak k2.raw.len hp.2⟩
theorem QD:aH Tryz.prog 126 (cVal 1000000000):=b2p b5B
theorem DZ:aH Tryz.prog 178 (cQ1 (fun x=>rsz x<=1000000000) (fun x=>x)):=by
 refine aI (((nil0.ad sN).ad b2S).ad QD) ⟨[2],[],[]⟩ Tryz.func178 rfl (by decide) (fun x=>[]) (fun x hp=>?_)
 obtain⟨x,u⟩:=x
 change Rat at x
 refine aO (((aG.n (dM x)<=1000000000/\aG.m (dM x)<=1000000000)/\True)/\(rsz x<=1000000000/\True)/\True/\x=x/\True) (by kernel_rfl) ?_
 try simp only[zP0]
 try dsimp only[aB,asT,aA,aC,Ty.den,Lf.den] at *
 try simp only[zP1]
 have hp:rsz x<=1000000000:=hp
 obtain⟨a,b⟩:=sz8 hp
 exact⟨⟨a,b⟩,hp⟩
theorem IQ:aH Tryz.prog 183 (cNew 1000000000 14):=by
 refine aI (((nil0.ad oV).ad PW).ad b2O) ⟨[4,2,3],[],[]⟩ Tryz.func183 rfl (by decide) (fun x=>[]) (fun x hp=>?_)
 obtain⟨x,y,u⟩:=x
 change Int at x
 change Int at y
 refine aO ((isz x<=1000000000/\isz y<=1000000000/\True)/\(True/\True)/\ifB (Int.sign y==0) (True/\bF=Prod.fst (newT 14 x y)/\True/\14=Prod.fst (newT 14 x y).2/\True) (((isz x<=1000000000/\isz y<=1000000000/\y≠0)/\True)/\True/\dM (Rat.divInt x y)=Prod.fst (newT 14 x y)/\True/\0=Prod.fst (newT 14 x y).2/\True)) (by kernel_rfl) ?_
 try simp only[zP0]
 try dsimp only[aB,asT,aA,aC,Ty.den,Lf.den] at *
 try simp only[zP1]
 obtain⟨l1,l2⟩:isz x<=1000000000/\isz y<=1000000000:=hp
 rw[c1k]
 refine⟨⟨l1,l2⟩,fun h=>?_,fun h=>?_⟩
 ·unfold newT;rw[iw (og h)];exact⟨rfl,rfl⟩
 ·unfold newT;rw[eu (yg h)];exact⟨⟨l1,l2,yg h⟩,rfl,rfl⟩
theorem a5b:aH Tryz.prog 147 b5N:=by
 refine aI ((nil0.ad NZ).ad IQ) ⟨[4],[],[]⟩ Tryz.func147 rfl (by decide) (fun x=>[]) (fun x hp=>?_)
 obtain⟨x,y,u⟩:=x
 change Int at x
 change Int at y
 refine aO ((bP x/\bP y/\(isz x<=1000000000/\isz y<=1000000000)/\True)/\(aG.ok (newT 14 x y).1=true/\True)/\aG.x (newT 14 x y).1=Rat.divInt x y/\True/\Prod.fst (newT 14 x y).2=0/\True) (by kernel_rfl) ?_
 try simp only[zP0]
 try dsimp only[aB,asT,aA,aC,Ty.den,Lf.den] at *
 try simp only[zP1]
 obtain⟨h1,h2,h3⟩:bP x/\bP y/\y≠0:=hp
 rw[show newT 14 x y=(dM (Rat.divInt x y),0,()) from eu h3]
 exact⟨⟨h1,h2,ak (a9S h1) (by omega),ak (a9S h2) (by omega)⟩,rfl,rfl,rfl⟩
theorem vS:aH Tryz.prog 127 (cQI (fun x=>rsz x<=1000000000) (fun x=>sgn x.num)):=by
 refine aI ((nil0.ad oV).ad DZ) ⟨[],[],[]⟩ Tryz.func127 rfl (by decide) (fun x=>[]) (fun x hp=>?_)
 obtain⟨x,u⟩:=x
 change Rat at x
 refine aO ((rsz x<=1000000000/\True/\True)/\True/\Int.sign (Rat.num x)=sgn (Rat.num x)/\True) (by kernel_rfl) ?_
 try simp only[zP0]
 try dsimp only[aB,asT,aA,aC,Ty.den,Lf.den] at *
 try simp only[zP1]
 exact⟨hp,rfl⟩
theorem IL:aH Tryz.prog 172 (cQ1 s4 (fun x=>-x)):=by
 refine aI ((nil0.ad uN).ad DZ) ⟨[2,1],[],[]⟩ Tryz.func172 rfl (by decide) (fun x=>[]) (fun x hp=>?_)
 obtain⟨x,u⟩:=x
 change Rat at x
 refine aO ((rsz x<=1000000000/\True)/\(isz (Rat.num x)<=1000000000/\True)/\(0<aB (Rat.den x)/\Int.gcd (-Rat.num x) (aB (Rat.den x))=1/\True)/\Rat.divInt (-Rat.num x) (aB (Rat.den x))=-x/\True) (by kernel_rfl) ?_
 try simp only[zP0]
 try dsimp only[aB,asT,aA,aC,Ty.den,Lf.den] at *
 try simp only[zP1]
 have hp:rsz x<=400000000:=hp
 obtain⟨a,b⟩:=sz8 hp
 exact⟨by omega,by omega,⟨b3d x,by have:=JW (-x);rwa [BG,BF] at this⟩,b0H x⟩
theorem vN:aH Tryz.prog 173 (cQ2 s44 (·+·)):=by
 refine aI ((((nil0.ad oU).ad SE).ad PW).ad DZ) ⟨[4,2,3],[],[]⟩ Tryz.func173 rfl (by decide) (fun x=>[]) (fun x hp=>?_)
 obtain⟨x,y,u⟩:=x
 change Rat at x
 change Rat at y
 refine aO ((rsz x<=1000000000/\rsz y<=1000000000/\True)/\((isz (Rat.num x)<=1000000000/\isz (aB (Rat.den y))<=1000000000)/\(isz (Rat.num y)<=1000000000/\isz (aB (Rat.den x))<=1000000000)/\(isz (Rat.num x*aB (Rat.den y))<=1000000000/\isz (Rat.num y*aB (Rat.den x))<=1000000000)/\(isz (aB (Rat.den x))<=1000000000/\isz (aB (Rat.den y))<=1000000000)/\(isz (Rat.num x*aB (Rat.den y)+Rat.num y*aB (Rat.den x))<=1000000000/\isz (aB (Rat.den x)*aB (Rat.den y))<=1000000000/\aB (Rat.den x)*aB (Rat.den y)≠0)/\True)/\True/\Rat.divInt (Rat.num x*aB (Rat.den y)+Rat.num y*aB (Rat.den x)) (aB (Rat.den x)*aB (Rat.den y))=x+y/\True) (by kernel_rfl) ?_
 try simp only[zP0]
 try dsimp only[aB,asT,aA,aC,Ty.den,Lf.den] at *
 try simp only[zP1]
 obtain⟨l1,l2⟩:rsz x<=400000000/\rsz y<=400000000:=hp
 obtain⟨a,b⟩:=sz8 l1
 obtain⟨c,d⟩:=sz8 l2
 have m1:=JK a d
 have m2:=JK c b
 have m3:=JK b d
 have m4:=sG (x.num*y.den) (y.num*x.den)
 exact⟨⟨by omega,by omega⟩,⟨⟨by omega,by omega⟩,⟨by omega,by omega⟩,⟨by omega,by omega⟩,⟨by omega,by omega⟩,by omega,by omega,Dl (ER x) (ER y)⟩,PU x y⟩
theorem sF:aH Tryz.prog 89 (cQ2 s44 (·*·)):=by
 refine aI (((nil0.ad oU).ad PW).ad DZ) ⟨[4,2,3],[],[]⟩ Tryz.func89 rfl (by decide) (fun x=>[]) (fun x hp=>?_)
 obtain⟨x,y,u⟩:=x
 change Rat at x
 change Rat at y
 refine aO ((rsz x<=1000000000/\rsz y<=1000000000/\True)/\((isz (Rat.num x)<=1000000000/\isz (Rat.num y)<=1000000000)/\(isz (aB (Rat.den x))<=1000000000/\isz (aB (Rat.den y))<=1000000000)/\(isz (Rat.num x*Rat.num y)<=1000000000/\isz (aB (Rat.den x)*aB (Rat.den y))<=1000000000/\aB (Rat.den x)*aB (Rat.den y)≠0)/\True)/\True/\Rat.divInt (Rat.num x*Rat.num y) (aB (Rat.den x)*aB (Rat.den y))=x*y/\True) (by kernel_rfl) ?_
 try simp only[zP0]
 try dsimp only[aB,asT,aA,aC,Ty.den,Lf.den] at *
 try simp only[zP1]
 obtain⟨l1,l2⟩:rsz x<=400000000/\rsz y<=400000000:=hp
 obtain⟨a,b⟩:=sz8 l1
 obtain⟨c,d⟩:=sz8 l2
 have m1:=JK a c
 have m3:=JK b d
 exact⟨⟨by omega,by omega⟩,⟨⟨by omega,by omega⟩,⟨by omega,by omega⟩,by omega,by omega,Dl (ER x) (ER y)⟩,JX x y⟩
theorem OM:aH Tryz.prog 87 (a8n 400000000 14):=by
 refine aI ((((nil0.ad oU).ad oV).ad PW).ad DZ) ⟨[4,2,3],[],[]⟩ Tryz.func87 rfl (by decide) (fun x=>[]) (fun x hp=>?_)
 obtain⟨x,y,u⟩:=x
 change Rat at x
 change Rat at y
 refine aO ((rsz x<=1000000000/\rsz y<=1000000000/\True)/\(True/\True)/\ifB (Int.sign (Rat.num y)==0) (True/\bF=Prod.fst (VQ 14 x y)/\True/\14=Prod.fst (VQ 14 x y).2/\True) (((isz (Rat.num x)<=1000000000/\isz (aB (Rat.den y))<=1000000000)/\(isz (aB (Rat.den x))<=1000000000/\isz (Rat.num y)<=1000000000)/\(isz (Rat.num x*aB (Rat.den y))<=1000000000/\isz (aB (Rat.den x)*Rat.num y)<=1000000000/\aB (Rat.den x)*Rat.num y≠0)/\True)/\True/\dM (Rat.divInt (Rat.num x*aB (Rat.den y)) (aB (Rat.den x)*Rat.num y))=Prod.fst (VQ 14 x y)/\True/\0=Prod.fst (VQ 14 x y).2/\True)) (by kernel_rfl) ?_
 try simp only[zP0]
 try dsimp only[aB,asT,aA,aC,Ty.den,Lf.den] at *
 try simp only[zP1]
 obtain⟨l1,l2⟩:rsz x<=400000000/\rsz y<=400000000:=hp
 obtain⟨a,b⟩:=sz8 l1
 obtain⟨c,d⟩:=sz8 l2
 have m1:=JK a d
 have m3:=JK b c
 rw[c1k]
 refine⟨⟨by omega,by omega⟩,fun h=>?_,fun h=>?_⟩
 ·unfold VQ;rw[iw ((pO y).1 (og h))];exact⟨rfl,rfl⟩
 ·have h0:=yg h
  unfold VQ;rw[eu (fun e=>h0 ((pO y).2 e)),PV]
  exact⟨⟨⟨by omega,by omega⟩,⟨by omega,by omega⟩,by omega,by omega,Dl (ER x) h0⟩,rfl,rfl⟩
theorem ZY:aH Tryz.prog 128 (b2D s44 wG):=by
 refine aI (((nil0.ad oU).ad JA).ad DZ) ⟨[2,3],[],[]⟩ Tryz.func128 rfl (by decide) (fun x=>[]) (fun x hp=>?_)
 obtain⟨x,y,u⟩:=x
 change Rat at x
 change Rat at y
 refine aO ((rsz x<=1000000000/\rsz y<=1000000000/\True)/\((isz (Rat.num x)<=1000000000/\isz (aB (Rat.den y))<=1000000000)/\(isz (Rat.num y)<=1000000000/\isz (aB (Rat.den x))<=1000000000)/\True/\True)/\True/\bK (Rat.num x*aB (Rat.den y)) (Rat.num y*aB (Rat.den x))=wG x y/\True) (by kernel_rfl) ?_
 try simp only[zP0]
 try dsimp only[aB,asT,aA,aC,Ty.den,Lf.den] at *
 try simp only[zP1]
 obtain⟨l1,l2⟩:rsz x<=400000000/\rsz y<=400000000:=hp
 obtain⟨a,b⟩:=sz8 l1
 obtain⟨c,d⟩:=sz8 l2
 exact⟨⟨by omega,by omega⟩,⟨⟨by omega,by omega⟩,by omega,by omega⟩,b2N x y⟩
theorem IU:aH Tryz.prog 186 (cQ2 s44 (·-·)):=by
 refine aI ((nil0.ad IL).ad vN) ⟨[4],[],[]⟩ Tryz.func186 rfl (by decide) (fun x=>[]) (fun x hp=>?_)
 obtain⟨x,y,u⟩:=x
 change Rat at x
 change Rat at y
 refine aO ((s4 y/\s44 x (-y)/\True)/\True/\x+-y=x-y/\True) (by kernel_rfl) ?_
 try simp only[zP0]
 try dsimp only[aB,asT,aA,aC,Ty.den,Lf.den] at *
 try simp only[zP1]
 obtain⟨l1,l2⟩:rsz x<=400000000/\rsz y<=400000000:=hp
 obtain⟨a,b⟩:=sz8 l1
 obtain⟨c,d⟩:=sz8 l2
 exact⟨⟨l2,l1,by rw[jE];exact l2⟩,(Dz x y).symm⟩
set_option maxRecDepth 20000
noncomputable def LCa:Lib:=((((((((Lib.nil
 ).add 90 (cIQ bP (fun i=>(i:Rat))) sN
 ).add 126 (cVal 1000000000) QD
 ).add 173 (cQ2 s44 (·+·)) vN
 ).add 89 (cQ2 s44 (·*·)) sF
 ).add 186 (cQ2 s44 (·-·)) IU
 ).add 128 (b2D s44 wG) ZY
 ).add 87 (a8n 400000000 14) OM
 ).add 127 (cQI (fun x=>rsz x<=1000000000) (fun x=>sgn x.num)) vS
set_option maxRecDepth 100000
abbrev LR:Type:=List aG
def yL (q:aG):Prop:=q.n<=1000000000/\q.m<=1000000000
def oC {α:Type} (p:α->Bool) (xs:List α):Int:=if xs.any p then (xs.findIdx p:Nat) else -1
theorem wQ {α:Type} {p:α->Bool} {xs:List α} {i:Nat} {d:α} (hi:i<xs.length) (h0:(xs.take i).any p=false) (h:p (xs.getD i d)=true):oC p xs=(i:Nat):=by
 have h1:xs.getD i d=xs[i]:=by rw[bf,bn hi];rfl
 rw[h1] at h
 have h2:xs.findIdx p=i:=by
  rw[List.findIdx_eq hi]
  refine⟨h,fun j hj=>?_⟩
  have:=Dn.mp h0 xs[j] (List.mem_take_iff_getElem.mpr ⟨j,by omega,rfl⟩)
  simpa using this
 unfold oC
 rw[iw (Bl.mpr ⟨_,Am hi,h⟩),h2]
theorem CV {α:Type} {p:α->Bool} {xs:List α} (h:xs.any p=false):oC p xs=-1:=by unfold oC;rw[h];rfl
theorem wR {α:Type} (p:α->Bool) (xs:List α):decide (oC p xs ≥ 0)=xs.any p:=by
 unfold oC;cases h:xs.any p
 ·rfl
 ·simp
theorem uD {α:Type} {p:α->Bool} {xs:List α} {i:Nat} {d:α} (hi:i<xs.length):(xs.take (i+1)).any p=((xs.take i).any p || p (xs.getD i d)):=by
 rw[Ci,List.any_append,bf,bn hi]
 simp
theorem cZ {α:Type} {p:α->Prop} {xs:List α} (h:∀ x ∈ xs,p x) {i:Nat} (hi:i<xs.length) {d:α}:p (xs.getD i d):=by
 rw[bf,bn hi];exact h _ (Am hi)
theorem aJ {n:Int} (h0:-9223372036854775808<=n) (h1:n<=9223372036854775807):IntKind.wrap .i64 n=n:=by
 unfold IntKind.wrap
 simp only[IntKind.bits,IntKind.signed,Bool.true_and,gy,Nat.reduceSub,Int.reducePow,ge_iff_le]
 split<;>omega
noncomputable def c4I:Ctr:=⟨[tR],[tB],fun x=>yL x.1,fun x=>(!(show aG from x.1).ok,())⟩
theorem ZM:aH Tryz.prog 275 c4I:=by
 refine mG (nil0.ad QD) [] Tryz.func275 rfl (by decide) (fun x=>[]) (fun x hp=>?_)
 obtain⟨x,u⟩:=x
 change aG at x
 refine aO (((aG.n x<=1000000000/\aG.m x<=1000000000)/\True)/\True/\(!aG.ok x)=!aG.ok x/\True) (by kernel_rfl) ?_
 exact⟨⟨hp,trivial⟩,trivial,rfl,trivial⟩
noncomputable def c5s:Ctr:=⟨[.list tR,.clo 275 .unit],[tI],fun x=>(show LR from x.1).length<=1000000/\∀ q ∈ (show LR from x.1),yL q,fun x=>(oC (fun q:aG=>!q.ok) (show LR from x.1),())⟩
theorem b3N:aH Tryz.prog 211 c5s:=by
 refine mG (nil0.ad ZM) [] Tryz.func211 rfl (by decide) (fun x=>[.inv {k:Nat // k<=(show LR from x.1).length/\((show LR from x.1).take k).any (fun q=>!q.ok)=false} (fun k=>[(8,.val tI (k.1:Int))]) (fun k=>[]) (fun k=>(show LR from x.1).length-k.1) ⟨0,by omega,rfl⟩ (fun _=>[])]) (fun x hp=>?_)
 obtain⟨x,c,u⟩:=x
 change List aG at x
 refine aO ((asT Int 0=0/\True)/\∀ (i:{ k:Nat // k<=List.length x/\(List.any (List.take k x) fun(q:aG)=>!aG.ok q)=false }),asT Bool true=true/\ifB (decide (aB (aA i)<aB x.length)) ((0<=aB (aA i)/\aB (aA i)<aB x.length/\yL (List.getD x (aB (aA i)).toNat { ok:=false,x:=0,g:=aC Nat,h:=aC Nat })/\True)/\ifB (!aG.ok (List.getD x (aB (aA i)).toNat { ok:=false,x:=0,g:=aC Nat,h:=aC Nat })) (True/\aB (aA i)=oC (fun(q:aG)=>!aG.ok q) x/\True) (∃ (i':{ k:Nat // k<=List.length x/\(List.any (List.take k x) fun(q:aG)=>!aG.ok q)=false }),List.length x-aA i'<List.length x-aA i/\IntKind.wrap IntKind.i64 (aB (aA i)+1)=aB (aA i')/\True)) (True/\-1=oC (fun(q:aG)=>!aG.ok q) x/\True)) (by kernel_rfl) ?_
 obtain⟨hl,hb⟩:=hp
 have hZ:(⟨false,0,[],[]⟩:aG)=bF:=rfl
 dsimp only[aB,asT,aA,aC] at *
 simp only[hZ,Int.toNat_natCast,jS,gy,oz,Ee,Dk,yc,Bool.not_eq_false']
 refine fun i=>⟨fun h1=>⟨⟨by omega,h1,cZ hb (by omega)⟩,fun h2=>?_,fun h2=>⟨⟨i.1+1,by omega,?_⟩,by simp only;omega,?_⟩⟩,fun h1=>?_⟩
 ·exact(wQ (d:=bF) (by omega) i.2.2 (by rw[h2];rfl)).symm
 ·rw[uD (d:=bF) (by omega),i.2.2,h2];rfl
 ·rw[aJ (by omega) (by omega)];rfl
 ·have h3:=i.2.2
  rw[jc (by omega)] at h3
  exact(CV h3).symm
noncomputable def c4S:Ctr:=⟨[.list tR,.clo 275 .unit],[tB],fun x=>(show LR from x.1).length<=1000000/\∀ q ∈ (show LR from x.1),yL q,fun x=>((show LR from x.1).any (fun q:aG=>!q.ok),())⟩
theorem b2Q:aH Tryz.prog 123 c4S:=by
 refine mG ((nil0.ad ZM).ad b3N) [] Tryz.func123 rfl (by decide) (fun x=>[]) (fun x hp=>?_)
 obtain⟨x,c,u⟩:=x
 change List aG at x
 refine aO (((List.length x<=1000000/\∀ (q:aG),q ∈ x->yL q)/\True)/\True/\(decide (oC (fun(q:aG)=>!aG.ok q) x ≥ 0)=List.any x fun(q:aG)=>!aG.ok q)/\True) (by kernel_rfl) ?_
 exact⟨⟨hp,trivial⟩,trivial,wR _ _,trivial⟩
noncomputable def c1W:Ctr:=⟨[.list tR],[tB],fun x=>(show LR from x.1).length<=1000000/\∀ q ∈ (show LR from x.1),yL q,fun x=>(!(show LR from x.1).any (fun q:aG=>!q.ok),())⟩
theorem TK:aH Tryz.prog 243 c1W:=by
 refine mG ((nil0.ad ZM).ad b2Q) [] Tryz.func243 rfl (by decide) (fun x=>[]) (fun x hp=>?_)
 obtain⟨x,u⟩:=x
 change List aG at x
 refine aO (((List.length x<=1000000/\∀ (q:aG),q ∈ x->yL q)/\True)/\True/\((!List.any x fun(q:aG)=>!aG.ok q)=!List.any x fun(q:aG)=>!aG.ok q)/\True) (by kernel_rfl) ?_
 exact⟨⟨hp,trivial⟩,trivial,rfl,trivial⟩
abbrev MR:Type:=List (List aG)
abbrev wdM {α:Type} (a:List (List α)):Nat:=(a.getD 0 []).length
def badR (n:Nat) (r:LR):Bool:=!(r.length==n) || r.any (fun q=>!q.ok)
def BO (r:LR):Prop:=r.length<=1000000/\∀ q ∈ r,yL q
theorem a5i (m n:Nat):((m:Int) != (n:Int))=!(m==n):=by
 by_cases h:m=n
 ·subst h;simp
 ·rw[uo.mpr h,bne_iff_ne.mpr (fun h2=>h (by exact_mod_cast h2))];rfl
noncomputable def c1T:Ctr:=⟨[.list tR,.ref tMR],[tB],fun x=>BO x.1/\0<(show MR from x.2.1).length,fun x=>(badR (wdM (show MR from x.2.1)) x.1,())⟩
theorem QN:aH Tryz.prog 242 c1T:=by
 refine mG (nil0.ad TK) [] Tryz.func242 rfl (by decide) (fun x=>[]) (fun x hp=>?_)
 obtain⟨x,a,u⟩:=x
 change List aG at x
 change List (List aG) at a
 refine aO (let A₁:=(List.getD a 0 (aC aG)).length;let A₀:=(aB x.length != aB A₁);(asT Int 0<=0/\0<aB a.length/\((A₀==false)=true->(A₀==false)=true/\(List.length x<=1000000/\∀ (q:aG),q ∈ x->yL q)/\True)/\((A₀==false)=true->(A₀==false)=true/\True)/\(A₀=false->(A₀==false)=true)/\True)/\True/\(bif aB x.length != aB A₁ then true else !!List.any x fun(q:aG)=>!aG.ok q)=badR (wdM a) x/\True) (by kernel_rfl) ?_
 obtain⟨hs,h0⟩:=hp
 dsimp only[aB,asT,aA,aC] at *
 refine⟨⟨by omega,by omega,fun h=>⟨h,hs,trivial⟩,fun h=>⟨h,trivial⟩,fun h=>by rw[h];rfl,trivial⟩,trivial,?_,trivial⟩
 unfold badR
 rw[Bool.not_not,a5i]
 cases x.length==wdM a<;>rfl
noncomputable def c5r:Ctr:=⟨[tMR,.clo 242 (.pair (.ref tMR) .unit)],[tI],fun x=>(show MR from x.1).length<=1000000/\(∀ r ∈ (show MR from x.1),BO r)/\0<(show MR from x.2.1.1).length,fun x=>(oC (badR (wdM (show MR from x.2.1.1))) (show MR from x.1),())⟩
theorem b3M:aH Tryz.prog 166 c5r:=by
 refine mG (nil0.ad QN) [] Tryz.func166 rfl (by decide) (fun x=>[.inv {k:Nat // k<=(show MR from x.1).length/\((show MR from x.1).take k).any (badR (wdM (show MR from x.2.1.1)))=false} (fun k=>[(8,.val tI (k.1:Int))]) (fun k=>[]) (fun k=>(show MR from x.1).length-k.1) ⟨0,by omega,rfl⟩ (fun _=>[])]) (fun x hp=>?_)
 obtain⟨x,⟨a,c⟩,u⟩:=x
 change List (List aG) at x
 change List (List aG) at a
 refine aO ((asT Int 0=0/\True)/\∀ (i:{ k:Nat // k<=List.length x/\List.any (List.take k x) (badR (wdM a))=false }),asT Bool true=true/\ifB (decide (aB (aA i)<aB x.length)) ((0<=aB (aA i)/\aB (aA i)<aB x.length/\(BO (List.getD x (aB (aA i)).toNat (aC aG))/\0<List.length a)/\True)/\ifB (badR (wdM a) (List.getD x (aB (aA i)).toNat (aC aG))) (True/\aB (aA i)=oC (badR (wdM a)) x/\True) (∃ (i':{ k:Nat // k<=List.length x/\List.any (List.take k x) (badR (wdM a))=false }),List.length x-aA i'<List.length x-aA i/\IntKind.wrap IntKind.i64 (aB (aA i)+1)=aB (aA i')/\True)) (True/\-1=oC (badR (wdM a)) x/\True)) (by kernel_rfl) ?_
 obtain⟨hl,hb,h0⟩:=hp
 dsimp only[aB,asT,aA,aC] at *
 simp only[Int.toNat_natCast,jS,gy,oz,Ee,Dk]
 refine fun i=>⟨fun h1=>⟨⟨by omega,h1,cZ hb (by omega),h0⟩,fun h2=>?_,fun h2=>⟨⟨i.1+1,by omega,?_⟩,by simp only;omega,?_⟩⟩,fun h1=>?_⟩
 ·exact(wQ (d:=[]) (by omega) i.2.2 h2).symm
 ·rw[uD (d:=[]) (by omega),i.2.2,h2];rfl
 ·rw[aJ (by omega) (by omega)];rfl
 ·have h3:=i.2.2
  rw[jc (by omega)] at h3
  exact(CV h3).symm
noncomputable def c4R:Ctr:=⟨[tMR,.clo 242 (.pair (.ref tMR) .unit)],[tB],fun x=>(show MR from x.1).length<=1000000/\(∀ r ∈ (show MR from x.1),BO r)/\0<(show MR from x.2.1.1).length,fun x=>((show MR from x.1).any (badR (wdM (show MR from x.2.1.1))),())⟩
theorem b2P:aH Tryz.prog 82 c4R:=by
 refine mG ((nil0.ad QN).ad b3M) [] Tryz.func82 rfl (by decide) (fun x=>[]) (fun x hp=>?_)
 obtain⟨x,⟨a,c⟩,u⟩:=x
 change List (List aG) at x
 change List (List aG) at a
 refine aO (((List.length x<=1000000/\(∀ (r:List aG),r ∈ x->BO r)/\0<List.length a)/\True)/\True/\decide (oC (badR (wdM a)) x ≥ 0)=List.any x (badR (wdM a))/\True) (by kernel_rfl) ?_
 exact⟨⟨hp,trivial⟩,trivial,wR _ _,trivial⟩
def kC (a:MR):Int:=if 1<=a.length/\a.length<=64/\1<=wdM a/\wdM a<=64/\a.any (badR (wdM a))=false then 0 else 1
def pV (a:MR):Prop:=a.length<=1000000/\∀ r ∈ a,BO r
noncomputable def c4K:Ctr:=⟨[tMR],[tI],fun x=>pV x.1,fun x=>(kC x.1,())⟩
theorem qL:aH Tryz.prog 167 c4K:=by
 refine mG ((nil0.ad QN).ad b2P) [] Tryz.func167 rfl (by decide) (fun x=>[]) (fun x hp=>?_)
 obtain⟨a,u⟩:=x
 change List (List aG) at a
 refine aO (let A₂:=(aB a.length<1);let aU:=(List.getD a 0 (aC aG)).length;let aX:=(aB a.length > 64);let A₀:=(bif bif decide A₂ then true else decide aX then true else decide (aB aU<1));let aN:=((A₀==false)=true->(A₀==false)=true/\True);let bJ:=((decide A₂==false)=true->(decide A₂==false)=true/\True);let dF:=(bif decide A₂ then true else decide aX);let A₁:=(dF==false);let dA:=(A₁=true->A₁=true/\True);(bJ/\bJ/\(decide A₂=false->(decide A₂==false)=true)/\(A₁=true->A₁=true/\asT Int 0<=0/\0<aB a.length/\True)/\dA/\dA/\dA/\(dF=false->A₁=true)/\((A₀==false)=true->(A₀==false)=true/\asT Int 0<=0/\0<aB a.length/\True)/\aN/\aN/\aN/\(A₀=false->(A₀==false)=true)/\True)/\ifB (bif bif bif decide A₂ then true else decide aX then true else decide (aB aU<1) then true else decide (aB aU > 64)) (True/\1=kC a/\True) (((List.length a<=1000000/\(∀ (r:List aG),r ∈ a->BO r)/\0<List.length a)/\True)/\ifB (List.any a (badR (wdM a))) (True/\1=kC a/\True) (True/\0=kC a/\True))) (by kernel_rfl) ?_
 dsimp only[aB,asT,aA,aC] at *
 simp only[Int.toNat_natCast,jS,gy,oz,Ee,Dk]
 have eL:∀ n:Nat,decide ((n:Int)<1)=decide (n<1):=fun n=>Ap.mpr (by omega)
 have eG:∀ n:Nat,decide ((n:Int) > 64)=decide (n > 64):=fun n=>Ap.mpr (by omega)
 rw[eL,eG,eL,eG]
 have g1:decide (a.length<1)=false->0<(a.length:Int):=fun h=>by have:=yg h;omega
 have g2:kC a=bif (decide (a.length<1) || decide (a.length > 64) || decide ((a.getD 0 []).length<1) || decide ((a.getD 0 []).length > 64) || a.any (badR (wdM a))) then 1 else 0:=by
  unfold kC
  by_cases h1:a.length<1
  ·rw[eu (by omega),jf h1];rfl
  ·by_cases h2:a.length > 64
   ·rw[eu (by omega),jf h2];simp
   ·by_cases h3:(a.getD 0 []).length<1
    ·rw[eu (fun h=>by have:=h.2.2.1;unfold wdM at this;omega),jf h3];simp
    ·by_cases h4:(a.getD 0 []).length > 64
     ·rw[eu (fun h=>by have:=h.2.2.2.1;unfold wdM at this;omega),jf h4];simp
     ·rw[je h1,je h2,je h3,je h4]
      cases h5:a.any (badR (wdM a))
      ·rw[iw ⟨by omega,by omega,by unfold wdM;omega,by unfold wdM;omega,rfl⟩];rfl
      ·rw[eu (fun h=>Bool.noConfusion h.2.2.2.2)];rfl
 have hl:a.length<=1000000:=hp.1
 have hr:∀ r,r ∈ a->BO r:=hp.2
 rw[g2]
 have g4:decide (a.length<1)=true->(a.length:Int)<1:=fun h=>by have:=og h;omega
 have g3:(decide (a.length<1)=false->0<a.length):=fun h=>by have:=yg h;omega
 generalize decide (a.length<1)=b1 at *
 generalize decide (a.length > 64)=b2 at *
 generalize decide ((a.getD 0 []).length<1)=b3 at *
 generalize decide ((a.getD 0 []).length > 64)=b4 at *
 generalize a.any (badR (wdM a))=b5 at *
 clear eL eG g2
 cases b1
 ·have k1:=g1 rfl
  have k3:=g3 rfl
  cases b2<;>cases b3<;>cases b4<;>cases b5<;>simp[k1,k3,hl]<;>exact hr
 ·simp[g4 rfl]
end Go.Proofs.YtbkocjmmbkifjaaGreat
