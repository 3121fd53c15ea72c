/-
  Lemmas for the theorem vrelative28_holds, part 18 of 35.
-/
import Derived.Test.YtbkocjmmbkifjaaGreatQr17
namespace Go.Proofs.YtbkocjmmbkifjaaGreat
open Go Go.RowKit
theorem jg:type_of% @decide_eq_true:=@decide_eq_true
theorem Af:type_of% @beq_eq_false_iff_ne:=@beq_eq_false_iff_ne
theorem qj:type_of% @of_decide_eq_true:=@of_decide_eq_true
theorem uj:type_of% @of_decide_eq_false:=@of_decide_eq_false
theorem Cm:type_of% @Int.sign_neg_iff:=@Int.sign_neg_iff
theorem Dp:type_of% @Int.mul_ne_zero:=@Int.mul_ne_zero
theorem Ew:type_of% @List.take_add_one:=@List.take_add_one
set_option maxRecDepth 100000
set_option maxHeartbeats 1000000
set_option linter.unusedVariables false
set_option linter.unusedSimpArgs false
theorem sgf (x:Int):sg (decide (x<0)) x.natAbs=x:=by unfold sg;by_cases h:x<0<;>simp[h]<;>omega
theorem c5G (x:Int):(dig x.natAbs).length=isz x:=rfl
theorem a2m (n:Nat):(((dig n).length:Int)==0)=decide (n=0):=by
 by_cases h:n=0
 ·rw[jg h,jA.2 h];rfl
 ·rw[iy h];exact Af.mpr fun e=>h (jA.1 (ng (by omega)))
theorem b0I (n:Nat):decide (((dig n).length:Int) > 0)=decide (n≠0):=by
 have:=a2m n;by_cases h:n=0
 ·rw[h,iy (show ¬ (0:Nat)≠0 by omega),jA.2 rfl];rfl
 ·rw[jg h];rw[iy h] at this;have:=Af.mp this;exact jg (by omega)
theorem c6G {n m:Bool} {a b:Nat} (h:(n==m)=true):sg n (a+b:Nat)=sg n a+sg m b:=by rw[eq_of_beq h];unfold sg;cases m<;>simp;omega
theorem c6H {n m:Bool} {a b:Nat} (h:(n==m)=false) (h4:b<=a):sg n (a-b:Nat)=sg n a+sg m b:=by
 have e:m=!n:=by cases n<;>cases m<;>simp_all
 subst e;unfold sg;cases n<;>simp<;>omega
theorem c6I {n m:Bool} {a b:Nat} (h:(n==m)=false) (h4:a<=b):sg m (b-a:Nat)=sg n a+sg m b:=by
 have e:m=!n:=by cases n<;>cases m<;>simp_all
 subst e;unfold sg;cases n<;>simp<;>omega
theorem a5R {a b:Nat} (h3:dF (a:Int) (b:Int) ≥ 0):b<=a:=by
 unfold dF at h3;rcases Ad a b with h|h
 ·rw[dn (by omega)] at h3;omega
 ·exact h
theorem a5S {a b:Nat} (h3:¬ dF (a:Int) (b:Int) ≥ 0):a<=b:=by
 unfold dF at h3;rcases Ad b a with h|h
 ·rw[bn (by omega),dn (by omega)] at h3;omega
 ·exact h
theorem sgM (x y:Int):sg (decide (x<0) != decide (y<0)) (x.natAbs*y.natAbs)=x*y:=by
 have e:x*y=sg (decide (x<0)) x.natAbs*sg (decide (y<0)) y.natAbs:=by rw[sgf,sgf]
 rw[e];cases decide (x<0)<;>cases decide (y<0)<;>simp[sg,Int.neg_mul,Int.mul_neg]
abbrev tG:Ty:=.lf .gsl
abbrev LN:Type:=List Nat
theorem sJ {F:Nat->Prop} {w:World} {v:Value} {x:List Nat} (h:jU F w tG v x):Rd w v x:=by obtain⟨cs,rfl,s,rfl,h2⟩:=h;exact h2
theorem LU {F:Nat->Prop} {w:World} {v:Value} {x:List Nat} (h:Rd w v x):jU F w tG v x:=⟨[v],rfl,v,rfl,h⟩
theorem a1U.rd {l:List Nat} {w w':World} {e:Ending} (h:a1U l w e w'):GRd l w e w':=by obtain⟨v,h1,h2,h3⟩:=h;exact⟨v,h1,Rd.dN h2,h3⟩
def cGG (pre:LN->LN->Prop) [hd:∀ x y,Dc (pre x y)] (g:LN->LN->LN):Ctr:={ args:=[tG,tG],res:=[tG],pre:=fun x=>pre x.1 x.2.1,fn:=fun x=>(g x.1 x.2.1,()),dec:=fun x=>hd x.1 x.2.1 }
theorem a4g {f:FuncId} {pre:LN->LN->Prop} [∀ x y,Dc (pre x y)] {g:LN->LN->LN} (h:∀ (s t:Value) (a b:LN) (w:World),Rd w s a->Rd w t b->pre a b->Calls Tryz.prog f #[s,t] w (a1U (g a b) w)):aJ Tryz.prog f (cGG pre g):=by intro F w vs x hF hvs hp;obtain⟨v,vs',rfl,h1,u,vs'',rfl,h2,h3⟩:=hvs;have h3:vs''=[]:=h3;subst h3;refine(h v u x.1 x.2.1 w (sJ h1) (sJ h2) hp).mono ?_;intro e w' h;obtain⟨r,rfl,hr,hb⟩:=h.rd;exact⟨r,rfl,LU hr,hb⟩
noncomputable def cZG:Ctr:=⟨[tZ],[tG],fun _=>True,fun x=>(dig (Int.natAbs x.1),())⟩
theorem oN:aJ Tryz.prog 192 cZG:=by intro F w vs x hF hvs hp;obtain⟨v,vs',rfl,h1,h3⟩:=hvs;have h3:vs'=[]:=h3;subst h3;refine(yN v x.1 w (XF h1).raw).mono ?_;rintro e w' ⟨r,rfl,hr,hb⟩;exact⟨r,rfl,LU hr,hb⟩
noncomputable def c7Q:Ctr:=⟨[tB,tG],[tZ],fun x=>Low x.2.1,fun x=>(sg x.1 (val x.2.1),())⟩
theorem BP:aJ Tryz.prog 190 c7Q:=by intro F w vs x hF hvs hp;obtain⟨v,vs',rfl,h1,u,vs'',rfl,h2,h3⟩:=hvs;have h3:vs''=[]:=h3;subst h3;rw[a4e h1];refine(KI x.1 u x.2.1 w (sJ h2) hp).mono ?_;rintro e w' ⟨r,rfl,hr,hb⟩;exact⟨r,rfl,a0k hr,hb⟩
noncomputable def c7J:Ctr:=⟨[tG,tG],[tG,tG],fun x=>Canon x.1/\Canon x.2.1/\(show LN from x.1).length<=1000000000/\(show LN from x.2.1)≠[],fun x=>(dig (val x.1 / val x.2.1),dig (val x.1%val x.2.1),())⟩
theorem a3s:aJ Tryz.prog 251 c7J:=by intro F w vs x hF hvs hp;obtain⟨v,vs',rfl,h1,u,vs'',rfl,h2,h3⟩:=hvs;have h3:vs''=[]:=h3;subst h3;refine(a3r v u x.1 x.2.1 w (sJ h1) (sJ h2) hp.1 hp.2.1 hp.2.2.1 hp.2.2.2).mono ?_;rintro e w' ⟨r,s,rfl,hr,hs,hb⟩;exact⟨_,rfl,⟨[_,_],rfl,_,_,rfl,LU hr,_,_,rfl,LU hs,rfl⟩,hb⟩
noncomputable def c7q:Ctr:=⟨[tG,tG],[tI],fun x=>Canon x.1/\Canon x.2.1,fun x=>(dF (val x.1) (val x.2.1),())⟩
theorem a2g:aJ Tryz.prog 254 c7q:=by intro F w vs x hF hvs hp;obtain⟨v,vs',rfl,h1,u,vs'',rfl,h2,h3⟩:=hvs;have h3:vs''=[]:=h3;subst h3;refine(lQ v u x.1 x.2.1 w (sJ h1) (sJ h2) hp.1 hp.2).mono ?_;rintro e w' ⟨rfl,hb⟩;exact⟨_,rfl,WC _,hb⟩
noncomputable def c7o:Ctr:=⟨[tG],[tG],fun x=>(show LN from x.1).length<=1000000000,fun x=>(x.1,())⟩
theorem MF:aJ Tryz.prog 191 c7o:=by intro F w vs x hF hvs hp;obtain⟨v,vs',rfl,h1,h3⟩:=hvs;have h3:vs'=[]:=h3;subst h3;refine(clone_any v x.1 w (sJ h1) hp).mono ?_;intro e w' h;obtain⟨r,rfl,hr,hb⟩:=h.rd;exact⟨r,rfl,LU hr,hb⟩
abbrev tU:Ty:=.int .u64
noncomputable def c8m:Ctr:=⟨[tU],[tG],fun x=>0<=(show Int from x.1)/\(show Int from x.1)<18446744073709551616,fun x=>(dig x.1.toNat,())⟩
theorem a9r:aJ Tryz.prog 247 c8m:=by intro F w vs x hF hvs hp;obtain⟨v,vs',rfl,h1,h3⟩:=hvs;have h3:vs'=[]:=h3;subst h3;rw[a2R h1];have hq:(show Int from x.1)<18446744073709551616:=hp.2;have hq2:(0:Int)<=(show Int from x.1):=hp.1;have:=uQ x.1.toNat w ((Int.toNat_lt hq2).2 hq);rw[Int.toNat_of_nonneg hp.1] at this;refine this.mono ?_;intro e w' h;obtain⟨r,rfl,hr,hb⟩:=a1U.rd h;exact⟨r,rfl,LU hr,hb⟩
noncomputable def b9l:Ctr:=⟨[tG],[tU,tB],fun x=>Low x.1,fun x=>if (show LN from x.1).length<=2 then ((val x.1:Int),true,()) else ((0:Int),false,())⟩
theorem b4q:aJ Tryz.prog 265 b9l:=by
 intro F w vs x hF hvs hp;obtain⟨v,vs',rfl,h1,h3⟩:=hvs;have h3:vs'=[]:=h3;subst h3;by_cases h:(show LN from x.1).length<=2
 ·refine(DN v x.1 w (sJ h1) hp h).mono ?_;rintro e w' ⟨rfl,hb⟩;refine⟨_,rfl,?_,hb⟩;rw[show b9l.fn x=((val x.1:Int),true,()) from dn h];exact⟨[_,_],rfl,_,_,rfl,WC _,_,_,rfl,a1O _,rfl⟩
 ·refine(RV v x.1 w (sJ h1) (Nat.lt_of_not_le h)).mono ?_;rintro e w' ⟨rfl,hb⟩;refine⟨_,rfl,?_,hb⟩;rw[show b9l.fn x=((0:Int),false,()) from bn h];exact⟨[_,_],rfl,_,_,rfl,WC _,_,_,rfl,a1O _,rfl⟩
theorem c6R:aJ Tryz.prog 249 (cGG (fun a b=>Low a/\Low b/\a.length<=1000000000/\b.length<=1000000000) (fun a b=>dig (val a*val b))):=(a4g fun s t a b w hs ht h=>times_any s t a b w hs ht h.1 h.2.1 h.2.2.1 h.2.2.2)
theorem b8W:aJ Tryz.prog 253 (cGG (fun a b=>Low a/\Low b/\a.length<=1000000000/\b.length<=1000000000) (fun a b=>dig (val a+val b))):=(a4g fun s t a b w hs ht h=>a3t s t a b w hs ht h.1 h.2.1 h.2.2.1 h.2.2.2)
theorem b8X:aJ Tryz.prog 272 (cGG (fun a b=>Low a/\Low b/\a.length<=1000000000/\b.length<=a.length/\val b<=val a) (fun a b=>dig (val a-val b))):=(a4g fun s t a b w hs ht h=>a8P s t a b w hs ht h.1 h.2.1 h.2.2.1 h.2.2.2.1 h.2.2.2.2)
theorem vJ:aJ Tryz.prog 97 (cZ1 fun x=>-x):=by
 refine aN (((nil0.ad oN).ad BP).ad MF) ⟨[2],[],[]⟩ Tryz.func97 rfl (by decide) (fun x=>[]) (fun x hp=>?_);obtain⟨x,u⟩:=x;change Int at x;refine aP ((True/\List.length (dig (Int.natAbs x))<=1000000000/\Low (dig (Int.natAbs x))/\True)/\True/\sg (!decide (x<0)) (val (dig (Int.natAbs x)))=-x/\True) (by kernel_rfl) ?_;try simp only[zP0]
 try dsimp only[aB,asT,aA,aC,Ty.den,Lf.den] at *
 try simp only[zP1]
 have hp:isz x<=1000000000:=hp;refine⟨⟨hp,bZ _⟩,?_⟩;rw[bM];unfold sg;by_cases h:x<0<;>simp[h]<;>omega
theorem qC:aJ Tryz.prog 179 (cZI Int.sign):=by
 refine aN (nil0.ad oN) ⟨[],[],[]⟩ Tryz.func179 rfl (by decide) (fun x=>[]) (fun x hp=>?_);obtain⟨x,u⟩:=x;change Int at x;refine aP ((True/\True)/\ifB (aB (dig (Int.natAbs x)).length==0) (True/\0=Int.sign x/\True) (ifB (decide (x<0)) (True/\-1=Int.sign x/\True) (True/\1=Int.sign x/\True))) (by kernel_rfl) ?_;try simp only[zP0]
 try dsimp only[aB,asT,aA,aC,Ty.den,Lf.den] at *
 try simp only[zP1]
 rw[a2m];refine⟨fun h=>?_,fun h=>⟨fun h1=>(ql h1).symm,fun h1=>?_⟩⟩
 ·rw[show x=0 by have:=qj h;omega];rfl
 ·have:=uj h;exact(uo (by omega)).symm
theorem qB:aJ Tryz.prog 177 (cZ2 fun x y=>x*y):=by
 refine aN (((nil0.ad oN).ad BP).ad c6R) ⟨[4],[],[]⟩ Tryz.func177 rfl (by decide) (fun x=>[]) (fun x hp=>?_);obtain⟨x,y,u⟩:=x;change Int at x;change Int at y;refine aP ((True/\True/\(Low (dig (Int.natAbs x))/\Low (dig (Int.natAbs y))/\List.length (dig (Int.natAbs x))<=1000000000/\List.length (dig (Int.natAbs y))<=1000000000)/\Low (dig (val (dig (Int.natAbs x))*val (dig (Int.natAbs y))))/\True)/\True/\sg (decide (x<0) != decide (y<0)) (val (dig (val (dig (Int.natAbs x))*val (dig (Int.natAbs y)))))=x*y/\True) (by kernel_rfl) ?_;try simp only[zP0]
 try dsimp only[aB,asT,aA,aC,Ty.den,Lf.den] at *
 try simp only[zP1]
 obtain⟨l1,l2⟩:isz x<=1000000000/\isz y<=1000000000:=hp;simp only[bM];exact⟨⟨⟨bZ _,bZ _,l1,l2⟩,bZ _⟩,sgM x y⟩
noncomputable def c8o:Ctr:=⟨[tB,tG,tB,tG],[tZ],fun x=>Canon x.2.1/\Canon x.2.2.2.1/\(show LN from x.2.1).length<=1000000000/\(show LN from x.2.2.2.1).length<=1000000000,fun x=>(sg x.1 (val x.2.1)+sg x.2.2.1 (val x.2.2.2.1),())⟩
theorem b1O:aJ Tryz.prog 248 c8o:=by
 refine aN ((((nil0.ad BP).ad b8W).ad b8X).ad a2g) ⟨[8],[],[]⟩ Tryz.func248 rfl (by decide) (fun x=>[]) (fun x hp=>?_);obtain⟨n,a,m,b,u⟩:=x;change Bool at n;change List Nat at a;change Bool at m;change List Nat at b;refine aP (ifB (n==m) (((Low a/\Low b/\List.length a<=1000000000/\List.length b<=1000000000)/\Low (dig (val a+val b))/\True)/\True/\sg n (val (dig (val a+val b)))=sg n (val a)+sg m (val b)/\True) (((Canon a/\Canon b)/\True)/\ifB (decide (dF (aB (val a)) (aB (val b)) ≥ 0)) (((Low a/\Low b/\List.length a<=1000000000/\List.length b<=List.length a/\val b<=val a)/\Low (dig (val a-val b))/\True)/\True/\sg n (val (dig (val a-val b)))=sg n (val a)+sg m (val b)/\True) (((Low b/\Low a/\List.length b<=1000000000/\List.length a<=List.length b/\val a<=val b)/\Low (dig (val b-val a))/\True)/\True/\sg m (val (dig (val b-val a)))=sg n (val a)+sg m (val b)/\True))) (by kernel_rfl) ?_;try simp only[zP0]
 try dsimp only[aB,asT,aA,aC,Ty.den,Lf.den] at *
 try simp only[zP1]
 obtain⟨h1,h2,l1,l2⟩:Canon a/\Canon b/\a.length<=1000000000/\b.length<=1000000000:=hp;have c1:(dig (val a)).length=a.length:=by rw[dP h1]
 have c2:(dig (val b)).length=b.length:=by rw[dP h2]
 simp only[bM];refine⟨fun h=>⟨⟨⟨h1.1,h2.1,l1,l2⟩,bZ _⟩,c6G h⟩,fun h=>⟨⟨h1,h2⟩,fun h3=>?_,fun h3=>?_⟩⟩
 ·have h4:=a5R h3;have:=aX h4;exact⟨⟨⟨h1.1,h2.1,l1,by omega,h4⟩,bZ _⟩,c6H h h4⟩
 ·have h4:=a5S h3;have:=aX h4;exact⟨⟨⟨h2.1,h1.1,l2,by omega,h4⟩,bZ _⟩,c6I h h4⟩
theorem TV:aJ Tryz.prog 176 (cZ2 fun x y=>x+y):=by
 refine aN ((nil0.ad oN).ad b1O) ⟨[4],[],[]⟩ Tryz.func176 rfl (by decide) (fun x=>[]) (fun x hp=>?_);obtain⟨x,y,u⟩:=x;change Int at x;change Int at y;refine aP ((True/\True/\(Canon (dig (Int.natAbs x))/\Canon (dig (Int.natAbs y))/\List.length (dig (Int.natAbs x))<=1000000000/\List.length (dig (Int.natAbs y))<=1000000000)/\True)/\True/\sg (decide (x<0)) (val (dig (Int.natAbs x)))+sg (decide (y<0)) (val (dig (Int.natAbs y)))=x+y/\True) (by kernel_rfl) ?_;try simp only[zP0]
 try dsimp only[aB,asT,aA,aC,Ty.den,Lf.den] at *
 try simp only[zP1]
 obtain⟨l1,l2⟩:isz x<=1000000000/\isz y<=1000000000:=hp;simp only[bM,sgf];exact⟨⟨dJ _,dJ _,l1,l2⟩,trivial⟩
theorem BA:aJ Tryz.prog 229 cDiv:=by
 refine aN ((((((nil0.ad oN).ad BP).ad b8W).ad b8X).ad a3s).ad MF) ⟨[4,5],[],[]⟩ Tryz.func229 rfl (by decide) (fun x=>[]) (fun x hp=>?_);obtain⟨x,y,u⟩:=x;change Int at x;change Int at y;refine aP (let A₀:=(dig (val (dig (Int.natAbs x))%val (dig (Int.natAbs y))));let A₂:=(dig (val (dig (Int.natAbs x)) / val (dig (Int.natAbs y))));let aK:=(List.map Int.toNat (1::aC Int));let aO:=(aB A₀.length > 0);let A₁:=(decide aO==true);let bC:=(dig (val (dig (Int.natAbs y))-val A₀));let bI:=(decide (x<0) != decide (y<0));let bH:=(A₁=true->A₁=true/\True);(True/\True/\True)/\ifB (aB (dig (Int.natAbs y)).length==0) (True/\0=Int.fdiv x y/\True/\0=Int.fmod x y/\True/\asT Int 14=0/\True) (((Canon (dig (Int.natAbs x))/\Canon (dig (Int.natAbs y))/\List.length (dig (Int.natAbs x))<=1000000000/\dig (Int.natAbs y)≠aC Nat)/\True)/\(List.length A₀<=1000000000/\True)/\(bH/\bH/\(A₁=true->A₁=true/\A₁=true/\True)/\(decide aO=true->A₁=true)/\True)/\ifB (bif decide aO then decide (x<0) != decide (y<0) else false) ((List.length (1::aC Int)≠0/\(asT Int 0<=1/\True)/\(Low A₂/\Low aK/\List.length A₂<=1000000000/\List.length aK<=1000000000)/\(Low (dig (Int.natAbs y))/\Low A₀/\List.length (dig (Int.natAbs y))<=1000000000/\List.length A₀<=List.length (dig (Int.natAbs y))/\val A₀<=val (dig (Int.natAbs y)))/\True)/\(Low (dig (val A₂+val aK))/\Low bC/\True)/\True/\sg bI (val (dig (val A₂+val aK)))=Int.fdiv x y/\True/\sg (decide (y<0)) (val bC)=Int.fmod x y/\True/\asT Int 0=0/\True) ((Low A₂/\Low A₀/\True)/\True/\sg bI (val A₂)=Int.fdiv x y/\True/\sg (decide (y<0)) (val A₀)=Int.fmod x y/\True/\asT Int 0=0/\True))) (by kernel_rfl) ?_;try simp only[zP0]
 try dsimp only[aB,asT,aA,aC,Ty.den,Lf.den] at *
 try simp only[zP1]
 obtain⟨l1,l2,hy⟩:isz x<=1000000000/\isz y<=1000000000/\y≠0:=hp;have n0:0<y.natAbs:=by omega
 have hm:=xg x.natAbs n0;simp only[bM,b0I,a2m,jc,beq_true];have lm:(dig (x.natAbs%y.natAbs)).length<=(dig y.natAbs).length:=aX (by omega);have lq:(dig (x.natAbs / y.natAbs)).length<=(dig x.natAbs).length:=aX (Nat.div_le_self _ _);have l1':(dig x.natAbs).length<=1000000000:=l1;have l2':(dig y.natAbs).length<=1000000000:=l2;refine⟨fun h=>absurd h (by omega),fun _=>⟨⟨dJ _,dJ _,l1,fun e=>by have:=jA.1 e;omega⟩,by omega,?_,fun h=>?_,fun h=>?_⟩⟩
 ·exact⟨fun h=>h,fun h=>h,fun h=>⟨h,h⟩,fun h=>qj (by rw[<-b0I];exact jg h)⟩
 ·have hr:x.natAbs%y.natAbs≠0:=fun e=>by rw[e] at h;simp at h
  rw[jg hr] at h;have h:(decide (x<0) != decide (y<0))=true:=h;obtain⟨a,b⟩:=YB (decide (x<0)) (decide (y<0)) x.natAbs y.natAbs n0 h hr;rw[sgf,sgf] at a b;rw[h];refine⟨⟨by decide,by omega,⟨bZ _,fun g hg=>by rw[mg.1 hg];decide,by omega,by decide⟩,bZ _,bZ _,l2,lm,by omega⟩,⟨bZ _,bZ _⟩,?_,b.symm⟩;exact a.symm
 ·refine⟨⟨bZ _,bZ _⟩,?_⟩;cases hs:decide (x<0) != decide (y<0)
  ·have hs:decide (x<0)=decide (y<0):=by simpa using hs
   obtain⟨a,b⟩:=YC (decide (y<0)) x.natAbs y.natAbs n0;rw[sgf,<-hs,sgf] at a b;rw[<-hs];exact⟨a.symm,b.symm⟩
  ·have hr:x.natAbs%y.natAbs=0:=Decidable.byContradiction fun e=>by rw[jg e,hs] at h;cases h
   obtain⟨a,b⟩:=TI (decide (x<0)) (decide (y<0)) x.natAbs y.natAbs n0 hs hr;rw[sgf,sgf] at a b;rw[hr,a1E];exact⟨a.symm,b.symm⟩
theorem b8S {l:List Nat} (h:Canon l) (h2:l.length<=2):val l<18446744073709551616:=by
 have h1:=mG h.1;have:BB ^ l.length<=BB ^ 2:=vg gU h2;have:BB ^ 2=1000000000000000000:=by rw[bV]
 omega
abbrev GcO (x y:Int):={p:List Nat × List Nat // Canon p.1/\Canon p.2/\(isz x<=1000000000/\isz y<=1000000000->p.1.length<=1000000000/\p.2.length<=1000000000)/\Nat.gcd (val p.1) (val p.2)=Int.gcd x y}
abbrev GcI (x y:Int) (p:GcO x y):={q:Nat × Nat // (p.1.1.length<=2/\p.1.2.length<=2->q.1<18446744073709551616/\q.2<18446744073709551616)/\Nat.gcd q.1 q.2=Int.gcd x y}
noncomputable def c7r:Ctr:=⟨[tI,tI],[tI],fun _=>True,fun x=>(dF x.1 x.2.1,())⟩
theorem b0p:aJ Tryz.prog 255 c7r:=by intro F w vs x hF hvs hp;obtain⟨v,vs',rfl,h1,u,vs'',rfl,h2,h3⟩:=hvs;have h3:vs''=[]:=h3;subst h3;rw[a2R h1,a2R h2];refine(SL x.1 x.2.1 w).mono ?_;rintro e w' ⟨rfl,rfl⟩;exact⟨_,rfl,WC _,gy _ _⟩
theorem JY:aJ Tryz.prog 182 (c5y dF):=by
 refine aN ((((nil0.ad oN).ad a2g).ad qC).ad b0p) ⟨[],[],[]⟩ Tryz.func182 rfl (by decide) (fun x=>[]) (fun x hp=>?_);obtain⟨x,y,u⟩:=x;change Int at x;change Int at y;refine aP ((True/\True/\True)/\ifB (Int.sign x != Int.sign y) ((True/\True)/\True/\dF (Int.sign x) (Int.sign y)=dF x y/\True) ((True/\True/\(Canon (dig (Int.natAbs x))/\Canon (dig (Int.natAbs y)))/\True)/\ifB (decide (x<0)) (True/\IntKind.wrap IntKind.i64 (0-dF (aB (val (dig (Int.natAbs x)))) (aB (val (dig (Int.natAbs y)))))=dF x y/\True) (True/\dF (aB (val (dig (Int.natAbs x)))) (aB (val (dig (Int.natAbs y))))=dF x y/\True))) (by kernel_rfl) ?_;try simp only[zP0]
 try dsimp only[aB,asT,aA,aC,Ty.den,Lf.den] at *
 try simp only[zP1]
 simp only[bM];refine⟨fun h=>a8k (by simpa using h),fun h=>?_⟩;have hs:x.sign=y.sign:=by simpa using h
 have ha:=b0o hs (decide (x<0)) (fun _=>rfl);have hb:=b4O (x.natAbs:Nat) (y.natAbs:Nat);refine⟨⟨dJ _,dJ _⟩,fun h1=>?_,fun h1=>?_⟩
 ·rw[dn (jg h1)] at ha;rw[IntKind.wrap_i64,<-ha];omega
 ·rw[iy h1] at ha;exact ha
theorem BF:aJ Tryz.prog 213 (cZ2 fun x y=>((Int.gcd x y:Nat):Int)):=by
 refine aN ((((((nil0.ad oN).ad BP).ad a3s).ad MF).ad a9r).ad b4q) ⟨[4],[],[]⟩ Tryz.func213 rfl (by decide) (fun x=>[.inv (GcO x.1 x.2.1) (fun p=>[(5,.val tG p.1.1),(6,.val tG p.1.2)]) (fun p=>[(4,.box [⟨tZ,(0:Int)⟩])]) (fun p=>val p.1.2) ⟨(dig (Int.natAbs x.1),dig (Int.natAbs x.2.1)),dJ _,dJ _,fun h=>h,by rw[bM,bM];rfl⟩ (fun p=>[
  .inv (GcI x.1 x.2.1 p) (fun q=>[(7,.val tU (q.1.1:Int)),(9,.val tU (q.1.2:Int))]) (fun q=>[(4,.box [⟨tZ,(0:Int)⟩])]) (fun q=>q.1.2) ⟨(val p.1.1,val p.1.2),fun h=>⟨b8S p.2.1 h.1,b8S p.2.2.1 h.2⟩,p.2.2.2.2⟩ (fun _=>[])])]) (fun x hp=>?_)
 obtain⟨x,y,u⟩:=x;change Int at x;change Int at y;refine aP ((True/\True/\True)/\(dig (Int.natAbs x)=dig (Int.natAbs x)/\dig (Int.natAbs y)=dig (Int.natAbs y)/\asT Int 0=0/\True)/\∀ (i:GcO x y),let A₁:=(if List.length (aA i).2<=2 then (aB (val (aA i).2),true,()) else (0,false,()));let A₂:=(val (aA i).1);let A₀:=(if List.length (aA i).1<=2 then (aB A₂,true,()) else (0,false,()));asT Bool true=true/\ifB (decide (aB (aA i).2.length > 0)) ((Low (aA i).1/\True)/\(Low (aA i).2/\True)/\((Prod.fst A₀.2=true->(Prod.fst A₀.2==true)=true)/\True)/\ifB (bif Prod.fst A₀.2 then Prod.fst A₁.2 else false) ((Prod.fst A₀=aB A₂/\Prod.fst A₁=aB (val (aA i).2)/\asT Int 0=0/\True)/\∀ (i_1:GcI x y i),let aK:=(aB (aA i_1).1);asT Bool true=true/\ifB (decide (aB (aA i_1).2 > 0)) ((aB (aA i_1).2≠0/\True)/\∃ (i':GcI x y i),Prod.snd (aA i')<Prod.snd (aA i_1)/\aB (aA i_1).2=aB (aA i').1/\Int.tmod aK (aB (aA i_1).2)=aB (aA i').2/\asT Int 0=0/\True) (((0<=aB (aA i_1).1/\aB (aA i_1).1<18446744073709551616)/\Low (dig aK.toNat)/\True)/\True/\sg false (val (dig aK.toNat))=aB (Int.gcd x y)/\True)) (((Canon (aA i).1/\Canon (aA i).2/\List.length (aA i).1<=1000000000/\Prod.snd (aA i)≠aC Nat)/\True)/\∃ (i':GcO x y),val (aA i').2<val (aA i).2/\Prod.snd (aA i)=Prod.fst (aA i')/\dig (val (aA i).1%val (aA i).2)=Prod.snd (aA i')/\asT Int 0=0/\True)) ((List.length (aA i).1<=1000000000/\Low (aA i).1/\True)/\True/\sg false A₂=aB (Int.gcd x y)/\True)) (by kernel_rfl) ?_;try simp only[zP0]
 try dsimp only[aB,asT,aA,aC,Ty.den,Lf.den] at *
 try simp only[zP1]
 have hp:isz x<=1000000000/\isz y<=1000000000:=hp;rintro⟨⟨a,b⟩,c1,c2,hl,hg⟩;obtain⟨la,lb⟩:=hl hp;have c1:Canon a:=c1;have c2:Canon b:=c2;have hg:Nat.gcd (val a) (val b)=Int.gcd x y:=hg;have la:a.length<=1000000000:=la;have lb:b.length<=1000000000:=lb;simp only;refine⟨fun h=>⟨c1.1,c2.1,?_,fun h2=>?_,fun h2=>?_⟩,fun h=>⟨⟨la,c1.1⟩,?_⟩⟩
 ·intro h;rw[h];rfl
 ·have s1:a.length<=2:=Decidable.byContradiction fun e=>by rw[bn e] at h2;cases h2
  have s2:b.length<=2:=Decidable.byContradiction fun e=>by rw[dn s1,bn e] at h2;cases h2
  rw[dn s1,dn s2];refine⟨⟨rfl,rfl⟩,?_⟩;rintro⟨⟨m,n⟩,hb,hg2⟩;have hb:m<18446744073709551616/\n<18446744073709551616:=hb ⟨s1,s2⟩;have hg2:Nat.gcd m n=Int.gcd x y:=hg2;simp only;refine⟨fun h3=>⟨by omega,⟨(n,m%n),fun _=>⟨hb.2,Nat.lt_of_le_of_lt (Nat.mod_le _ _) hb.1⟩,?_⟩,xg _ (by omega),rfl,rfl⟩,fun h3=>⟨⟨by omega,bZ _⟩,?_⟩⟩
  ·show Nat.gcd n (m%n)=_;rw[<-hg2,Nat.gcd_comm m n,Nat.gcd_rec n m,Nat.gcd_comm]
  ·rw[bM,<-hg2,show n=0 by omega,Nat.gcd_zero_right];rfl
 ·have hb0:b≠[]:=fun e=>by rw[e] at h;exact absurd h (by decide)
  have hv:0<val b:=Nat.pos_of_ne_zero fun e=>hb0 (by rw[<-dP c2,e];exact jA.2 rfl);have hlt:=xg (val a) hv;refine⟨⟨c1,c2,la,hb0⟩,⟨(b,dig (val a%val b)),c2,dJ _,fun _=>⟨lb,?_⟩,?_⟩,?_,rfl,rfl⟩
  ·have:=aX (show val a%val b<=val b by omega);rw[dP c2] at this;exact au this lb
  ·show Nat.gcd (val b) (val (dig (val a%val b)))=_;rw[bM,<-hg,Nat.gcd_comm (val a),Nat.gcd_rec (val b) (val a),Nat.gcd_comm]
  ·show val (dig (val a%val b))<val b;rw[bM];exact hlt
 ·have:b=[]:=ng (by omega);rw[<-hg,this];show _=((Nat.gcd (val a) 0:Nat):Int);rw[Nat.gcd_zero_right];rfl
set_option maxHeartbeats 4000000
def zO (x y:Rat):Int:=if x<y then -1 else if y<x then 1 else 0
theorem b4P (x y:Rat):dF (x.num*y.den) (y.num*x.den)=zO x y:=by unfold dF zO;simp only[a4T]
set_option maxHeartbeats 1000000
theorem c6q:isz 1=1:=by decide +kernel
theorem a1g {x:Int} (h:aV x):isz x<=3:=BI (by obtain⟨a,b⟩:=h;rw[bV];omega)
theorem b5f (q:Rat):(0:Int)<(q.den:Int):=lY q
theorem JH (q:Rat):((q.den:Nat):Int)≠0:=by have:=lY q;omega
theorem a4F (q:Rat):Rat.divInt q.num (q.den:Int)=q:=Bz q
theorem b2F (q:Rat):Rat.divInt (-q.num) (q.den:Int)=-q:=by have:=a4F (-q);rwa [CQ,CP] at this
theorem sz8 {q:Rat} {K:Nat} (h:rsz q<=K):isz q.num<=K/\isz (q.den:Int)<=K:=⟨au (mZ q) h,au (kK q) h⟩
theorem QD {x y:Int} {K L:Nat} (hx:isz x<=K) (hy:isz y<=L):isz (x*y)<=K+L:=by have:=iC x y;omega
theorem c4c {x:Int}:(x.sign==0)=decide (x=0):=by
 by_cases h:x=0
 ·subst h;rfl
 ·rw[iy h];exact Af.mpr fun e=>h (wu.1 e)
theorem c5A (n:Nat):(dF (n:Int) 1==0)=decide (n=1):=by
 unfold dF;rcases Nat.lt_trichotomy n 1 with h|h|h
 ·rw[dn (by omega),iy (by omega)];rfl
 ·rw[bn (by omega),bn (by omega),jg h];rfl
 ·rw[bn (by omega),dn (by omega),iy (by omega)];rfl
theorem rd8 {x y a b:Int} (h:a=(Rat.divInt x y).num/\b=((Rat.divInt x y).den:Int)):0<b/\Int.gcd a b=1/\Rat.divInt a b=Rat.divInt x y:=by rw[h.1,h.2];exact⟨b5f _,KX _,a4F _⟩
abbrev tV:Ty:=.lf .IG
def cIV:Ctr:=⟨[tV],[tB],fun x=>True,fun x=>((show iJ from x.1).ok,())⟩
theorem a9Y {f:FuncId} (h:∀ (v:Value) (ok:Bool) (x:Int) (w:World),uV w v ok x->Calls Tryz.prog f #[v] w (fun e w'=>e=.returned (.bool ok)/\Below w.heap.size w w')):aJ Tryz.prog f cIV:=by intro F w vs x hF hvs hp;obtain⟨v,vs',rfl,h1,h3⟩:=hvs;have h3:vs'=[]:=h3;subst h3;obtain⟨cs,rfl,b,p,c,rfl,h2,_⟩:=h1;refine(h _ _ _ w h2).mono ?_;rintro e w' ⟨rfl,hb⟩;exact⟨_,rfl,a1O _,hb⟩
theorem PW:aJ Tryz.prog 175 cIZ:=(a4h fun x w h0 h1=>b2H x w h0 h1)
theorem b8Y:aJ Tryz.prog 212 cIV:=(a9Y fun v ok x w h=>a5u v ok x w h)
abbrev tP:Ty:=.pair tV (.pair tV .unit)
def a3V (x y:iJ):Bool:=x.ok&&(y.ok&&(decide (0<y.x)&&decide (Int.gcd x.x y.x=1)))
def b9k (K:Nat):Ctr:=⟨[tP],[tB],fun x=>isz (show iJ from x.1.1).x<=K/\isz (show iJ from x.1.2.1).x<=K,fun x=>(a3V x.1.1 x.1.2.1,())⟩
theorem b7C:aJ Tryz.prog 126 (b9k 1000000000):=by
 refine aN (((((nil0.ad PW).ad BF).ad qC).ad JY).ad b8Y) ⟨[],[],[]⟩ Tryz.func126 rfl (by decide) (fun x=>[]) (fun x hp=>?_);obtain⟨x,u⟩:=x;change iJ × iJ × Unit at x;refine aP (let A₁:=(asT iJ x.1);let A₂:=(asT iJ x.2.1);let A₀:=(bif !iJ.ok A₁ then true else !iJ.ok A₂);let aK:=((!iJ.ok A₁)==false);let aO:=((A₀==false)=true->(A₀==false)=true/\True);let bC:=(aK=true->aK=true/\True);(True/\bC/\(aK=true->aK=true/\True/\True)/\bC/\((!iJ.ok A₁)=false->aK=true)/\aO/\((A₀==false)=true->(A₀==false)=true/\iJ.ok A₂=true/\True/\True)/\aO/\(A₀=false->(A₀==false)=true)/\True)/\ifB (bif bif !iJ.ok A₁ then true else !iJ.ok A₂ then true else decide (Int.sign (iJ.x A₂)<=0)) (True/\false=a3V A₁ A₂/\True) ((iJ.ok A₁=true/\iJ.ok A₂=true/\(isz (iJ.x A₁)<=1000000000/\isz (iJ.x A₂)<=1000000000)/\aV 1/\True/\True)/\True/\(dF (aB (Int.gcd (iJ.x A₁) (iJ.x A₂))) 1==0)=a3V A₁ A₂/\True)) (by kernel_rfl) ?_;try simp only[zP0]
 try dsimp only[aB,asT,aA,aC,Ty.den,Lf.den] at *
 try simp only[zP1]
 obtain⟨⟨o1,n,g⟩,⟨o2,d,h⟩,u⟩:=x;have e:(d.sign<=0)=¬ 0<d:=propext (by rw[<-Int.sign_pos_iff];omega);simp only[e,c5A,a3V] at *
 cases o1<;>cases o2<;>simp;by_cases hd:0<d
 ·simp[hd];exact⟨fun h=>absurd hd (by omega),hp,by omega,by omega⟩
 ·simp[hd]
noncomputable def c8i:Ctr:=⟨[tZ,tZ],[tQ],fun x=>isz x.1<=1000000000/\isz x.2.1<=1000000000/\(show Int from x.2.1)≠0,fun x=>(Rat.divInt x.1 x.2.1,())⟩
theorem QY:aJ Tryz.prog 180 c8i:=by
 refine aN ((((nil0.ad BF).ad vJ).ad qC).ad BA) ⟨[4,5,2,3],[],[]⟩ Tryz.func180 rfl (by decide) (fun x=>[]) (fun x hp=>?_);obtain⟨x,y,u⟩:=x;change Int at x;change Int at y;refine aP (let A₀:=(aB (Int.gcd (-x) (-y)));let A₁:=(Int.fdiv x (aB (Int.gcd x y)));let A₂:=(Int.fdiv y (aB (Int.gcd x y)));(True/\True)/\ifB (decide (Int.sign y<0)) ((isz x<=1000000000/\isz y<=1000000000/\True)/\((isz (-x)<=1000000000/\isz (-y)<=1000000000)/\True)/\((isz (-x)<=1000000000/\isz A₀<=1000000000/\aB (Int.gcd (-x) (-y))≠0)/\True)/\((isz (-y)<=1000000000/\isz A₀<=1000000000/\aB (Int.gcd (-x) (-y))≠0)/\True)/\(0<Int.fdiv (-y) A₀/\Int.gcd (Int.fdiv (-x) A₀) (Int.fdiv (-y) A₀)=1/\True)/\Rat.divInt (Int.fdiv (-x) A₀) (Int.fdiv (-y) A₀)=Rat.divInt x y/\True) (((isz x<=1000000000/\isz y<=1000000000)/\True)/\((isz x<=1000000000/\isz (aB (Int.gcd x y))<=1000000000/\aB (Int.gcd x y)≠0)/\True)/\((isz y<=1000000000/\isz (aB (Int.gcd x y))<=1000000000/\aB (Int.gcd x y)≠0)/\True)/\(0<Int.fdiv y (aB (Int.gcd x y))/\Int.gcd A₁ A₂=1/\True)/\Rat.divInt A₁ A₂=Rat.divInt x y/\True)) (by kernel_rfl) ?_;try simp only[zP0]
 try dsimp only[aB,asT,aA,aC,Ty.den,Lf.den] at *
 try simp only[zP1]
 obtain⟨l1,l2,hy⟩:isz x<=1000000000/\isz y<=1000000000/\y≠0:=hp;have hy':-y≠0:=by omega
 refine⟨fun h=>⟨⟨l1,l2⟩,⟨by rw[kR];exact l1,by rw[kR];exact l2⟩,⟨by rw[kR];exact l1,lS hy' (by rw[kR];exact l2),gcd_ne hy'⟩,⟨by rw[kR];exact l2,lS hy' (by rw[kR];exact l2),gcd_ne hy'⟩,?_⟩,fun h=>⟨⟨l1,l2⟩,⟨l1,lS hy l2,gcd_ne hy⟩,⟨l2,lS hy l2,gcd_ne hy⟩,?_⟩⟩
 ·have:=rd8 (a0S (n:=x) (Cm.1 h));exact⟨⟨this.1,this.2.1⟩,this.2.2⟩
 ·have h0:¬ y<0:=fun e=>h (Cm.2 e);have:=rd8 (JL (n:=x) (show 0<y by omega));exact⟨⟨this.1,this.2.1⟩,this.2.2⟩
theorem b4R:aJ Tryz.prog 256 (cZ1 fun x=>x):=by refine aN ((nil0.ad PW).ad b8Y) ⟨[2],[],[]⟩ Tryz.func256 rfl (by decide) (fun x=>[]) (fun x hp=>?_);obtain⟨x,u⟩:=x;change Int at x;refine aP ((True/\True)/\True/\x=x/\True) (by kernel_rfl) ?_;exact⟨⟨trivial,trivial⟩,trivial,rfl,trivial⟩
theorem oG:aJ Tryz.prog 90 (cIQ aV (fun i=>(i:Rat))):=by
 refine aN (nil0.ad PW) ⟨[2],[],[]⟩ Tryz.func90 rfl (by decide) (fun x=>[]) (fun x hp=>?_);obtain⟨n,u⟩:=x;change Int at n;refine aP ((aV n/\aV 1/\True)/\(asT Int 0<1/\Int.gcd n 1=1/\True)/\Rat.divInt n 1=aH n/\True) (by kernel_rfl) ?_;try simp only[zP0]
 try dsimp only[aB,asT,aA,aC,Ty.den,Lf.den] at *
 try simp only[zP1]
 exact⟨⟨hp,by omega,by omega⟩,⟨by omega,Int.gcd_one_right _⟩,by rw[show (1:Int)=((1:Nat):Int) from rfl,Rat.divInt_ofNat];exact Rat.mkRat_one n⟩
theorem b4W:aJ Tryz.prog 250 (cQ1 (fun x=>rsz x<=1000000000) (fun x=>x)):=by
 refine aN (nil0.ad vJ) ⟨[2],[],[]⟩ Tryz.func250 rfl (by decide) (fun x=>[]) (fun x hp=>?_);obtain⟨x,u⟩:=x;change Rat at x;refine aP ((isz (Rat.num x)<=1000000000/\isz (-Rat.num x)<=1000000000/\isz (aB (Rat.den x))<=1000000000/\isz (-aB (Rat.den x))<=1000000000/\True)/\(0 < - -aB (Rat.den x)/\Int.gcd (- -Rat.num x) (- -aB (Rat.den x))=1/\True)/\Rat.divInt (- -Rat.num x) (- -aB (Rat.den x))=x/\True) (by kernel_rfl) ?_;try simp only[zP0]
 try dsimp only[aB,asT,aA,aC,Ty.den,Lf.den] at *
 try simp only[zP1]
 obtain⟨a,b⟩:=sz8 (show rsz x<=1000000000 from hp);simp only[Int.neg_neg,kR];exact⟨⟨a,a,b,b⟩,⟨b5f x,KX x⟩,a4F x⟩
theorem b4o {f:FuncId} {K:Nat} (hf:aJ Tryz.prog f (b9k K)):aJ Tryz.prog f (cVal K):=fun F w vs x hF hvs hp=>by obtain⟨v,vs',rfl,h1,h3⟩:=hvs;have h3:vs'=[]:=h3;subst h3;obtain⟨cs,rfl,b,p,c,b',p',c',rfl,h2,h4,h5⟩:=h1;obtain⟨_,_,_,_,o1,o2,n,d,e,k1,k2,k3,_⟩:=h2;simp only[Value.agg.injEq,Array.mk.injEq,List.cons.injEq,Cb] at e;obtain⟨rfl,rfl,rfl,rfl⟩:=e;rw[show (cVal K).fn x=(a3V ⟨o1,n,(show aI from x.1).g⟩ ⟨o2,d,(show aI from x.1).h⟩,()) from qw (fun o=>(o,())) k3];exact hf F w _ ((⟨o1,n,(show aI from x.1).g⟩,⟨o2,d,(show aI from x.1).h⟩,()),()) hF ⟨_,_,rfl,⟨_,rfl,[.bool b,.slice p (aI.n x.1) c],[.bool b',.slice p' (aI.m x.1) c'],rfl,⟨b,p,c,rfl,k1,h4⟩,[.bool b',.slice p' (aI.m x.1) c'],[],rfl,⟨b',p',c',rfl,k2,h5⟩,rfl⟩,rfl⟩ ⟨au k1.raw.len hp.1,au k2.raw.len hp.2⟩
theorem RS:aJ Tryz.prog 126 (cVal 1000000000):=b4o b7C
theorem FC:aJ Tryz.prog 178 (cQ1 (fun x=>rsz x<=1000000000) (fun x=>x)):=by
 refine aN (((nil0.ad oG).ad b4W).ad RS) ⟨[2],[],[]⟩ Tryz.func178 rfl (by decide) (fun x=>[]) (fun x hp=>?_);obtain⟨x,u⟩:=x;change Rat at x;refine aP (((aI.n (dK x)<=1000000000/\aI.m (dK x)<=1000000000)/\True)/\(rsz x<=1000000000/\True)/\True/\x=x/\True) (by kernel_rfl) ?_;try simp only[zP0]
 try dsimp only[aB,asT,aA,aC,Ty.den,Lf.den] at *
 try simp only[zP1]
 have hp:rsz x<=1000000000:=hp;obtain⟨a,b⟩:=sz8 hp;exact⟨⟨a,b⟩,hp⟩
theorem JQ:aJ Tryz.prog 183 (cNew 1000000000 14):=by
 refine aN (((nil0.ad qC).ad QY).ad b4R) ⟨[4,2,3],[],[]⟩ Tryz.func183 rfl (by decide) (fun x=>[]) (fun x hp=>?_);obtain⟨x,y,u⟩:=x;change Int at x;change Int at y;refine aP ((isz x<=1000000000/\isz y<=1000000000/\True)/\(True/\True)/\ifB (Int.sign y==0) (True/\bP=Prod.fst (newT 14 x y)/\True/\14=Prod.fst (newT 14 x y).2/\True) (((isz x<=1000000000/\isz y<=1000000000/\y≠0)/\True)/\True/\dK (Rat.divInt x y)=Prod.fst (newT 14 x y)/\True/\0=Prod.fst (newT 14 x y).2/\True)) (by kernel_rfl) ?_;try simp only[zP0]
 try dsimp only[aB,asT,aA,aC,Ty.den,Lf.den] at *
 try simp only[zP1]
 obtain⟨l1,l2⟩:isz x<=1000000000/\isz y<=1000000000:=hp;rw[c4c];refine⟨⟨l1,l2⟩,fun h=>?_,fun h=>?_⟩
 ·unfold newT;rw[dn (qj h)];exact⟨rfl,rfl⟩
 ·unfold newT;rw[bn (uj h)];exact⟨⟨l1,l2,uj h⟩,rfl,rfl⟩
theorem a0U:aJ Tryz.prog 147 a9X:=by
 refine aN ((nil0.ad PW).ad JQ) ⟨[4],[],[]⟩ Tryz.func147 rfl (by decide) (fun x=>[]) (fun x hp=>?_);obtain⟨x,y,u⟩:=x;change Int at x;change Int at y;refine aP ((aV x/\aV y/\(isz x<=1000000000/\isz y<=1000000000)/\True)/\(aI.ok (newT 14 x y).1=true/\True)/\aI.x (newT 14 x y).1=Rat.divInt x y/\True/\Prod.fst (newT 14 x y).2=0/\True) (by kernel_rfl) ?_;try simp only[zP0]
 try dsimp only[aB,asT,aA,aC,Ty.den,Lf.den] at *
 try simp only[zP1]
 obtain⟨h1,h2,h3⟩:aV x/\aV y/\y≠0:=hp;rw[show newT 14 x y=(dK (Rat.divInt x y),0,()) from bn h3];exact⟨⟨h1,h2,au (a1g h1) (by omega),au (a1g h2) (by omega)⟩,rfl,rfl,rfl⟩
theorem tY:aJ Tryz.prog 127 (cQI (fun x=>rsz x<=1000000000) (fun x=>sgn x.num)):=by
 refine aN ((nil0.ad qC).ad FC) ⟨[],[],[]⟩ Tryz.func127 rfl (by decide) (fun x=>[]) (fun x hp=>?_);obtain⟨x,u⟩:=x;change Rat at x;refine aP ((rsz x<=1000000000/\True/\True)/\True/\Int.sign (Rat.num x)=sgn (Rat.num x)/\True) (by kernel_rfl) ?_;try simp only[zP0]
 try dsimp only[aB,asT,aA,aC,Ty.den,Lf.den] at *
 try simp only[zP1]
 exact⟨hp,rfl⟩
theorem JO:aJ Tryz.prog 172 (cQ1 s4 (fun x=>-x)):=by
 refine aN ((nil0.ad vJ).ad FC) ⟨[2,1],[],[]⟩ Tryz.func172 rfl (by decide) (fun x=>[]) (fun x hp=>?_);obtain⟨x,u⟩:=x;change Rat at x;refine aP ((rsz x<=1000000000/\True)/\(isz (Rat.num x)<=1000000000/\True)/\(0<aB (Rat.den x)/\Int.gcd (-Rat.num x) (aB (Rat.den x))=1/\True)/\Rat.divInt (-Rat.num x) (aB (Rat.den x))=-x/\True) (by kernel_rfl) ?_;try simp only[zP0]
 try dsimp only[aB,asT,aA,aC,Ty.den,Lf.den] at *
 try simp only[zP1]
 have hp:rsz x<=400000000:=hp;obtain⟨a,b⟩:=sz8 hp;exact⟨by omega,by omega,⟨b5f x,by have:=KX (-x);rwa [CQ,CP] at this⟩,b2F x⟩
theorem wB:aJ Tryz.prog 173 (cQ2 s44 (·+·)):=by
 refine aN ((((nil0.ad qB).ad TV).ad QY).ad FC) ⟨[4,2,3],[],[]⟩ Tryz.func173 rfl (by decide) (fun x=>[]) (fun x hp=>?_);obtain⟨x,y,u⟩:=x;change Rat at x;change Rat at y;refine aP ((rsz x<=1000000000/\rsz y<=1000000000/\True)/\((isz (Rat.num x)<=1000000000/\isz (aB (Rat.den y))<=1000000000)/\(isz (Rat.num y)<=1000000000/\isz (aB (Rat.den x))<=1000000000)/\(isz (Rat.num x*aB (Rat.den y))<=1000000000/\isz (Rat.num y*aB (Rat.den x))<=1000000000)/\(isz (aB (Rat.den x))<=1000000000/\isz (aB (Rat.den y))<=1000000000)/\(isz (Rat.num x*aB (Rat.den y)+Rat.num y*aB (Rat.den x))<=1000000000/\isz (aB (Rat.den x)*aB (Rat.den y))<=1000000000/\aB (Rat.den x)*aB (Rat.den y)≠0)/\True)/\True/\Rat.divInt (Rat.num x*aB (Rat.den y)+Rat.num y*aB (Rat.den x)) (aB (Rat.den x)*aB (Rat.den y))=x+y/\True) (by kernel_rfl) ?_;try simp only[zP0]
 try dsimp only[aB,asT,aA,aC,Ty.den,Lf.den] at *
 try simp only[zP1]
 obtain⟨l1,l2⟩:rsz x<=400000000/\rsz y<=400000000:=hp;obtain⟨a,b⟩:=sz8 l1;obtain⟨c,d⟩:=sz8 l2;have m1:=QD a d;have m2:=QD c b;have m3:=QD b d;have m4:=yP (x.num*y.den) (y.num*x.den);exact⟨⟨by omega,by omega⟩,⟨⟨by omega,by omega⟩,⟨by omega,by omega⟩,⟨by omega,by omega⟩,⟨by omega,by omega⟩,by omega,by omega,Dp (JH x) (JH y)⟩,a1w x y⟩
theorem rM:aJ Tryz.prog 89 (cQ2 s44 (·*·)):=by
 refine aN (((nil0.ad qB).ad QY).ad FC) ⟨[4,2,3],[],[]⟩ Tryz.func89 rfl (by decide) (fun x=>[]) (fun x hp=>?_);obtain⟨x,y,u⟩:=x;change Rat at x;change Rat at y;refine aP ((rsz x<=1000000000/\rsz y<=1000000000/\True)/\((isz (Rat.num x)<=1000000000/\isz (Rat.num y)<=1000000000)/\(isz (aB (Rat.den x))<=1000000000/\isz (aB (Rat.den y))<=1000000000)/\(isz (Rat.num x*Rat.num y)<=1000000000/\isz (aB (Rat.den x)*aB (Rat.den y))<=1000000000/\aB (Rat.den x)*aB (Rat.den y)≠0)/\True)/\True/\Rat.divInt (Rat.num x*Rat.num y) (aB (Rat.den x)*aB (Rat.den y))=x*y/\True) (by kernel_rfl) ?_;try simp only[zP0]
 try dsimp only[aB,asT,aA,aC,Ty.den,Lf.den] at *
 try simp only[zP1]
 obtain⟨l1,l2⟩:rsz x<=400000000/\rsz y<=400000000:=hp;obtain⟨a,b⟩:=sz8 l1;obtain⟨c,d⟩:=sz8 l2;have m1:=QD a c;have m3:=QD b d;exact⟨⟨by omega,by omega⟩,⟨⟨by omega,by omega⟩,⟨by omega,by omega⟩,by omega,by omega,Dp (JH x) (JH y)⟩,QX x y⟩
theorem QJ:aJ Tryz.prog 87 (a9V 400000000 14):=by
 refine aN ((((nil0.ad qB).ad qC).ad QY).ad FC) ⟨[4,2,3],[],[]⟩ Tryz.func87 rfl (by decide) (fun x=>[]) (fun x hp=>?_);obtain⟨x,y,u⟩:=x;change Rat at x;change Rat at y;refine aP ((rsz x<=1000000000/\rsz y<=1000000000/\True)/\(True/\True)/\ifB (Int.sign (Rat.num y)==0) (True/\bP=Prod.fst (WS 14 x y)/\True/\14=Prod.fst (WS 14 x y).2/\True) (((isz (Rat.num x)<=1000000000/\isz (aB (Rat.den y))<=1000000000)/\(isz (aB (Rat.den x))<=1000000000/\isz (Rat.num y)<=1000000000)/\(isz (Rat.num x*aB (Rat.den y))<=1000000000/\isz (aB (Rat.den x)*Rat.num y)<=1000000000/\aB (Rat.den x)*Rat.num y≠0)/\True)/\True/\dK (Rat.divInt (Rat.num x*aB (Rat.den y)) (aB (Rat.den x)*Rat.num y))=Prod.fst (WS 14 x y)/\True/\0=Prod.fst (WS 14 x y).2/\True)) (by kernel_rfl) ?_;try simp only[zP0]
 try dsimp only[aB,asT,aA,aC,Ty.den,Lf.den] at *
 try simp only[zP1]
 obtain⟨l1,l2⟩:rsz x<=400000000/\rsz y<=400000000:=hp;obtain⟨a,b⟩:=sz8 l1;obtain⟨c,d⟩:=sz8 l2;have m1:=QD a d;have m3:=QD b c;rw[c4c];refine⟨⟨by omega,by omega⟩,fun h=>?_,fun h=>?_⟩
 ·unfold WS;rw[dn ((yU y).1 (qj h))];exact⟨rfl,rfl⟩
 ·have h0:=uj h;unfold WS;rw[bn (fun e=>h0 ((yU y).2 e)),a7p];exact⟨⟨⟨by omega,by omega⟩,⟨by omega,by omega⟩,by omega,by omega,Dp (JH x) h0⟩,rfl,rfl⟩
theorem a0R:aJ Tryz.prog 128 (b9j s44 zO):=by
 refine aN (((nil0.ad qB).ad JY).ad FC) ⟨[2,3],[],[]⟩ Tryz.func128 rfl (by decide) (fun x=>[]) (fun x hp=>?_);obtain⟨x,y,u⟩:=x;change Rat at x;change Rat at y;refine aP ((rsz x<=1000000000/\rsz y<=1000000000/\True)/\((isz (Rat.num x)<=1000000000/\isz (aB (Rat.den y))<=1000000000)/\(isz (Rat.num y)<=1000000000/\isz (aB (Rat.den x))<=1000000000)/\True/\True)/\True/\dF (Rat.num x*aB (Rat.den y)) (Rat.num y*aB (Rat.den x))=zO x y/\True) (by kernel_rfl) ?_;try simp only[zP0]
 try dsimp only[aB,asT,aA,aC,Ty.den,Lf.den] at *
 try simp only[zP1]
 obtain⟨l1,l2⟩:rsz x<=400000000/\rsz y<=400000000:=hp;obtain⟨a,b⟩:=sz8 l1;obtain⟨c,d⟩:=sz8 l2;exact⟨⟨by omega,by omega⟩,⟨⟨by omega,by omega⟩,by omega,by omega⟩,b4P x y⟩
theorem JR:aJ Tryz.prog 186 (cQ2 s44 (·-·)):=by
 refine aN ((nil0.ad JO).ad wB) ⟨[4],[],[]⟩ Tryz.func186 rfl (by decide) (fun x=>[]) (fun x hp=>?_);obtain⟨x,y,u⟩:=x;change Rat at x;change Rat at y;refine aP ((s4 y/\s44 x (-y)/\True)/\True/\x+-y=x-y/\True) (by kernel_rfl) ?_;try simp only[zP0]
 try dsimp only[aB,asT,aA,aC,Ty.den,Lf.den] at *
 try simp only[zP1]
 obtain⟨l1,l2⟩:rsz x<=400000000/\rsz y<=400000000:=hp;obtain⟨a,b⟩:=sz8 l1;obtain⟨c,d⟩:=sz8 l2;exact⟨⟨l2,l1,by rw[rU];exact l2⟩,(Rat.sub_eq_add_neg x y).symm⟩
set_option maxRecDepth 20000
noncomputable def LCa:Lib:=((((((((Lib.nil
 ).add 90 (cIQ aV (fun i=>(i:Rat))) oG
 ).add 126 (cVal 1000000000) RS
 ).add 173 (cQ2 s44 (·+·)) wB
 ).add 89 (cQ2 s44 (·*·)) rM
 ).add 186 (cQ2 s44 (·-·)) JR
 ).add 128 (b9j s44 zO) a0R
 ).add 87 (a9V 400000000 14) QJ
 ).add 127 (cQI (fun x=>rsz x<=1000000000) (fun x=>sgn x.num)) tY
set_option maxRecDepth 100000
abbrev LR:Type:=List aI
def yZ (q:aI):Prop:=q.n<=1000000000/\q.m<=1000000000
def pI {α:Type} (p:α->Bool) (xs:List α):Int:=if xs.any p then (xs.findIdx p:Nat) else -1
theorem xI {α:Type} {p:α->Bool} {xs:List α} {i:Nat} {d:α} (hi:i<xs.length) (h0:(xs.take i).any p=false) (h:p (xs.getD i d)=true):pI p xs=(i:Nat):=by
 have h1:xs.getD i d=xs[i]:=by rw[bg,dw hi];rfl
 rw[h1] at h;have h2:xs.findIdx p=i:=by rw[List.findIdx_eq hi];refine⟨h,fun j hj=>?_⟩;have:=List.any_eq_false.mp h0 xs[j] (List.mem_take_iff_getElem.mpr ⟨j,by omega,rfl⟩);simpa using this
 unfold pI;rw[dn (yx.mpr ⟨_,uq hi,h⟩),h2]
theorem EG {α:Type} {p:α->Bool} {xs:List α} (h:xs.any p=false):pI p xs=-1:=by unfold pI;rw[h];rfl
theorem xJ {α:Type} (p:α->Bool) (xs:List α):decide (pI p xs ≥ 0)=xs.any p:=by
 unfold pI;cases h:xs.any p
 ·rfl
 ·simp
theorem jL {α:Type} {p:α->Bool} {xs:List α} {i:Nat} {d:α} (hi:i<xs.length):(xs.take (i+1)).any p=((xs.take i).any p || p (xs.getD i d)):=by rw[Ew,List.any_append,bg,dw hi];simp
theorem cO {α:Type} {p:α->Prop} {xs:List α} (h:∀ x ∈ xs,p x) {i:Nat} (hi:i<xs.length) {d:α}:p (xs.getD i d):=by rw[bg,dw hi];exact h _ (uq hi)
theorem aG {n:Int} (h0:-9223372036854775808<=n) (h1:n<=9223372036854775807):IntKind.wrap .i64 n=n:=by unfold IntKind.wrap;simp only[IntKind.bits,IntKind.signed,Bool.true_and,jc,Nat.reduceSub,Int.reducePow,ge_iff_le];split<;>omega
noncomputable def c7i:Ctr:=⟨[tR],[tB],fun x=>yZ x.1,fun x=>(!(show aI from x.1).ok,())⟩
theorem a0F:aJ Tryz.prog 275 c7i:=by refine kL (nil0.ad RS) [] Tryz.func275 rfl (by decide) (fun x=>[]) (fun x hp=>?_);obtain⟨x,u⟩:=x;change aI at x;refine aP (((aI.n x<=1000000000/\aI.m x<=1000000000)/\True)/\True/\(!aI.ok x)=!aI.ok x/\True) (by kernel_rfl) ?_;exact⟨⟨hp,trivial⟩,trivial,rfl,trivial⟩
noncomputable def c7O:Ctr:=⟨[.list tR,.clo 275 .unit],[tI],fun x=>(show LR from x.1).length<=1000000/\∀ q ∈ (show LR from x.1),yZ q,fun x=>(pI (fun q:aI=>!q.ok) (show LR from x.1),())⟩
theorem b5L:aJ Tryz.prog 211 c7O:=by
 refine kL (nil0.ad a0F) [] Tryz.func211 rfl (by decide) (fun x=>[.inv {k:Nat // k<=(show LR from x.1).length/\((show LR from x.1).take k).any (fun q=>!q.ok)=false} (fun k=>[(8,.val tI (k.1:Int))]) (fun k=>[]) (fun k=>(show LR from x.1).length-k.1) ⟨0,by omega,rfl⟩ (fun _=>[])]) (fun x hp=>?_);obtain⟨x,c,u⟩:=x;change List aI at x;refine aP ((asT Int 0=0/\True)/\∀ (i:{ k:Nat // k<=List.length x/\(List.any (List.take k x) fun(q:aI)=>!aI.ok q)=false }),asT Bool true=true/\ifB (decide (aB (aA i)<aB x.length)) ((0<=aB (aA i)/\aB (aA i)<aB x.length/\yZ (List.getD x (aB (aA i)).toNat { ok:=false,x:=0,g:=aC Nat,h:=aC Nat })/\True)/\ifB (!aI.ok (List.getD x (aB (aA i)).toNat { ok:=false,x:=0,g:=aC Nat,h:=aC Nat })) (True/\aB (aA i)=pI (fun(q:aI)=>!aI.ok q) x/\True) (∃ (i':{ k:Nat // k<=List.length x/\(List.any (List.take k x) fun(q:aI)=>!aI.ok q)=false }),List.length x-aA i'<List.length x-aA i/\IntKind.wrap IntKind.i64 (aB (aA i)+1)=aB (aA i')/\True)) (True/\-1=pI (fun(q:aI)=>!aI.ok q) x/\True)) (by kernel_rfl) ?_;obtain⟨hl,hb⟩:=hp;have hZ:(⟨false,0,[],[]⟩:aI)=bP:=rfl;dsimp only[aB,asT,aA,aC] at *
 simp only[hZ,Int.toNat_natCast,gZ,jc,jv,Dt,Cb,zq,Bool.not_eq_false'];refine fun i=>⟨fun h1=>⟨⟨by omega,h1,cO hb (by omega)⟩,fun h2=>?_,fun h2=>⟨⟨i.1+1,by omega,?_⟩,by simp only;omega,?_⟩⟩,fun h1=>?_⟩
 ·exact(xI (d:=bP) (by omega) i.2.2 (by rw[h2];rfl)).symm
 ·rw[jL (d:=bP) (by omega),i.2.2,h2];rfl
 ·rw[aG (by omega) (by omega)];rfl
 ·have h3:=i.2.2;rw[jf (by omega)] at h3;exact(EG h3).symm
noncomputable def c7v:Ctr:=⟨[.list tR,.clo 275 .unit],[tB],fun x=>(show LR from x.1).length<=1000000/\∀ q ∈ (show LR from x.1),yZ q,fun x=>((show LR from x.1).any (fun q:aI=>!q.ok),())⟩
theorem b4U:aJ Tryz.prog 123 c7v:=by refine kL ((nil0.ad a0F).ad b5L) [] Tryz.func123 rfl (by decide) (fun x=>[]) (fun x hp=>?_);obtain⟨x,c,u⟩:=x;change List aI at x;refine aP (((List.length x<=1000000/\∀ (q:aI),q ∈ x->yZ q)/\True)/\True/\(decide (pI (fun(q:aI)=>!aI.ok q) x ≥ 0)=List.any x fun(q:aI)=>!aI.ok q)/\True) (by kernel_rfl) ?_;exact⟨⟨hp,trivial⟩,trivial,xJ _ _,trivial⟩
noncomputable def c4N:Ctr:=⟨[.list tR],[tB],fun x=>(show LR from x.1).length<=1000000/\∀ q ∈ (show LR from x.1),yZ q,fun x=>(!(show LR from x.1).any (fun q:aI=>!q.ok),())⟩
theorem UN:aJ Tryz.prog 243 c4N:=by refine kL ((nil0.ad a0F).ad b4U) [] Tryz.func243 rfl (by decide) (fun x=>[]) (fun x hp=>?_);obtain⟨x,u⟩:=x;change List aI at x;refine aP (((List.length x<=1000000/\∀ (q:aI),q ∈ x->yZ q)/\True)/\True/\((!List.any x fun(q:aI)=>!aI.ok q)=!List.any x fun(q:aI)=>!aI.ok q)/\True) (by kernel_rfl) ?_;exact⟨⟨hp,trivial⟩,trivial,rfl,trivial⟩
abbrev MR:Type:=List (List aI)
abbrev wdM {α:Type} (a:List (List α)):Nat:=(a.getD 0 []).length
def badR (n:Nat) (r:LR):Bool:=!(r.length==n) || r.any (fun q=>!q.ok)
def DC (r:LR):Prop:=r.length<=1000000/\∀ q ∈ r,yZ q
theorem a6u (m n:Nat):((m:Int) != (n:Int))=!(m==n):=by
 by_cases h:m=n
 ·subst h;simp
 ·rw[Af.mpr h,Eu.mpr (fun h2=>h (by exact_mod_cast h2))];rfl
noncomputable def c4J:Ctr:=⟨[.list tR,.ref tMR],[tB],fun x=>DC x.1/\0<(show MR from x.2.1).length,fun x=>(badR (wdM (show MR from x.2.1)) x.1,())⟩
theorem SG:aJ Tryz.prog 242 c4J:=by
 refine kL (nil0.ad UN) [] Tryz.func242 rfl (by decide) (fun x=>[]) (fun x hp=>?_);obtain⟨x,a,u⟩:=x;change List aI at x;change List (List aI) at a;refine aP (let A₁:=(List.getD a 0 (aC aI)).length;let A₀:=(aB x.length != aB A₁);(asT Int 0<=0/\0<aB a.length/\((A₀==false)=true->(A₀==false)=true/\(List.length x<=1000000/\∀ (q:aI),q ∈ x->yZ q)/\True)/\((A₀==false)=true->(A₀==false)=true/\True)/\(A₀=false->(A₀==false)=true)/\True)/\True/\(bif aB x.length != aB A₁ then true else !!List.any x fun(q:aI)=>!aI.ok q)=badR (wdM a) x/\True) (by kernel_rfl) ?_;obtain⟨hs,h0⟩:=hp;dsimp only[aB,asT,aA,aC] at *
 refine⟨⟨by omega,by omega,fun h=>⟨h,hs,trivial⟩,fun h=>⟨h,trivial⟩,fun h=>by rw[h];rfl,trivial⟩,trivial,?_,trivial⟩;unfold badR;rw[Bool.not_not,a6u];cases x.length==wdM a<;>rfl
noncomputable def c7M:Ctr:=⟨[tMR,.clo 242 (.pair (.ref tMR) .unit)],[tI],fun x=>(show MR from x.1).length<=1000000/\(∀ r ∈ (show MR from x.1),DC r)/\0<(show MR from x.2.1.1).length,fun x=>(pI (badR (wdM (show MR from x.2.1.1))) (show MR from x.1),())⟩
theorem b5J:aJ Tryz.prog 166 c7M:=by
 refine kL (nil0.ad SG) [] Tryz.func166 rfl (by decide) (fun x=>[.inv {k:Nat // k<=(show MR from x.1).length/\((show MR from x.1).take k).any (badR (wdM (show MR from x.2.1.1)))=false} (fun k=>[(8,.val tI (k.1:Int))]) (fun k=>[]) (fun k=>(show MR from x.1).length-k.1) ⟨0,by omega,rfl⟩ (fun _=>[])]) (fun x hp=>?_);obtain⟨x,⟨a,c⟩,u⟩:=x;change List (List aI) at x;change List (List aI) at a;refine aP ((asT Int 0=0/\True)/\∀ (i:{ k:Nat // k<=List.length x/\List.any (List.take k x) (badR (wdM a))=false }),asT Bool true=true/\ifB (decide (aB (aA i)<aB x.length)) ((0<=aB (aA i)/\aB (aA i)<aB x.length/\(DC (List.getD x (aB (aA i)).toNat (aC aI))/\0<List.length a)/\True)/\ifB (badR (wdM a) (List.getD x (aB (aA i)).toNat (aC aI))) (True/\aB (aA i)=pI (badR (wdM a)) x/\True) (∃ (i':{ k:Nat // k<=List.length x/\List.any (List.take k x) (badR (wdM a))=false }),List.length x-aA i'<List.length x-aA i/\IntKind.wrap IntKind.i64 (aB (aA i)+1)=aB (aA i')/\True)) (True/\-1=pI (badR (wdM a)) x/\True)) (by kernel_rfl) ?_;obtain⟨hl,hb,h0⟩:=hp;dsimp only[aB,asT,aA,aC] at *
 simp only[Int.toNat_natCast,gZ,jc,jv,Dt,Cb];refine fun i=>⟨fun h1=>⟨⟨by omega,h1,cO hb (by omega),h0⟩,fun h2=>?_,fun h2=>⟨⟨i.1+1,by omega,?_⟩,by simp only;omega,?_⟩⟩,fun h1=>?_⟩
 ·exact(xI (d:=[]) (by omega) i.2.2 h2).symm
 ·rw[jL (d:=[]) (by omega),i.2.2,h2];rfl
 ·rw[aG (by omega) (by omega)];rfl
 ·have h3:=i.2.2;rw[jf (by omega)] at h3;exact(EG h3).symm
noncomputable def c7t:Ctr:=⟨[tMR,.clo 242 (.pair (.ref tMR) .unit)],[tB],fun x=>(show MR from x.1).length<=1000000/\(∀ r ∈ (show MR from x.1),DC r)/\0<(show MR from x.2.1.1).length,fun x=>((show MR from x.1).any (badR (wdM (show MR from x.2.1.1))),())⟩
theorem b4S:aJ Tryz.prog 82 c7t:=by refine kL ((nil0.ad SG).ad b5J) [] Tryz.func82 rfl (by decide) (fun x=>[]) (fun x hp=>?_);obtain⟨x,⟨a,c⟩,u⟩:=x;change List (List aI) at x;change List (List aI) at a;refine aP (((List.length x<=1000000/\(∀ (r:List aI),r ∈ x->DC r)/\0<List.length a)/\True)/\True/\decide (pI (badR (wdM a)) x ≥ 0)=List.any x (badR (wdM a))/\True) (by kernel_rfl) ?_;exact⟨⟨hp,trivial⟩,trivial,xJ _ _,trivial⟩
def nI (a:MR):Int:=if 1<=a.length/\a.length<=64/\1<=wdM a/\wdM a<=64/\a.any (badR (wdM a))=false then 0 else 1
def rH (a:MR):Prop:=a.length<=1000000/\∀ r ∈ a,DC r
noncomputable def c7l:Ctr:=⟨[tMR],[tI],fun x=>rH x.1,fun x=>(nI x.1,())⟩
theorem qX:aJ Tryz.prog 167 c7l:=by
 refine kL ((nil0.ad SG).ad b4S) [] Tryz.func167 rfl (by decide) (fun x=>[]) (fun x hp=>?_);obtain⟨a,u⟩:=x;change List (List aI) at a;refine aP (let A₂:=(aB a.length<1);let aO:=(List.getD a 0 (aC aI)).length;let bC:=(aB a.length > 64);let A₀:=(bif bif decide A₂ then true else decide bC then true else decide (aB aO<1));let aK:=((A₀==false)=true->(A₀==false)=true/\True);let bI:=((decide A₂==false)=true->(decide A₂==false)=true/\True);let bU:=(bif decide A₂ then true else decide bC);let A₁:=(bU==false);let bH:=(A₁=true->A₁=true/\True);(bI/\bI/\(decide A₂=false->(decide A₂==false)=true)/\(A₁=true->A₁=true/\asT Int 0<=0/\0<aB a.length/\True)/\bH/\bH/\bH/\(bU=false->A₁=true)/\((A₀==false)=true->(A₀==false)=true/\asT Int 0<=0/\0<aB a.length/\True)/\aK/\aK/\aK/\(A₀=false->(A₀==false)=true)/\True)/\ifB (bif bif bif decide A₂ then true else decide bC then true else decide (aB aO<1) then true else decide (aB aO > 64)) (True/\1=nI a/\True) (((List.length a<=1000000/\(∀ (r:List aI),r ∈ a->DC r)/\0<List.length a)/\True)/\ifB (List.any a (badR (wdM a))) (True/\1=nI a/\True) (True/\0=nI a/\True))) (by kernel_rfl) ?_;dsimp only[aB,asT,aA,aC] at *
 simp only[Int.toNat_natCast,gZ,jc,jv,Dt,Cb];have eL:∀ n:Nat,decide ((n:Int)<1)=decide (n<1):=fun n=>decide_eq_decide.mpr (by omega);have eG:∀ n:Nat,decide ((n:Int) > 64)=decide (n > 64):=fun n=>decide_eq_decide.mpr (by omega);rw[eL,eG,eL,eG];have g1:decide (a.length<1)=false->0<(a.length:Int):=fun h=>by have:=uj h;omega
 have g2:nI a=bif (decide (a.length<1) || decide (a.length > 64) || decide ((a.getD 0 []).length<1) || decide ((a.getD 0 []).length > 64) || a.any (badR (wdM a))) then 1 else 0:=by
  unfold nI;by_cases h1:a.length<1
  ·rw[bn (by omega),jg h1];rfl
  ·by_cases h2:a.length > 64
   ·rw[bn (by omega),jg h2];simp
   ·by_cases h3:(a.getD 0 []).length<1
    ·rw[bn (fun h=>by have:=h.2.2.1;unfold wdM at this;omega),jg h3];simp
    ·by_cases h4:(a.getD 0 []).length > 64
     ·rw[bn (fun h=>by have:=h.2.2.2.1;unfold wdM at this;omega),jg h4];simp
     ·rw[iy h1,iy h2,iy h3,iy h4];cases h5:a.any (badR (wdM a))
      ·rw[dn ⟨by omega,by omega,by unfold wdM;omega,by unfold wdM;omega,rfl⟩];rfl
      ·rw[bn (fun h=>Bool.noConfusion h.2.2.2.2)];rfl
 have hl:a.length<=1000000:=hp.1;have hr:∀ r,r ∈ a->DC r:=hp.2;rw[g2];have g4:decide (a.length<1)=true->(a.length:Int)<1:=fun h=>by have:=qj h;omega
 have g3:(decide (a.length<1)=false->0<a.length):=fun h=>by have:=uj h;omega
 generalize decide (a.length<1)=b1 at *
 generalize decide (a.length > 64)=b2 at *
 generalize decide ((a.getD 0 []).length<1)=b3 at *
 generalize decide ((a.getD 0 []).length > 64)=b4 at *
 generalize a.any (badR (wdM a))=b5 at *
 clear eL eG g2;cases b1
 ·have k1:=g1 rfl;have k3:=g3 rfl;cases b2<;>cases b3<;>cases b4<;>cases b5<;>simp[k1,k3,hl]<;>exact hr
 ·simp[g4 rfl]
end Go.Proofs.YtbkocjmmbkifjaaGreat
