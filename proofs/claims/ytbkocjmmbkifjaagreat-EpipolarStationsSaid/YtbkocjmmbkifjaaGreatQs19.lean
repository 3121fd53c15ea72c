/-
  Lemmas for the theorem vstations28_holds, part 19 of 34.
-/
import Derived.Test.YtbkocjmmbkifjaaGreatQs18
namespace Go.Proofs.YtbkocjmmbkifjaaGreat
open Go Go.RowKit
theorem uf:type_of% @decide_eq_true:=@decide_eq_true
theorem dn:type_of% @beq_eq_false_iff_ne:=@beq_eq_false_iff_ne
theorem ah:type_of% @decide_eq_false_iff_not:=@decide_eq_false_iff_not
theorem jh:type_of% @true_and:=@true_and
theorem jk:type_of% @Bool.and_true:=@Bool.and_true
theorem ig:type_of% @Bool.not_eq_false':=@Bool.not_eq_false'
theorem bg:type_of% @Bool.and_eq_false_imp:=@Bool.and_eq_false_imp
theorem eu:type_of% @bne_eq_false_iff_eq:=@bne_eq_false_iff_eq
theorem jd:type_of% @Int.natCast_inj:=@Int.natCast_inj
theorem oq:type_of% @imp_self:=@imp_self
theorem jr:type_of% @implies_true:=@implies_true
theorem ou:type_of% @and_self:=@and_self
theorem bn:type_of% @Bool.or_eq_false_iff:=@Bool.or_eq_false_iff
theorem qw:type_of% @of_decide_eq_true:=@of_decide_eq_true
theorem ug:type_of% @of_decide_eq_false:=@of_decide_eq_false
theorem Dy:type_of% @Int.sign_neg_iff:=@Int.sign_neg_iff
set_option maxRecDepth 100000
set_option maxHeartbeats 1000000
set_option linter.unusedVariables false
set_option linter.unusedSimpArgs false
theorem sgf (x:Int):sg (decide (x<0)) x.natAbs=x:=by unfold sg;by_cases h:x<0<;>simp[h]<;>omega
theorem c2z (x:Int):(dig x.natAbs).length=isz x:=rfl
theorem a1E (n:Nat):(((dig n).length:Int)==0)=decide (n=0):=by
 by_cases h:n=0
 ·rw[uf h,iH.2 h];rfl
 ·rw[ny h]
  exact dn.mpr fun e=>h (iH.1 (qp (by omega)))
theorem a9p (n:Nat):decide (((dig n).length:Int) > 0)=decide (n≠0):=by
 have:=a1E n
 by_cases h:n=0
 ·rw[h,ny (show ¬ (0:Nat)≠0 by omega),iH.2 rfl];rfl
 ·rw[uf h]
  rw[ny h] at this
  have:=dn.mp this
  exact uf (by omega)
theorem c3t {n m:Bool} {a b:Nat} (h:(n==m)=true):sg n (a+b:Nat)=sg n a+sg m b:=by
 rw[eq_of_beq h];unfold sg;cases m<;>simp;omega
theorem c3u {n m:Bool} {a b:Nat} (h:(n==m)=false) (h4:b<=a):sg n (a-b:Nat)=sg n a+sg m b:=by
 have e:m=!n:=by cases n<;>cases m<;>simp_all
 subst e;unfold sg;cases n<;>simp<;>omega
theorem c3v {n m:Bool} {a b:Nat} (h:(n==m)=false) (h4:a<=b):sg m (b-a:Nat)=sg n a+sg m b:=by
 have e:m=!n:=by cases n<;>cases m<;>simp_all
 subst e;unfold sg;cases n<;>simp<;>omega
theorem a4Y {a b:Nat} (h3:dF (a:Int) (b:Int) ≥ 0):b<=a:=by
 unfold dF at h3
 rcases Af a b with h|h
 ·rw[jm (by omega)] at h3;omega
 ·exact h
theorem a4Z {a b:Nat} (h3:¬ dF (a:Int) (b:Int) ≥ 0):a<=b:=by
 unfold dF at h3
 rcases Af b a with h|h
 ·rw[ji (by omega),jm (by omega)] at h3;omega
 ·exact h
theorem sgM (x y:Int):sg (decide (x<0) != decide (y<0)) (x.natAbs*y.natAbs)=x*y:=by
 have e:x*y=sg (decide (x<0)) x.natAbs*sg (decide (y<0)) y.natAbs:=by rw[sgf,sgf]
 rw[e]
 cases decide (x<0)<;>cases decide (y<0)<;>simp[sg,Int.neg_mul,Int.mul_neg]
abbrev tG:Ty:=.lf .gsl
abbrev LN:Type:=List Nat
theorem qX {F:Nat->Prop} {w:World} {v:Value} {x:List Nat} (h:iY F w tG v x):Rd w v x:=by
 obtain⟨cs,rfl,s,rfl,h2⟩:=h
 exact h2
theorem KA {F:Nat->Prop} {w:World} {v:Value} {x:List Nat} (h:Rd w v x):iY F w tG v x:=⟨[v],rfl,v,rfl,h⟩
theorem a1r.rd {l:List Nat} {w w':World} {e:Ending} (h:a1r l w e w'):GRd l w e w':=by
 obtain⟨v,h1,h2,h3⟩:=h
 exact⟨v,h1,Rd.dK h2,h3⟩
def cGG (pre:LN->LN->Prop) [hd:∀ x y,Dc (pre x y)] (g:LN->LN->LN):Ctr:={ args:=[tG,tG],res:=[tG],pre:=fun x=>pre x.1 x.2.1,fn:=fun x=>(g x.1 x.2.1,()),dec:=fun x=>hd x.1 x.2.1 }
theorem a3t {f:FuncId} {pre:LN->LN->Prop} [∀ x y,Dc (pre x y)] {g:LN->LN->LN} (h:∀ (s t:Value) (a b:LN) (w:World),Rd w s a->Rd w t b->pre a b->Calls Tryz.prog f #[s,t] w (a1r (g a b) w)):aI Tryz.prog f (cGG pre g):=by
 intro F w vs x hF hvs hp
 obtain⟨v,vs',rfl,h1,u,vs'',rfl,h2,h3⟩:=hvs
 have h3:vs''=[]:=h3
 subst h3
 refine(h v u x.1 x.2.1 w (qX h1) (qX h2) hp).mono ?_
 intro e w' h
 obtain⟨r,rfl,hr,hb⟩:=h.rd
 exact⟨r,rfl,KA hr,hb⟩
noncomputable def cZG:Ctr:=⟨[tZ],[tG],fun _=>True,fun x=>(dig (Int.natAbs x.1),())⟩
theorem mZ:aI Tryz.prog 192 cZG:=by
 intro F w vs x hF hvs hp
 obtain⟨v,vs',rfl,h1,h3⟩:=hvs
 have h3:vs'=[]:=h3
 subst h3
 refine(xE v x.1 w (WE h1).raw).mono ?_
 rintro e w' ⟨r,rfl,hr,hb⟩
 exact⟨r,rfl,KA hr,hb⟩
noncomputable def c4j:Ctr:=⟨[tB,tG],[tZ],fun x=>Low x.2.1,fun x=>(sg x.1 (val x.2.1),())⟩
theorem zY:aI Tryz.prog 190 c4j:=by
 intro F w vs x hF hvs hp
 obtain⟨v,vs',rfl,h1,u,vs'',rfl,h2,h3⟩:=hvs
 have h3:vs''=[]:=h3
 subst h3
 rw[a3q h1]
 refine(IW x.1 u x.2.1 w (qX h2) hp).mono ?_
 rintro e w' ⟨r,rfl,hr,hb⟩
 exact⟨r,rfl,ZF hr,hb⟩
noncomputable def c4c:Ctr:=⟨[tG,tG],[tG,tG],fun x=>Canon x.1/\Canon x.2.1/\(show LN from x.1).length<=1000000000/\(show LN from x.2.1)≠[],fun x=>(dig (val x.1 / val x.2.1),dig (val x.1%val x.2.1),())⟩
theorem a2H:aI Tryz.prog 251 c4c:=by
 intro F w vs x hF hvs hp
 obtain⟨v,vs',rfl,h1,u,vs'',rfl,h2,h3⟩:=hvs
 have h3:vs''=[]:=h3
 subst h3
 refine(a2G v u x.1 x.2.1 w (qX h1) (qX h2) hp.1 hp.2.1 hp.2.2.1 hp.2.2.2).mono ?_
 rintro e w' ⟨r,s,rfl,hr,hs,hb⟩
 exact⟨_,rfl,⟨[_,_],rfl,_,_,rfl,KA hr,_,_,rfl,KA hs,rfl⟩,hb⟩
noncomputable def c3T:Ctr:=⟨[tG,tG],[tI],fun x=>Canon x.1/\Canon x.2.1,fun x=>(dF (val x.1) (val x.2.1),())⟩
theorem a1A:aI Tryz.prog 254 c3T:=by
 intro F w vs x hF hvs hp
 obtain⟨v,vs',rfl,h1,u,vs'',rfl,h2,h3⟩:=hvs
 have h3:vs''=[]:=h3
 subst h3
 refine(kR v u x.1 x.2.1 w (qX h1) (qX h2) hp.1 hp.2).mono ?_
 rintro e w' ⟨rfl,hb⟩
 exact⟨_,rfl,VB _,hb⟩
noncomputable def c3S:Ctr:=⟨[tG],[tG],fun x=>(show LN from x.1).length<=1000000000,fun x=>(x.1,())⟩
theorem KJ:aI Tryz.prog 191 c3S:=by
 intro F w vs x hF hvs hp
 obtain⟨v,vs',rfl,h1,h3⟩:=hvs
 have h3:vs'=[]:=h3
 subst h3
 refine(clone_any v x.1 w (qX h1) hp).mono ?_
 intro e w' h
 obtain⟨r,rfl,hr,hb⟩:=h.rd
 exact⟨r,rfl,KA hr,hb⟩
abbrev tU:Ty:=.int .u64
noncomputable def c4x:Ctr:=⟨[tU],[tG],fun x=>0<=(show Int from x.1)/\(show Int from x.1)<18446744073709551616,fun x=>(dig x.1.toNat,())⟩
theorem a8c:aI Tryz.prog 247 c4x:=by
 intro F w vs x hF hvs hp
 obtain⟨v,vs',rfl,h1,h3⟩:=hvs
 have h3:vs'=[]:=h3
 subst h3
 rw[a2h h1]
 have hq:(show Int from x.1)<18446744073709551616:=hp.2
 have hq2:(0:Int)<=(show Int from x.1):=hp.1
 have:=sH x.1.toNat w ((Int.toNat_lt hq2).2 hq)
 rw[Int.toNat_of_nonneg hp.1] at this
 refine this.mono ?_
 intro e w' h
 obtain⟨r,rfl,hr,hb⟩:=a1r.rd h
 exact⟨r,rfl,KA hr,hb⟩
noncomputable def b6O:Ctr:=⟨[tG],[tU,tB],fun x=>Low x.1,fun x=>if (show LN from x.1).length<=2 then ((val x.1:Int),true,()) else ((0:Int),false,())⟩
theorem b2U:aI Tryz.prog 265 b6O:=by
 intro F w vs x hF hvs hp
 obtain⟨v,vs',rfl,h1,h3⟩:=hvs
 have h3:vs'=[]:=h3
 subst h3
 by_cases h:(show LN from x.1).length<=2
 ·refine(BO v x.1 w (qX h1) hp h).mono ?_
  rintro e w' ⟨rfl,hb⟩
  refine⟨_,rfl,?_,hb⟩
  rw[show b6O.fn x=((val x.1:Int),true,()) from jm h]
  exact⟨[_,_],rfl,_,_,rfl,VB _,_,_,rfl,a1k _,rfl⟩
 ·refine(PZ v x.1 w (qX h1) (Nat.lt_of_not_le h)).mono ?_
  rintro e w' ⟨rfl,hb⟩
  refine⟨_,rfl,?_,hb⟩
  rw[show b6O.fn x=((0:Int),false,()) from ji h]
  exact⟨[_,_],rfl,_,_,rfl,VB _,_,_,rfl,a1k _,rfl⟩
theorem c3B:aI Tryz.prog 249 (cGG (fun a b=>Low a/\Low b/\a.length<=1000000000/\b.length<=1000000000) (fun a b=>dig (val a*val b))):=(a3t fun s t a b w hs ht h=>times_any s t a b w hs ht h.1 h.2.1 h.2.2.1 h.2.2.2)
theorem b6B:aI Tryz.prog 253 (cGG (fun a b=>Low a/\Low b/\a.length<=1000000000/\b.length<=1000000000) (fun a b=>dig (val a+val b))):=(a3t fun s t a b w hs ht h=>a2I s t a b w hs ht h.1 h.2.1 h.2.2.1 h.2.2.2)
theorem b6C:aI Tryz.prog 272 (cGG (fun a b=>Low a/\Low b/\a.length<=1000000000/\b.length<=a.length/\val b<=val a) (fun a b=>dig (val a-val b))):=(a3t fun s t a b w hs ht h=>a7C s t a b w hs ht h.1 h.2.1 h.2.2.1 h.2.2.2.1 h.2.2.2.2)
theorem zN:aI Tryz.prog 97 (cZ1 fun x=>-x):=by
 refine aK (((nil0.ad mZ).ad zY).ad KJ) ⟨[2],[],[]⟩ Tryz.func97 rfl (by decide) (fun x=>[]) (fun x hp=>?_)
 obtain⟨x,u⟩:=x
 change Int at x
 refine aU ((True/\List.length (dig (Int.natAbs x))<=1000000000/\Low (dig (Int.natAbs x))/\True)/\True/\sg (!decide (x<0)) (val (dig (Int.natAbs x)))=-x/\True) (by kernel_rfl) ?_
 have hZ:(⟨false,0,[],[]⟩:aH)=bF:=rfl
 try simp only[aC,aj,ah]
 try dsimp only[aB,asT,aA,aF,Ty.den,Lf.den] at *
 try simp only[hZ,Int.toNat_natCast,aC,aj,ah,jh,jg,gy,bf]
 try simp only[bT,bP,List.all_cons,List.all_nil,jk,dw,ig,jf,jy,ne_eq,au,bg,dn,eu,jd,oq,jr,ou,jh,jg,iw,bn,List.length_cons,List.length_nil]
 have hp:isz x<=1000000000:=hp
 refine⟨⟨hp,bY _⟩,?_⟩
 rw[bK]
 unfold sg
 by_cases h:x<0<;>simp[h]<;>omega
theorem qZ:aI Tryz.prog 179 (cZI Int.sign):=by
 refine aK (nil0.ad mZ) ⟨[],[],[]⟩ Tryz.func179 rfl (by decide) (fun x=>[]) (fun x hp=>?_)
 obtain⟨x,u⟩:=x
 change Int at x
 refine aU ((True/\True)/\ifB (aB (dig (Int.natAbs x)).length==0) (True/\0=Int.sign x/\True) (ifB (decide (x<0)) (True/\-1=Int.sign x/\True) (True/\1=Int.sign x/\True))) (by kernel_rfl) ?_
 have hZ:(⟨false,0,[],[]⟩:aH)=bF:=rfl
 try simp only[aC,aj,ah]
 try dsimp only[aB,asT,aA,aF,Ty.den,Lf.den] at *
 try simp only[hZ,Int.toNat_natCast,aC,aj,ah,jh,jg,gy,bf]
 try simp only[bT,bP,List.all_cons,List.all_nil,jk,dw,ig,jf,jy,ne_eq,au,bg,dn,eu,jd,oq,jr,ou,jh,jg,iw,bn,List.length_cons,List.length_nil]
 rw[a1E]
 refine⟨fun h=>?_,fun h=>⟨fun h1=>(uj h1).symm,fun h1=>?_⟩⟩
 ·rw[show x=0 by have:=qw h;omega];rfl
 ·have:=ug h
  exact(wu (by omega)).symm
theorem wH:aI Tryz.prog 177 (cZ2 fun x y=>x*y):=by
 refine aK (((nil0.ad mZ).ad zY).ad c3B) ⟨[4],[],[]⟩ Tryz.func177 rfl (by decide) (fun x=>[]) (fun x hp=>?_)
 obtain⟨x,y,u⟩:=x
 change Int at x
 change Int at y
 refine aU ((True/\True/\(Low (dig (Int.natAbs x))/\Low (dig (Int.natAbs y))/\List.length (dig (Int.natAbs x))<=1000000000/\List.length (dig (Int.natAbs y))<=1000000000)/\Low (dig (val (dig (Int.natAbs x))*val (dig (Int.natAbs y))))/\True)/\True/\sg (decide (x<0) != decide (y<0)) (val (dig (val (dig (Int.natAbs x))*val (dig (Int.natAbs y)))))=x*y/\True) (by kernel_rfl) ?_
 have hZ:(⟨false,0,[],[]⟩:aH)=bF:=rfl
 try simp only[aC,aj,ah]
 try dsimp only[aB,asT,aA,aF,Ty.den,Lf.den] at *
 try simp only[hZ,Int.toNat_natCast,aC,aj,ah,jh,jg,gy,bf]
 try simp only[bT,bP,List.all_cons,List.all_nil,jk,dw,ig,jf,jy,ne_eq,au,bg,dn,eu,jd,oq,jr,ou,jh,jg,iw,bn,List.length_cons,List.length_nil]
 obtain⟨l1,l2⟩:isz x<=1000000000/\isz y<=1000000000:=hp
 simp only[bK]
 exact⟨⟨⟨bY _,bY _,l1,l2⟩,bY _⟩,sgM x y⟩
noncomputable def c4y:Ctr:=⟨[tB,tG,tB,tG],[tZ],fun x=>Canon x.2.1/\Canon x.2.2.2.1/\(show LN from x.2.1).length<=1000000000/\(show LN from x.2.2.2.1).length<=1000000000,fun x=>(sg x.1 (val x.2.1)+sg x.2.2.1 (val x.2.2.2.1),())⟩
theorem b0w:aI Tryz.prog 248 c4y:=by
 refine aK ((((nil0.ad zY).ad b6B).ad b6C).ad a1A) ⟨[8],[],[]⟩ Tryz.func248 rfl (by decide) (fun x=>[]) (fun x hp=>?_)
 obtain⟨n,a,m,b,u⟩:=x
 change Bool at n
 change List Nat at a
 change Bool at m
 change List Nat at b
 refine aU (ifB (n==m) (((Low a/\Low b/\List.length a<=1000000000/\List.length b<=1000000000)/\Low (dig (val a+val b))/\True)/\True/\sg n (val (dig (val a+val b)))=sg n (val a)+sg m (val b)/\True) (((Canon a/\Canon b)/\True)/\ifB (decide (dF (aB (val a)) (aB (val b)) ≥ 0)) (((Low a/\Low b/\List.length a<=1000000000/\List.length b<=List.length a/\val b<=val a)/\Low (dig (val a-val b))/\True)/\True/\sg n (val (dig (val a-val b)))=sg n (val a)+sg m (val b)/\True) (((Low b/\Low a/\List.length b<=1000000000/\List.length a<=List.length b/\val a<=val b)/\Low (dig (val b-val a))/\True)/\True/\sg m (val (dig (val b-val a)))=sg n (val a)+sg m (val b)/\True))) (by kernel_rfl) ?_
 have hZ:(⟨false,0,[],[]⟩:aH)=bF:=rfl
 try simp only[aC,aj,ah]
 try dsimp only[aB,asT,aA,aF,Ty.den,Lf.den] at *
 try simp only[hZ,Int.toNat_natCast,aC,aj,ah,jh,jg,gy,bf]
 try simp only[bT,bP,List.all_cons,List.all_nil,jk,dw,ig,jf,jy,ne_eq,au,bg,dn,eu,jd,oq,jr,ou,jh,jg,iw,bn,List.length_cons,List.length_nil]
 obtain⟨h1,h2,l1,l2⟩:Canon a/\Canon b/\a.length<=1000000000/\b.length<=1000000000:=hp
 have c1:(dig (val a)).length=a.length:=by rw[dM h1]
 have c2:(dig (val b)).length=b.length:=by rw[dM h2]
 simp only[bK]
 refine⟨fun h=>⟨⟨⟨h1.1,h2.1,l1,l2⟩,bY _⟩,c3t h⟩,fun h=>⟨⟨h1,h2⟩,fun h3=>?_,fun h3=>?_⟩⟩
 ·have h4:=a4Y h3
  have:=aV h4
  exact⟨⟨⟨h1.1,h2.1,l1,by omega,h4⟩,bY _⟩,c3u h h4⟩
 ·have h4:=a4Z h3
  have:=aV h4
  exact⟨⟨⟨h2.1,h1.1,l2,by omega,h4⟩,bY _⟩,c3v h h4⟩
theorem a2e:aI Tryz.prog 176 (cZ2 fun x y=>x+y):=by
 refine aK ((nil0.ad mZ).ad b0w) ⟨[4],[],[]⟩ Tryz.func176 rfl (by decide) (fun x=>[]) (fun x hp=>?_)
 obtain⟨x,y,u⟩:=x
 change Int at x
 change Int at y
 refine aU ((True/\True/\(Canon (dig (Int.natAbs x))/\Canon (dig (Int.natAbs y))/\List.length (dig (Int.natAbs x))<=1000000000/\List.length (dig (Int.natAbs y))<=1000000000)/\True)/\True/\sg (decide (x<0)) (val (dig (Int.natAbs x)))+sg (decide (y<0)) (val (dig (Int.natAbs y)))=x+y/\True) (by kernel_rfl) ?_
 have hZ:(⟨false,0,[],[]⟩:aH)=bF:=rfl
 try simp only[aC,aj,ah]
 try dsimp only[aB,asT,aA,aF,Ty.den,Lf.den] at *
 try simp only[hZ,Int.toNat_natCast,aC,aj,ah,jh,jg,gy,bf]
 try simp only[bT,bP,List.all_cons,List.all_nil,jk,dw,ig,jf,jy,ne_eq,au,bg,dn,eu,jd,oq,jr,ou,jh,jg,iw,bn,List.length_cons,List.length_nil]
 obtain⟨l1,l2⟩:isz x<=1000000000/\isz y<=1000000000:=hp
 simp only[bK,sgf]
 exact⟨⟨dG _,dG _,l1,l2⟩,trivial⟩
theorem SA:aI Tryz.prog 229 cDiv:=by
 refine aK ((((((nil0.ad mZ).ad zY).ad b6B).ad b6C).ad a2H).ad KJ) ⟨[4,5],[],[]⟩ Tryz.func229 rfl (by decide) (fun x=>[]) (fun x hp=>?_)
 obtain⟨x,y,u⟩:=x
 change Int at x
 change Int at y
 refine aU (let A₀:=(dig (val (dig (Int.natAbs x))%val (dig (Int.natAbs y))));let A₂:=(dig (val (dig (Int.natAbs x)) / val (dig (Int.natAbs y))));let aJ:=(List.map Int.toNat (1::aF Int));let aT:=(aB A₀.length > 0);let A₁:=(decide aT==true);let bV:=(dig (val (dig (Int.natAbs y))-val A₀));let dH:=(decide (x<0) != decide (y<0));let dD:=(A₁=true->A₁=true/\True);(True/\True/\True)/\ifB (aB (dig (Int.natAbs y)).length==0) (True/\0=Int.fdiv x y/\True/\0=Int.fmod x y/\True/\asT Int 14=0/\True) (((Canon (dig (Int.natAbs x))/\Canon (dig (Int.natAbs y))/\List.length (dig (Int.natAbs x))<=1000000000/\dig (Int.natAbs y)≠aF Nat)/\True)/\(List.length A₀<=1000000000/\True)/\(dD/\dD/\(A₁=true->A₁=true/\A₁=true/\True)/\(decide aT=true->A₁=true)/\True)/\ifB (bif decide aT then decide (x<0) != decide (y<0) else false) ((List.length (1::aF Int)≠0/\(asT Int 0<=1/\True)/\(Low A₂/\Low aJ/\List.length A₂<=1000000000/\List.length aJ<=1000000000)/\(Low (dig (Int.natAbs y))/\Low A₀/\List.length (dig (Int.natAbs y))<=1000000000/\List.length A₀<=List.length (dig (Int.natAbs y))/\val A₀<=val (dig (Int.natAbs y)))/\True)/\(Low (dig (val A₂+val aJ))/\Low bV/\True)/\True/\sg dH (val (dig (val A₂+val aJ)))=Int.fdiv x y/\True/\sg (decide (y<0)) (val bV)=Int.fmod x y/\True/\asT Int 0=0/\True) ((Low A₂/\Low A₀/\True)/\True/\sg dH (val A₂)=Int.fdiv x y/\True/\sg (decide (y<0)) (val A₀)=Int.fmod x y/\True/\asT Int 0=0/\True))) (by kernel_rfl) ?_
 have hZ:(⟨false,0,[],[]⟩:aH)=bF:=rfl
 try simp only[aC,aj,ah]
 try dsimp only[aB,asT,aA,aF,Ty.den,Lf.den] at *
 try simp only[hZ,Int.toNat_natCast,aC,aj,ah,jh,jg,gy,bf]
 try simp only[bT,bP,List.all_cons,List.all_nil,jk,dw,ig,jf,jy,ne_eq,au,bg,dn,eu,jd,oq,jr,ou,jh,jg,iw,bn,List.length_cons,List.length_nil]
 obtain⟨l1,l2,hy⟩:isz x<=1000000000/\isz y<=1000000000/\y≠0:=hp
 have n0:0<y.natAbs:=by omega
 have hm:=Aw x.natAbs n0
 simp only[bK,a9p,a1E,aj,beq_true]
 have lm:(dig (x.natAbs%y.natAbs)).length<=(dig y.natAbs).length:=aV (by omega)
 have lq:(dig (x.natAbs / y.natAbs)).length<=(dig x.natAbs).length:=aV (Nat.div_le_self _ _)
 have l1':(dig x.natAbs).length<=1000000000:=l1
 have l2':(dig y.natAbs).length<=1000000000:=l2
 refine⟨fun h=>absurd h (by omega),fun _=>⟨⟨dG _,dG _,l1,fun e=>by have:=iH.1 e;omega⟩,by omega,?_,fun h=>?_,fun h=>?_⟩⟩
 ·exact⟨fun h=>h,fun h=>h,fun h=>⟨h,h⟩,fun h=>qw (by rw[<-a9p];exact uf h)⟩
 ·have hr:x.natAbs%y.natAbs≠0:=fun e=>by rw[e] at h;simp at h
  rw[uf hr] at h
  have h:(decide (x<0) != decide (y<0))=true:=h
  obtain⟨a,b⟩:=WZ (decide (x<0)) (decide (y<0)) x.natAbs y.natAbs n0 h hr
  rw[sgf,sgf] at a b
  rw[h]
  refine⟨⟨by decide,by omega,⟨bY _,fun g hg=>by rw[tq.1 hg];decide,by omega,by decide⟩,bY _,bY _,l2,lm,by omega⟩,⟨bY _,bY _⟩,?_,b.symm⟩
  exact a.symm
 ·refine⟨⟨bY _,bY _⟩,?_⟩
  cases hs:decide (x<0) != decide (y<0)
  ·have hs:decide (x<0)=decide (y<0):=by simpa using hs
   obtain⟨a,b⟩:=XA (decide (y<0)) x.natAbs y.natAbs n0
   rw[sgf,<-hs,sgf] at a b
   rw[<-hs]
   exact⟨a.symm,b.symm⟩
  ·have hr:x.natAbs%y.natAbs=0:=Decidable.byContradiction fun e=>by rw[uf e,hs] at h;cases h
   obtain⟨a,b⟩:=QY (decide (x<0)) (decide (y<0)) x.natAbs y.natAbs n0 hs hr
   rw[sgf,sgf] at a b
   rw[hr,a1b]
   exact⟨a.symm,b.symm⟩
theorem b6y {l:List Nat} (h:Canon l) (h2:l.length<=2):val l<18446744073709551616:=by
 have h1:=lG h.1
 have:BB ^ l.length<=BB ^ 2:=xu gG h2
 have:BB ^ 2=1000000000000000000:=by rw[bM]
 omega
abbrev GcO (x y:Int):={p:List Nat × List Nat // Canon p.1/\Canon p.2/\(isz x<=1000000000/\isz y<=1000000000->p.1.length<=1000000000/\p.2.length<=1000000000)/\Nat.gcd (val p.1) (val p.2)=Int.gcd x y}
abbrev GcI (x y:Int) (p:GcO x y):={q:Nat × Nat // (p.1.1.length<=2/\p.1.2.length<=2->q.1<18446744073709551616/\q.2<18446744073709551616)/\Nat.gcd q.1 q.2=Int.gcd x y}
noncomputable def c3V:Ctr:=⟨[tI,tI],[tI],fun _=>True,fun x=>(dF x.1 x.2.1,())⟩
theorem a9d:aI Tryz.prog 255 c3V:=by
 intro F w vs x hF hvs hp
 obtain⟨v,vs',rfl,h1,u,vs'',rfl,h2,h3⟩:=hvs
 have h3:vs''=[]:=h3
 subst h3
 rw[a2h h1,a2h h2]
 refine(QM x.1 x.2.1 w).mono ?_
 rintro e w' ⟨rfl,rfl⟩
 exact⟨_,rfl,VB _,jo _ _⟩
theorem RZ:aI Tryz.prog 182 (c2r dF):=by
 refine aK ((((nil0.ad mZ).ad a1A).ad qZ).ad a9d) ⟨[],[],[]⟩ Tryz.func182 rfl (by decide) (fun x=>[]) (fun x hp=>?_)
 obtain⟨x,y,u⟩:=x
 change Int at x
 change Int at y
 refine aU ((True/\True/\True)/\ifB (Int.sign x != Int.sign y) ((True/\True)/\True/\dF (Int.sign x) (Int.sign y)=dF x y/\True) ((True/\True/\(Canon (dig (Int.natAbs x))/\Canon (dig (Int.natAbs y)))/\True)/\ifB (decide (x<0)) (True/\IntKind.wrap IntKind.i64 (0-dF (aB (val (dig (Int.natAbs x)))) (aB (val (dig (Int.natAbs y)))))=dF x y/\True) (True/\dF (aB (val (dig (Int.natAbs x)))) (aB (val (dig (Int.natAbs y))))=dF x y/\True))) (by kernel_rfl) ?_
 have hZ:(⟨false,0,[],[]⟩:aH)=bF:=rfl
 try simp only[aC,aj,ah]
 try dsimp only[aB,asT,aA,aF,Ty.den,Lf.den] at *
 try simp only[hZ,Int.toNat_natCast,aC,aj,ah,jh,jg,gy,bf]
 try simp only[bT,bP,List.all_cons,List.all_nil,jk,dw,ig,jf,jy,ne_eq,au,bg,dn,eu,jd,oq,jr,ou,jh,jg,iw,bn,List.length_cons,List.length_nil]
 simp only[bK]
 refine⟨fun h=>a6Z (by simpa using h),fun h=>?_⟩
 have hs:x.sign=y.sign:=by simpa using h
 have ha:=a9c hs (decide (x<0)) (fun _=>rfl)
 have hb:=b3l (x.natAbs:Nat) (y.natAbs:Nat)
 refine⟨⟨dG _,dG _⟩,fun h1=>?_,fun h1=>?_⟩
 ·rw[jm (uf h1)] at ha
  rw[IntKind.wrap_i64,<-ha];omega
 ·rw[ny h1] at ha
  exact ha
theorem IG:aI Tryz.prog 213 (cZ2 fun x y=>((Int.gcd x y:Nat):Int)):=by
 refine aK ((((((nil0.ad mZ).ad zY).ad a2H).ad KJ).ad a8c).ad b2U) ⟨[4],[],[]⟩ Tryz.func213 rfl (by decide) (fun x=>[.inv (GcO x.1 x.2.1) (fun p=>[(5,.val tG p.1.1),(6,.val tG p.1.2)]) (fun p=>[(4,.box [⟨tZ,(0:Int)⟩])]) (fun p=>val p.1.2) ⟨(dig (Int.natAbs x.1),dig (Int.natAbs x.2.1)),dG _,dG _,fun h=>h,by rw[bK,bK];rfl⟩ (fun p=>[
  .inv (GcI x.1 x.2.1 p) (fun q=>[(7,.val tU (q.1.1:Int)),(9,.val tU (q.1.2:Int))]) (fun q=>[(4,.box [⟨tZ,(0:Int)⟩])]) (fun q=>q.1.2) ⟨(val p.1.1,val p.1.2),fun h=>⟨b6y p.2.1 h.1,b6y p.2.2.1 h.2⟩,p.2.2.2.2⟩ (fun _=>[])])]) (fun x hp=>?_)
 obtain⟨x,y,u⟩:=x
 change Int at x
 change Int at y
 refine aU ((True/\True/\True)/\(dig (Int.natAbs x)=dig (Int.natAbs x)/\dig (Int.natAbs y)=dig (Int.natAbs y)/\asT Int 0=0/\True)/\∀ (i:GcO x y),let A₁:=(if List.length (aA i).2<=2 then (aB (val (aA i).2),true,()) else (0,false,()));let A₂:=(val (aA i).1);let A₀:=(if List.length (aA i).1<=2 then (aB A₂,true,()) else (0,false,()));asT Bool true=true/\ifB (decide (aB (aA i).2.length > 0)) ((Low (aA i).1/\True)/\(Low (aA i).2/\True)/\((Prod.fst A₀.2=true->(Prod.fst A₀.2==true)=true)/\True)/\ifB (bif Prod.fst A₀.2 then Prod.fst A₁.2 else false) ((Prod.fst A₀=aB A₂/\Prod.fst A₁=aB (val (aA i).2)/\asT Int 0=0/\True)/\∀ (i_1:GcI x y i),let aJ:=(aB (aA i_1).1);asT Bool true=true/\ifB (decide (aB (aA i_1).2 > 0)) ((aB (aA i_1).2≠0/\True)/\∃ (i':GcI x y i),Prod.snd (aA i')<Prod.snd (aA i_1)/\aB (aA i_1).2=aB (aA i').1/\Int.tmod aJ (aB (aA i_1).2)=aB (aA i').2/\asT Int 0=0/\True) (((0<=aB (aA i_1).1/\aB (aA i_1).1<18446744073709551616)/\Low (dig aJ.toNat)/\True)/\True/\sg false (val (dig aJ.toNat))=aB (Int.gcd x y)/\True)) (((Canon (aA i).1/\Canon (aA i).2/\List.length (aA i).1<=1000000000/\Prod.snd (aA i)≠aF Nat)/\True)/\∃ (i':GcO x y),val (aA i').2<val (aA i).2/\Prod.snd (aA i)=Prod.fst (aA i')/\dig (val (aA i).1%val (aA i).2)=Prod.snd (aA i')/\asT Int 0=0/\True)) ((List.length (aA i).1<=1000000000/\Low (aA i).1/\True)/\True/\sg false A₂=aB (Int.gcd x y)/\True)) (by kernel_rfl) ?_
 have hZ:(⟨false,0,[],[]⟩:aH)=bF:=rfl
 try simp only[aC,aj,ah]
 try dsimp only[aB,asT,aA,aF,Ty.den,Lf.den] at *
 try simp only[hZ,Int.toNat_natCast,aC,aj,ah,jh,jg,gy,bf]
 try simp only[bT,bP,List.all_cons,List.all_nil,jk,dw,ig,jf,jy,ne_eq,au,bg,dn,eu,jd,oq,jr,ou,jh,jg,iw,bn,List.length_cons,List.length_nil]
 have hp:isz x<=1000000000/\isz y<=1000000000:=hp
 rintro⟨⟨a,b⟩,c1,c2,hl,hg⟩
 obtain⟨la,lb⟩:=hl hp
 have c1:Canon a:=c1
 have c2:Canon b:=c2
 have hg:Nat.gcd (val a) (val b)=Int.gcd x y:=hg
 have la:a.length<=1000000000:=la
 have lb:b.length<=1000000000:=lb
 simp only
 refine⟨fun h=>⟨c1.1,c2.1,?_,fun h2=>?_,fun h2=>?_⟩,fun h=>⟨⟨la,c1.1⟩,?_⟩⟩
 ·intro h;rw[h];rfl
 ·have s1:a.length<=2:=Decidable.byContradiction fun e=>by rw[ji e] at h2;cases h2
  have s2:b.length<=2:=Decidable.byContradiction fun e=>by rw[jm s1,ji e] at h2;cases h2
  rw[jm s1,jm s2]
  refine⟨⟨rfl,rfl⟩,?_⟩
  rintro⟨⟨m,n⟩,hb,hg2⟩
  have hb:m<18446744073709551616/\n<18446744073709551616:=hb ⟨s1,s2⟩
  have hg2:Nat.gcd m n=Int.gcd x y:=hg2
  simp only
  refine⟨fun h3=>⟨by omega,⟨(n,m%n),fun _=>⟨hb.2,Nat.lt_of_le_of_lt (Nat.mod_le _ _) hb.1⟩,?_⟩,Aw _ (by omega),rfl,rfl⟩,fun h3=>⟨⟨by omega,bY _⟩,?_⟩⟩
  ·show Nat.gcd n (m%n)=_
   rw[<-hg2,Nat.gcd_comm m n,Nat.gcd_rec n m,Nat.gcd_comm]
  ·rw[bK,<-hg2,show n=0 by omega,Nat.gcd_zero_right];rfl
 ·have hb0:b≠[]:=fun e=>by rw[e] at h;exact absurd h (by decide)
  have hv:0<val b:=Nat.pos_of_ne_zero fun e=>hb0 (by rw[<-dM c2,e];exact iH.2 rfl)
  have hlt:=Aw (val a) hv
  refine⟨⟨c1,c2,la,hb0⟩,⟨(b,dig (val a%val b)),c2,dG _,fun _=>⟨lb,?_⟩,?_⟩,?_,rfl,rfl⟩
  ·have:=aV (show val a%val b<=val b by omega)
   rw[dM c2] at this
   exact iq this lb
  ·show Nat.gcd (val b) (val (dig (val a%val b)))=_
   rw[bK,<-hg,Nat.gcd_comm (val a),Nat.gcd_rec (val b) (val a),Nat.gcd_comm]
  ·show val (dig (val a%val b))<val b
   rw[bK];exact hlt
 ·have:b=[]:=qp (by omega)
  rw[<-hg,this]
  show _=((Nat.gcd (val a) 0:Nat):Int)
  rw[Nat.gcd_zero_right];rfl
set_option maxHeartbeats 4000000
def KL (x y:Rat):Int:=if x<y then -1 else if y<x then 1 else 0
theorem b3m (x y:Rat):dF (x.num*y.den) (y.num*x.den)=KL x y:=by
 unfold dF KL
 simp only[a4f]
set_option maxHeartbeats 1000000
theorem c3g:isz 1=1:=by decide +kernel
theorem a0C {x:Int} (h:aX x):isz x<=3:=vU (by obtain⟨a,b⟩:=h;rw[bM];omega)
theorem b3x (q:Rat):(0:Int)<(q.den:Int):=lC q
theorem EI (q:Rat):((q.den:Nat):Int)≠0:=by have:=lC q;omega
theorem a3T (q:Rat):Rat.divInt q.num (q.den:Int)=q:=Rat.num_divInt_den q
theorem b1j (q:Rat):Rat.divInt (-q.num) (q.den:Int)=-q:=by
 have:=a3T (-q)
 rwa [AQ,AP] at this
theorem sz8 {q:Rat} {K:Nat} (h:rsz q<=K):isz q.num<=K/\isz (q.den:Int)<=K:=⟨iq (oQ q) h,iq (kJ q) h⟩
theorem IZ {x y:Int} {K L:Nat} (hx:isz x<=K) (hy:isz y<=L):isz (x*y)<=K+L:=by have:=gJ x y;omega
theorem c1b {x:Int}:(x.sign==0)=decide (x=0):=by
 by_cases h:x=0
 ·subst h;rfl
 ·rw[ny h];exact dn.mpr fun e=>h (Em.1 e)
theorem c2u (n:Nat):(dF (n:Int) 1==0)=decide (n=1):=by
 unfold dF
 rcases Nat.lt_trichotomy n 1 with h|h|h
 ·rw[jm (by omega),ny (by omega)];rfl
 ·rw[ji (by omega),ji (by omega),uf h];rfl
 ·rw[ji (by omega),jm (by omega),ny (by omega)];rfl
theorem rd8 {x y a b:Int} (h:a=(Rat.divInt x y).num/\b=((Rat.divInt x y).den:Int)):0<b/\Int.gcd a b=1/\Rat.divInt a b=Rat.divInt x y:=by
 rw[h.1,h.2]
 exact⟨b3x _,JF _,a3T _⟩
abbrev tV:Ty:=.lf .FI
def cIV:Ctr:=⟨[tV],[tB],fun x=>True,fun x=>((show gW from x.1).ok,())⟩
theorem a8I {f:FuncId} (h:∀ (v:Value) (ok:Bool) (x:Int) (w:World),kN w v ok x->Calls Tryz.prog f #[v] w (fun e w'=>e=.returned (.bool ok)/\Below w.heap.size w w')):aI Tryz.prog f cIV:=by
 intro F w vs x hF hvs hp
 obtain⟨v,vs',rfl,h1,h3⟩:=hvs
 have h3:vs'=[]:=h3
 subst h3
 obtain⟨cs,rfl,b,p,c,rfl,h2,_⟩:=h1
 refine(h _ _ _ w h2).mono ?_
 rintro e w' ⟨rfl,hb⟩
 exact⟨_,rfl,a1k _,hb⟩
theorem ZK:aI Tryz.prog 175 cIZ:=(a3u fun x w h0 h1=>b1l x w h0 h1)
theorem b6D:aI Tryz.prog 212 cIV:=(a8I fun v ok x w h=>a4E v ok x w h)
abbrev tP:Ty:=.pair tV (.pair tV .unit)
def a3f (x y:gW):Bool:=x.ok&&(y.ok&&(decide (0<y.x)&&decide (Int.gcd x.x y.x=1)))
def b6N (K:Nat):Ctr:=⟨[tP],[tB],fun x=>isz (show gW from x.1.1).x<=K/\isz (show gW from x.1.2.1).x<=K,fun x=>(a3f x.1.1 x.1.2.1,())⟩
theorem b5D:aI Tryz.prog 126 (b6N 1000000000):=by
 refine aK (((((nil0.ad ZK).ad IG).ad qZ).ad RZ).ad b6D) ⟨[],[],[]⟩ Tryz.func126 rfl (by decide) (fun x=>[]) (fun x hp=>?_)
 obtain⟨x,u⟩:=x
 change gW × gW × Unit at x
 refine aU (let A₁:=(asT gW x.1);let A₂:=(asT gW x.2.1);let A₀:=(bif !gW.ok A₁ then true else !gW.ok A₂);let aJ:=((!gW.ok A₁)==false);let aT:=((A₀==false)=true->(A₀==false)=true/\True);let bV:=(aJ=true->aJ=true/\True);(True/\bV/\(aJ=true->aJ=true/\True/\True)/\bV/\((!gW.ok A₁)=false->aJ=true)/\aT/\((A₀==false)=true->(A₀==false)=true/\gW.ok A₂=true/\True/\True)/\aT/\(A₀=false->(A₀==false)=true)/\True)/\ifB (bif bif !gW.ok A₁ then true else !gW.ok A₂ then true else decide (Int.sign (gW.x A₂)<=0)) (True/\false=a3f A₁ A₂/\True) ((gW.ok A₁=true/\gW.ok A₂=true/\(isz (gW.x A₁)<=1000000000/\isz (gW.x A₂)<=1000000000)/\aX 1/\True/\True)/\True/\(dF (aB (Int.gcd (gW.x A₁) (gW.x A₂))) 1==0)=a3f A₁ A₂/\True)) (by kernel_rfl) ?_
 have hZ:(⟨false,0,[],[]⟩:aH)=bF:=rfl
 try simp only[aC,aj,ah]
 try dsimp only[aB,asT,aA,aF,Ty.den,Lf.den] at *
 try simp only[hZ,Int.toNat_natCast,aC,aj,ah,jh,jg,gy,bf]
 try simp only[bT,bP,List.all_cons,List.all_nil,jk,dw,ig,jf,jy,ne_eq,au,bg,dn,eu,jd,oq,jr,ou,jh,jg,iw,bn,List.length_cons,List.length_nil]
 obtain⟨⟨o1,n,g⟩,⟨o2,d,h⟩,u⟩:=x
 have e:(d.sign<=0)=¬ 0<d:=propext (by rw[<-Int.sign_pos_iff];omega)
 simp only[e,c2u,a3f] at *
 cases o1<;>cases o2<;>simp
 by_cases hd:0<d
 ·simp[hd]
  exact⟨fun h=>absurd hd (by omega),hp,by omega,by omega⟩
 ·simp[hd]
noncomputable def c4v:Ctr:=⟨[tZ,tZ],[tQ],fun x=>isz x.1<=1000000000/\isz x.2.1<=1000000000/\(show Int from x.2.1)≠0,fun x=>(Rat.divInt x.1 x.2.1,())⟩
theorem PG:aI Tryz.prog 180 c4v:=by
 refine aK ((((nil0.ad IG).ad zN).ad qZ).ad SA) ⟨[4,5,2,3],[],[]⟩ Tryz.func180 rfl (by decide) (fun x=>[]) (fun x hp=>?_)
 obtain⟨x,y,u⟩:=x
 change Int at x
 change Int at y
 refine aU (let A₀:=(aB (Int.gcd (-x) (-y)));let A₁:=(Int.fdiv x (aB (Int.gcd x y)));let A₂:=(Int.fdiv y (aB (Int.gcd x y)));(True/\True)/\ifB (decide (Int.sign y<0)) ((isz x<=1000000000/\isz y<=1000000000/\True)/\((isz (-x)<=1000000000/\isz (-y)<=1000000000)/\True)/\((isz (-x)<=1000000000/\isz A₀<=1000000000/\aB (Int.gcd (-x) (-y))≠0)/\True)/\((isz (-y)<=1000000000/\isz A₀<=1000000000/\aB (Int.gcd (-x) (-y))≠0)/\True)/\(0<Int.fdiv (-y) A₀/\Int.gcd (Int.fdiv (-x) A₀) (Int.fdiv (-y) A₀)=1/\True)/\Rat.divInt (Int.fdiv (-x) A₀) (Int.fdiv (-y) A₀)=Rat.divInt x y/\True) (((isz x<=1000000000/\isz y<=1000000000)/\True)/\((isz x<=1000000000/\isz (aB (Int.gcd x y))<=1000000000/\aB (Int.gcd x y)≠0)/\True)/\((isz y<=1000000000/\isz (aB (Int.gcd x y))<=1000000000/\aB (Int.gcd x y)≠0)/\True)/\(0<Int.fdiv y (aB (Int.gcd x y))/\Int.gcd A₁ A₂=1/\True)/\Rat.divInt A₁ A₂=Rat.divInt x y/\True)) (by kernel_rfl) ?_
 have hZ:(⟨false,0,[],[]⟩:aH)=bF:=rfl
 try simp only[aC,aj,ah]
 try dsimp only[aB,asT,aA,aF,Ty.den,Lf.den] at *
 try simp only[hZ,Int.toNat_natCast,aC,aj,ah,jh,jg,gy,bf]
 try simp only[bT,bP,List.all_cons,List.all_nil,jk,dw,ig,jf,jy,ne_eq,au,bg,dn,eu,jd,oq,jr,ou,jh,jg,iw,bn,List.length_cons,List.length_nil]
 obtain⟨l1,l2,hy⟩:isz x<=1000000000/\isz y<=1000000000/\y≠0:=hp
 have hy':-y≠0:=by omega
 refine⟨fun h=>⟨⟨l1,l2⟩,⟨by rw[kH];exact l1,by rw[kH];exact l2⟩,⟨by rw[kH];exact l1,kU hy' (by rw[kH];exact l2),gcd_ne hy'⟩,⟨by rw[kH];exact l2,kU hy' (by rw[kH];exact l2),gcd_ne hy'⟩,?_⟩,fun h=>⟨⟨l1,l2⟩,⟨l1,kU hy l2,gcd_ne hy⟩,⟨l2,kU hy l2,gcd_ne hy⟩,?_⟩⟩
 ·have:=rd8 (a0o (n:=x) (Dy.1 h))
  exact⟨⟨this.1,this.2.1⟩,this.2.2⟩
 ·have h0:¬ y<0:=fun e=>h (Dy.2 e)
  have:=rd8 (GV (n:=x) (show 0<y by omega))
  exact⟨⟨this.1,this.2.1⟩,this.2.2⟩
theorem b3n:aI Tryz.prog 256 (cZ1 fun x=>x):=by
 refine aK ((nil0.ad ZK).ad b6D) ⟨[2],[],[]⟩ Tryz.func256 rfl (by decide) (fun x=>[]) (fun x hp=>?_)
 obtain⟨x,u⟩:=x
 change Int at x
 refine aU ((True/\True)/\True/\x=x/\True) (by kernel_rfl) ?_
 exact⟨⟨trivial,trivial⟩,trivial,rfl,trivial⟩
theorem DK:aI Tryz.prog 90 (cIQ aX (fun i=>(i:Rat))):=by
 refine aK (nil0.ad ZK) ⟨[2],[],[]⟩ Tryz.func90 rfl (by decide) (fun x=>[]) (fun x hp=>?_)
 obtain⟨n,u⟩:=x
 change Int at n
 refine aU ((aX n/\aX 1/\True)/\(asT Int 0<1/\Int.gcd n 1=1/\True)/\Rat.divInt n 1=aO n/\True) (by kernel_rfl) ?_
 have hZ:(⟨false,0,[],[]⟩:aH)=bF:=rfl
 try simp only[aC,aj,ah]
 try dsimp only[aB,asT,aA,aF,Ty.den,Lf.den] at *
 try simp only[hZ,Int.toNat_natCast,aC,aj,ah,jh,jg,gy,bf]
 try simp only[bT,bP,List.all_cons,List.all_nil,jk,dw,ig,jf,jy,ne_eq,au,bg,dn,eu,jd,oq,jr,ou,jh,jg,iw,bn,List.length_cons,List.length_nil]
 exact⟨⟨hp,by omega,by omega⟩,⟨by omega,Int.gcd_one_right _⟩,by rw[show (1:Int)=((1:Nat):Int) from rfl,Rat.divInt_ofNat];exact Rat.mkRat_one n⟩
theorem b3r:aI Tryz.prog 250 (cQ1 (fun x=>rsz x<=1000000000) (fun x=>x)):=by
 refine aK (nil0.ad zN) ⟨[2],[],[]⟩ Tryz.func250 rfl (by decide) (fun x=>[]) (fun x hp=>?_)
 obtain⟨x,u⟩:=x
 change Rat at x
 refine aU ((isz (Rat.num x)<=1000000000/\isz (-Rat.num x)<=1000000000/\isz (aB (Rat.den x))<=1000000000/\isz (-aB (Rat.den x))<=1000000000/\True)/\(0 < - -aB (Rat.den x)/\Int.gcd (- -Rat.num x) (- -aB (Rat.den x))=1/\True)/\Rat.divInt (- -Rat.num x) (- -aB (Rat.den x))=x/\True) (by kernel_rfl) ?_
 have hZ:(⟨false,0,[],[]⟩:aH)=bF:=rfl
 try simp only[aC,aj,ah]
 try dsimp only[aB,asT,aA,aF,Ty.den,Lf.den] at *
 try simp only[hZ,Int.toNat_natCast,aC,aj,ah,jh,jg,gy,bf]
 try simp only[bT,bP,List.all_cons,List.all_nil,jk,dw,ig,jf,jy,ne_eq,au,bg,dn,eu,jd,oq,jr,ou,jh,jg,iw,bn,List.length_cons,List.length_nil]
 obtain⟨a,b⟩:=sz8 (show rsz x<=1000000000 from hp)
 simp only[Int.neg_neg,kH]
 exact⟨⟨a,a,b,b⟩,⟨b3x x,JF x⟩,a3T x⟩
theorem b2S {f:FuncId} {K:Nat} (hf:aI Tryz.prog f (b6N K)):aI Tryz.prog f (cVal K):=fun F w vs x hF hvs hp=>by
 obtain⟨v,vs',rfl,h1,h3⟩:=hvs
 have h3:vs'=[]:=h3
 subst h3
 obtain⟨cs,rfl,b,p,c,b',p',c',rfl,h2,h4,h5⟩:=h1
 obtain⟨_,_,_,_,o1,o2,n,d,e,k1,k2,k3,_⟩:=h2
 simp only[Value.agg.injEq,Array.mk.injEq,List.cons.injEq,jg] at e
 obtain⟨rfl,rfl,rfl,rfl⟩:=e
 rw[show (cVal K).fn x=(a3f ⟨o1,n,(show aH from x.1).g⟩ ⟨o2,d,(show aH from x.1).h⟩,()) from vg (fun o=>(o,())) k3]
 exact hf F w _ ((⟨o1,n,(show aH from x.1).g⟩,⟨o2,d,(show aH from x.1).h⟩,()),()) hF ⟨_,_,rfl,⟨_,rfl,[.bool b,.slice p (aH.n x.1) c],[.bool b',.slice p' (aH.m x.1) c'],rfl,⟨b,p,c,rfl,k1,h4⟩,[.bool b',.slice p' (aH.m x.1) c'],[],rfl,⟨b',p',c',rfl,k2,h5⟩,rfl⟩,rfl⟩ ⟨iq k1.raw.len hp.1,iq k2.raw.len hp.2⟩
theorem a1l:aI Tryz.prog 126 (cVal 1000000000):=b2S b5D
theorem DJ:aI Tryz.prog 178 (cQ1 (fun x=>rsz x<=1000000000) (fun x=>x)):=by
 refine aK (((nil0.ad DK).ad b3r).ad a1l) ⟨[2],[],[]⟩ Tryz.func178 rfl (by decide) (fun x=>[]) (fun x hp=>?_)
 obtain⟨x,u⟩:=x
 change Rat at x
 refine aU (((aH.n (eU x)<=1000000000/\aH.m (eU x)<=1000000000)/\True)/\(rsz x<=1000000000/\True)/\True/\x=x/\True) (by kernel_rfl) ?_
 have hZ:(⟨false,0,[],[]⟩:aH)=bF:=rfl
 try simp only[aC,aj,ah]
 try dsimp only[aB,asT,aA,aF,Ty.den,Lf.den] at *
 try simp only[hZ,Int.toNat_natCast,aC,aj,ah,jh,jg,gy,bf]
 try simp only[bT,bP,List.all_cons,List.all_nil,jk,dw,ig,jf,jy,ne_eq,au,bg,dn,eu,jd,oq,jr,ou,jh,jg,iw,bn,List.length_cons,List.length_nil]
 have hp:rsz x<=1000000000:=hp
 obtain⟨a,b⟩:=sz8 hp
 exact⟨⟨a,b⟩,hp⟩
theorem a0r:aI Tryz.prog 183 (cNew 1000000000 14):=by
 refine aK (((nil0.ad qZ).ad PG).ad b3n) ⟨[4,2,3],[],[]⟩ Tryz.func183 rfl (by decide) (fun x=>[]) (fun x hp=>?_)
 obtain⟨x,y,u⟩:=x
 change Int at x
 change Int at y
 refine aU ((isz x<=1000000000/\isz y<=1000000000/\True)/\(True/\True)/\ifB (Int.sign y==0) (True/\bF=Prod.fst (newT 14 x y)/\True/\14=Prod.fst (newT 14 x y).2/\True) (((isz x<=1000000000/\isz y<=1000000000/\y≠0)/\True)/\True/\eU (Rat.divInt x y)=Prod.fst (newT 14 x y)/\True/\0=Prod.fst (newT 14 x y).2/\True)) (by kernel_rfl) ?_
 have hZ:(⟨false,0,[],[]⟩:aH)=bF:=rfl
 try simp only[aC,aj,ah]
 try dsimp only[aB,asT,aA,aF,Ty.den,Lf.den] at *
 try simp only[hZ,Int.toNat_natCast,aC,aj,ah,jh,jg,gy,bf]
 try simp only[bT,bP,List.all_cons,List.all_nil,jk,dw,ig,jf,jy,ne_eq,au,bg,dn,eu,jd,oq,jr,ou,jh,jg,iw,bn,List.length_cons,List.length_nil]
 obtain⟨l1,l2⟩:isz x<=1000000000/\isz y<=1000000000:=hp
 rw[c1b]
 refine⟨⟨l1,l2⟩,fun h=>?_,fun h=>?_⟩
 ·unfold newT;rw[jm (qw h)];exact⟨rfl,rfl⟩
 ·unfold newT;rw[ji (ug h)];exact⟨⟨l1,l2,ug h⟩,rfl,rfl⟩
theorem a5p:aI Tryz.prog 147 a8H:=by
 refine aK ((nil0.ad ZK).ad a0r) ⟨[4],[],[]⟩ Tryz.func147 rfl (by decide) (fun x=>[]) (fun x hp=>?_)
 obtain⟨x,y,u⟩:=x
 change Int at x
 change Int at y
 refine aU ((aX x/\aX y/\(isz x<=1000000000/\isz y<=1000000000)/\True)/\(aH.ok (newT 14 x y).1=true/\True)/\aH.x (newT 14 x y).1=Rat.divInt x y/\True/\Prod.fst (newT 14 x y).2=0/\True) (by kernel_rfl) ?_
 have hZ:(⟨false,0,[],[]⟩:aH)=bF:=rfl
 try simp only[aC,aj,ah]
 try dsimp only[aB,asT,aA,aF,Ty.den,Lf.den] at *
 try simp only[hZ,Int.toNat_natCast,aC,aj,ah,jh,jg,gy,bf]
 try simp only[bT,bP,List.all_cons,List.all_nil,jk,dw,ig,jf,jy,ne_eq,au,bg,dn,eu,jd,oq,jr,ou,jh,jg,iw,bn,List.length_cons,List.length_nil]
 obtain⟨h1,h2,h3⟩:aX x/\aX y/\y≠0:=hp
 rw[show newT 14 x y=(eU (Rat.divInt x y),0,()) from ji h3]
 exact⟨⟨h1,h2,iq (a0C h1) (by omega),iq (a0C h2) (by omega)⟩,rfl,rfl,rfl⟩
theorem OL:aI Tryz.prog 127 (cQI (fun x=>rsz x<=1000000000) (fun x=>sgn x.num)):=by
 refine aK ((nil0.ad qZ).ad DJ) ⟨[],[],[]⟩ Tryz.func127 rfl (by decide) (fun x=>[]) (fun x hp=>?_)
 obtain⟨x,u⟩:=x
 change Rat at x
 refine aU ((rsz x<=1000000000/\True/\True)/\True/\Int.sign (Rat.num x)=sgn (Rat.num x)/\True) (by kernel_rfl) ?_
 have hZ:(⟨false,0,[],[]⟩:aH)=bF:=rfl
 try simp only[aC,aj,ah]
 try dsimp only[aB,asT,aA,aF,Ty.den,Lf.den] at *
 try simp only[hZ,Int.toNat_natCast,aC,aj,ah,jh,jg,gy,bf]
 try simp only[bT,bP,List.all_cons,List.all_nil,jk,dw,ig,jf,jy,ne_eq,au,bg,dn,eu,jd,oq,jr,ou,jh,jg,iw,bn,List.length_cons,List.length_nil]
 exact⟨hp,rfl⟩
theorem a5o:aI Tryz.prog 172 (cQ1 s4 (fun x=>-x)):=by
 refine aK ((nil0.ad zN).ad DJ) ⟨[2,1],[],[]⟩ Tryz.func172 rfl (by decide) (fun x=>[]) (fun x hp=>?_)
 obtain⟨x,u⟩:=x
 change Rat at x
 refine aU ((rsz x<=1000000000/\True)/\(isz (Rat.num x)<=1000000000/\True)/\(0<aB (Rat.den x)/\Int.gcd (-Rat.num x) (aB (Rat.den x))=1/\True)/\Rat.divInt (-Rat.num x) (aB (Rat.den x))=-x/\True) (by kernel_rfl) ?_
 have hZ:(⟨false,0,[],[]⟩:aH)=bF:=rfl
 try simp only[aC,aj,ah]
 try dsimp only[aB,asT,aA,aF,Ty.den,Lf.den] at *
 try simp only[hZ,Int.toNat_natCast,aC,aj,ah,jh,jg,gy,bf]
 try simp only[bT,bP,List.all_cons,List.all_nil,jk,dw,ig,jf,jy,ne_eq,au,bg,dn,eu,jd,oq,jr,ou,jh,jg,iw,bn,List.length_cons,List.length_nil]
 have hp:rsz x<=400000000:=hp
 obtain⟨a,b⟩:=sz8 hp
 exact⟨by omega,by omega,⟨b3x x,by have:=JF (-x);rwa [AQ,AP] at this⟩,b1j x⟩
theorem a0n:aI Tryz.prog 173 (cQ2 s44 (·+·)):=by
 refine aK ((((nil0.ad wH).ad a2e).ad PG).ad DJ) ⟨[4,2,3],[],[]⟩ Tryz.func173 rfl (by decide) (fun x=>[]) (fun x hp=>?_)
 obtain⟨x,y,u⟩:=x
 change Rat at x
 change Rat at y
 refine aU ((rsz x<=1000000000/\rsz y<=1000000000/\True)/\((isz (Rat.num x)<=1000000000/\isz (aB (Rat.den y))<=1000000000)/\(isz (Rat.num y)<=1000000000/\isz (aB (Rat.den x))<=1000000000)/\(isz (Rat.num x*aB (Rat.den y))<=1000000000/\isz (Rat.num y*aB (Rat.den x))<=1000000000)/\(isz (aB (Rat.den x))<=1000000000/\isz (aB (Rat.den y))<=1000000000)/\(isz (Rat.num x*aB (Rat.den y)+Rat.num y*aB (Rat.den x))<=1000000000/\isz (aB (Rat.den x)*aB (Rat.den y))<=1000000000/\aB (Rat.den x)*aB (Rat.den y)≠0)/\True)/\True/\Rat.divInt (Rat.num x*aB (Rat.den y)+Rat.num y*aB (Rat.den x)) (aB (Rat.den x)*aB (Rat.den y))=x+y/\True) (by kernel_rfl) ?_
 have hZ:(⟨false,0,[],[]⟩:aH)=bF:=rfl
 try simp only[aC,aj,ah]
 try dsimp only[aB,asT,aA,aF,Ty.den,Lf.den] at *
 try simp only[hZ,Int.toNat_natCast,aC,aj,ah,jh,jg,gy,bf]
 try simp only[bT,bP,List.all_cons,List.all_nil,jk,dw,ig,jf,jy,ne_eq,au,bg,dn,eu,jd,oq,jr,ou,jh,jg,iw,bn,List.length_cons,List.length_nil]
 obtain⟨l1,l2⟩:rsz x<=400000000/\rsz y<=400000000:=hp
 obtain⟨a,b⟩:=sz8 l1
 obtain⟨c,d⟩:=sz8 l2
 have m1:=IZ a d
 have m2:=IZ c b
 have m3:=IZ b d
 have m4:=xH (x.num*y.den) (y.num*x.den)
 exact⟨⟨by omega,by omega⟩,⟨⟨by omega,by omega⟩,⟨by omega,by omega⟩,⟨by omega,by omega⟩,⟨by omega,by omega⟩,by omega,by omega,Int.mul_ne_zero (EI x) (EI y)⟩,a0L x y⟩
theorem OI:aI Tryz.prog 89 (cQ2 s44 (·*·)):=by
 refine aK (((nil0.ad wH).ad PG).ad DJ) ⟨[4,2,3],[],[]⟩ Tryz.func89 rfl (by decide) (fun x=>[]) (fun x hp=>?_)
 obtain⟨x,y,u⟩:=x
 change Rat at x
 change Rat at y
 refine aU ((rsz x<=1000000000/\rsz y<=1000000000/\True)/\((isz (Rat.num x)<=1000000000/\isz (Rat.num y)<=1000000000)/\(isz (aB (Rat.den x))<=1000000000/\isz (aB (Rat.den y))<=1000000000)/\(isz (Rat.num x*Rat.num y)<=1000000000/\isz (aB (Rat.den x)*aB (Rat.den y))<=1000000000/\aB (Rat.den x)*aB (Rat.den y)≠0)/\True)/\True/\Rat.divInt (Rat.num x*Rat.num y) (aB (Rat.den x)*aB (Rat.den y))=x*y/\True) (by kernel_rfl) ?_
 have hZ:(⟨false,0,[],[]⟩:aH)=bF:=rfl
 try simp only[aC,aj,ah]
 try dsimp only[aB,asT,aA,aF,Ty.den,Lf.den] at *
 try simp only[hZ,Int.toNat_natCast,aC,aj,ah,jh,jg,gy,bf]
 try simp only[bT,bP,List.all_cons,List.all_nil,jk,dw,ig,jf,jy,ne_eq,au,bg,dn,eu,jd,oq,jr,ou,jh,jg,iw,bn,List.length_cons,List.length_nil]
 obtain⟨l1,l2⟩:rsz x<=400000000/\rsz y<=400000000:=hp
 obtain⟨a,b⟩:=sz8 l1
 obtain⟨c,d⟩:=sz8 l2
 have m1:=IZ a c
 have m3:=IZ b d
 exact⟨⟨by omega,by omega⟩,⟨⟨by omega,by omega⟩,⟨by omega,by omega⟩,by omega,by omega,Int.mul_ne_zero (EI x) (EI y)⟩,a0N x y⟩
theorem a5m:aI Tryz.prog 87 (b5M 400000000 14):=by
 refine aK ((((nil0.ad wH).ad qZ).ad PG).ad DJ) ⟨[4,2,3],[],[]⟩ Tryz.func87 rfl (by decide) (fun x=>[]) (fun x hp=>?_)
 obtain⟨x,y,u⟩:=x
 change Rat at x
 change Rat at y
 refine aU ((rsz x<=1000000000/\rsz y<=1000000000/\True)/\(True/\True)/\ifB (Int.sign (Rat.num y)==0) (True/\bF=Prod.fst (VP 14 x y)/\True/\14=Prod.fst (VP 14 x y).2/\True) (((isz (Rat.num x)<=1000000000/\isz (aB (Rat.den y))<=1000000000)/\(isz (aB (Rat.den x))<=1000000000/\isz (Rat.num y)<=1000000000)/\(isz (Rat.num x*aB (Rat.den y))<=1000000000/\isz (aB (Rat.den x)*Rat.num y)<=1000000000/\aB (Rat.den x)*Rat.num y≠0)/\True)/\True/\eU (Rat.divInt (Rat.num x*aB (Rat.den y)) (aB (Rat.den x)*Rat.num y))=Prod.fst (VP 14 x y)/\True/\0=Prod.fst (VP 14 x y).2/\True)) (by kernel_rfl) ?_
 have hZ:(⟨false,0,[],[]⟩:aH)=bF:=rfl
 try simp only[aC,aj,ah]
 try dsimp only[aB,asT,aA,aF,Ty.den,Lf.den] at *
 try simp only[hZ,Int.toNat_natCast,aC,aj,ah,jh,jg,gy,bf]
 try simp only[bT,bP,List.all_cons,List.all_nil,jk,dw,ig,jf,jy,ne_eq,au,bg,dn,eu,jd,oq,jr,ou,jh,jg,iw,bn,List.length_cons,List.length_nil]
 obtain⟨l1,l2⟩:rsz x<=400000000/\rsz y<=400000000:=hp
 obtain⟨a,b⟩:=sz8 l1
 obtain⟨c,d⟩:=sz8 l2
 have m1:=IZ a d
 have m3:=IZ b c
 rw[c1b]
 refine⟨⟨by omega,by omega⟩,fun h=>?_,fun h=>?_⟩
 ·unfold VP;rw[jm ((rV y).1 (qw h))];exact⟨rfl,rfl⟩
 ·have h0:=ug h
  unfold VP;rw[ji (fun e=>h0 ((rV y).2 e)),a0M]
  exact⟨⟨⟨by omega,by omega⟩,⟨by omega,by omega⟩,by omega,by omega,Int.mul_ne_zero (EI x) h0⟩,rfl,rfl⟩
theorem b3D:aI Tryz.prog 128 (b3c s44 KL):=by
 refine aK (((nil0.ad wH).ad RZ).ad DJ) ⟨[2,3],[],[]⟩ Tryz.func128 rfl (by decide) (fun x=>[]) (fun x hp=>?_)
 obtain⟨x,y,u⟩:=x
 change Rat at x
 change Rat at y
 refine aU ((rsz x<=1000000000/\rsz y<=1000000000/\True)/\((isz (Rat.num x)<=1000000000/\isz (aB (Rat.den y))<=1000000000)/\(isz (Rat.num y)<=1000000000/\isz (aB (Rat.den x))<=1000000000)/\True/\True)/\True/\dF (Rat.num x*aB (Rat.den y)) (Rat.num y*aB (Rat.den x))=KL x y/\True) (by kernel_rfl) ?_
 have hZ:(⟨false,0,[],[]⟩:aH)=bF:=rfl
 try simp only[aC,aj,ah]
 try dsimp only[aB,asT,aA,aF,Ty.den,Lf.den] at *
 try simp only[hZ,Int.toNat_natCast,aC,aj,ah,jh,jg,gy,bf]
 try simp only[bT,bP,List.all_cons,List.all_nil,jk,dw,ig,jf,jy,ne_eq,au,bg,dn,eu,jd,oq,jr,ou,jh,jg,iw,bn,List.length_cons,List.length_nil]
 obtain⟨l1,l2⟩:rsz x<=400000000/\rsz y<=400000000:=hp
 obtain⟨a,b⟩:=sz8 l1
 obtain⟨c,d⟩:=sz8 l2
 exact⟨⟨by omega,by omega⟩,⟨⟨by omega,by omega⟩,by omega,by omega⟩,b3m x y⟩
theorem a5s:aI Tryz.prog 186 (cQ2 s44 (·-·)):=by
 refine aK ((nil0.ad a5o).ad a0n) ⟨[4],[],[]⟩ Tryz.func186 rfl (by decide) (fun x=>[]) (fun x hp=>?_)
 obtain⟨x,y,u⟩:=x
 change Rat at x
 change Rat at y
 refine aU ((s4 y/\s44 x (-y)/\True)/\True/\x+-y=x-y/\True) (by kernel_rfl) ?_
 have hZ:(⟨false,0,[],[]⟩:aH)=bF:=rfl
 try simp only[aC,aj,ah]
 try dsimp only[aB,asT,aA,aF,Ty.den,Lf.den] at *
 try simp only[hZ,Int.toNat_natCast,aC,aj,ah,jh,jg,gy,bf]
 try simp only[bT,bP,List.all_cons,List.all_nil,jk,dw,ig,jf,jy,ne_eq,au,bg,dn,eu,jd,oq,jr,ou,jh,jg,iw,bn,List.length_cons,List.length_nil]
 obtain⟨l1,l2⟩:rsz x<=400000000/\rsz y<=400000000:=hp
 obtain⟨a,b⟩:=sz8 l1
 obtain⟨c,d⟩:=sz8 l2
 exact⟨⟨l2,l1,by rw[a0V];exact l2⟩,(Rat.sub_eq_add_neg x y).symm⟩
set_option maxRecDepth 20000
noncomputable def LCa:Lib:=((((((((Lib.nil
 ).add 90 (cIQ aX (fun i=>(i:Rat))) DK
 ).add 126 (cVal 1000000000) a1l
 ).add 173 (cQ2 s44 (·+·)) a0n
 ).add 89 (cQ2 s44 (·*·)) OI
 ).add 186 (cQ2 s44 (·-·)) a5s
 ).add 128 (b3c s44 KL) b3D
 ).add 87 (b5M 400000000 14) a5m
 ).add 127 (cQI (fun x=>rsz x<=1000000000) (fun x=>sgn x.num)) OL
end Go.Proofs.YtbkocjmmbkifjaaGreat
