/-
  Lemmas for the theorem veight28_holds, part 19 of 32.
-/
import Derived.Test.YtbkocjmmbkifjaaGreatQg18
namespace Go.Proofs.YtbkocjmmbkifjaaGreat
open Go Go.RowKit
theorem xk:type_of% @decide_eq_true:=@decide_eq_true
theorem eu:type_of% @beq_eq_false_iff_ne:=@beq_eq_false_iff_ne
theorem ah:type_of% @decide_eq_false_iff_not:=@decide_eq_false_iff_not
theorem jo:type_of% @true_and:=@true_and
theorem jr:type_of% @Bool.and_true:=@Bool.and_true
theorem iw:type_of% @Bool.not_eq_false':=@Bool.not_eq_false'
theorem bg:type_of% @Bool.and_eq_false_imp:=@Bool.and_eq_false_imp
theorem ig:type_of% @bne_eq_false_iff_eq:=@bne_eq_false_iff_eq
theorem jh:type_of% @Int.natCast_inj:=@Int.natCast_inj
theorem qh:type_of% @imp_self:=@imp_self
theorem jy:type_of% @implies_true:=@implies_true
theorem ql:type_of% @and_self:=@and_self
theorem dn:type_of% @Bool.or_eq_false_iff:=@Bool.or_eq_false_iff
theorem vw:type_of% @of_decide_eq_true:=@of_decide_eq_true
theorem vk:type_of% @of_decide_eq_false:=@of_decide_eq_false
theorem Du:type_of% @Int.sign_neg_iff:=@Int.sign_neg_iff
set_option maxRecDepth 100000
set_option maxHeartbeats 1000000
set_option linter.unusedVariables false
set_option linter.unusedSimpArgs false
theorem sgf (x:Int):sg (decide (x<0)) x.natAbs=x:=by unfold sg;by_cases h:x<0<;>simp[h]<;>omega
theorem b9N (x:Int):(dig x.natAbs).length=isz x:=rfl
theorem ZT (n:Nat):(((dig n).length:Int)==0)=decide (n=0):=by
 by_cases h:n=0
 ·rw[xk h,iE.2 h];rfl
 ·rw[qo h]
  exact eu.mpr fun e=>h (iE.1 (qj (by omega)))
theorem a7m (n:Nat):decide (((dig n).length:Int) > 0)=decide (n≠0):=by
 have:=ZT n
 by_cases h:n=0
 ·rw[h,qo (show ¬ (0:Nat)≠0 by omega),iE.2 rfl];rfl
 ·rw[xk h]
  rw[qo h] at this
  have:=eu.mp this
  exact xk (by omega)
theorem c0N {n m:Bool} {a b:Nat} (h:(n==m)=true):sg n (a+b:Nat)=sg n a+sg m b:=by
 rw[eq_of_beq h];unfold sg;cases m<;>simp;omega
theorem c0O {n m:Bool} {a b:Nat} (h:(n==m)=false) (h4:b<=a):sg n (a-b:Nat)=sg n a+sg m b:=by
 have e:m=!n:=by cases n<;>cases m<;>simp_all
 subst e;unfold sg;cases n<;>simp<;>omega
theorem c0P {n m:Bool} {a b:Nat} (h:(n==m)=false) (h4:a<=b):sg m (b-a:Nat)=sg n a+sg m b:=by
 have e:m=!n:=by cases n<;>cases m<;>simp_all
 subst e;unfold sg;cases n<;>simp<;>omega
theorem a3k {a b:Nat} (h3:bZ (a:Int) (b:Int) ≥ 0):b<=a:=by
 unfold bZ at h3
 rcases Ac a b with h|h
 ·rw[jl (by omega)] at h3;omega
 ·exact h
theorem a3l {a b:Nat} (h3:¬ bZ (a:Int) (b:Int) ≥ 0):a<=b:=by
 unfold bZ at h3
 rcases Ac b a with h|h
 ·rw[jd (by omega),jl (by omega)] at h3;omega
 ·exact h
theorem sgM (x y:Int):sg (decide (x<0) != decide (y<0)) (x.natAbs*y.natAbs)=x*y:=by
 have e:x*y=sg (decide (x<0)) x.natAbs*sg (decide (y<0)) y.natAbs:=by rw[sgf,sgf]
 rw[e]
 cases decide (x<0)<;>cases decide (y<0)<;>simp[sg,Int.neg_mul,Int.mul_neg]
abbrev tG:Ty:=.lf .gsl
abbrev LN:Type:=List Nat
theorem pW {F:Nat->Prop} {w:World} {v:Value} {x:List Nat} (h:iV F w tG v x):Rd w v x:=by
 obtain⟨cs,rfl,s,rfl,h2⟩:=h
 exact h2
theorem GV {F:Nat->Prop} {w:World} {v:Value} {x:List Nat} (h:Rd w v x):iV F w tG v x:=⟨[v],rfl,v,rfl,h⟩
theorem ZG.rd {l:List Nat} {w w':World} {e:Ending} (h:ZG l w e w'):GRd l w e w':=by
 obtain⟨v,h1,h2,h3⟩:=h
 exact⟨v,h1,Rd.dH h2,h3⟩
def cGG (pre:LN->LN->Prop) [hd:∀ x y,Dc (pre x y)] (g:LN->LN->LN):Ctr:={ args:=[tG,tG],res:=[tG],pre:=fun x=>pre x.1 x.2.1,fn:=fun x=>(g x.1 x.2.1,()),dec:=fun x=>hd x.1 x.2.1 }
theorem a1G {f:FuncId} {pre:LN->LN->Prop} [∀ x y,Dc (pre x y)] {g:LN->LN->LN} (h:∀ (s t:Value) (a b:LN) (w:World),Rd w s a->Rd w t b->pre a b->Calls Tryz.prog f #[s,t] w (ZG (g a b) w)):aI Tryz.prog f (cGG pre g):=by
 intro F w vs x hF hvs hp
 obtain⟨v,vs',rfl,h1,u,vs'',rfl,h2,h3⟩:=hvs
 have h3:vs''=[]:=h3
 subst h3
 refine(h v u x.1 x.2.1 w (pW h1) (pW h2) hp).mono ?_
 intro e w' h
 obtain⟨r,rfl,hr,hb⟩:=h.rd
 exact⟨r,rfl,GV hr,hb⟩
noncomputable def cZG:Ctr:=⟨[tZ],[tG],fun _=>True,fun x=>(dig (Int.natAbs x.1),())⟩
theorem mG:aI Tryz.prog 192 cZG:=by
 intro F w vs x hF hvs hp
 obtain⟨v,vs',rfl,h1,h3⟩:=hvs
 have h3:vs'=[]:=h3
 subst h3
 refine(vU v x.1 w (TD h1).raw).mono ?_
 rintro e w' ⟨r,rfl,hr,hb⟩
 exact⟨r,rfl,GV hr,hb⟩
noncomputable def c1E:Ctr:=⟨[tB,tG],[tZ],fun x=>Low x.2.1,fun x=>(sg x.1 (val x.2.1),())⟩
theorem yL:aI Tryz.prog 190 c1E:=by
 intro F w vs x hF hvs hp
 obtain⟨v,vs',rfl,h1,u,vs'',rfl,h2,h3⟩:=hvs
 have h3:vs''=[]:=h3
 subst h3
 rw[a1E h1]
 refine(FC x.1 u x.2.1 w (pW h2) hp).mono ?_
 rintro e w' ⟨r,rfl,hr,hb⟩
 exact⟨r,rfl,VT hr,hb⟩
noncomputable def c1w:Ctr:=⟨[tG,tG],[tG,tG],fun x=>Canon x.1/\Canon x.2.1/\(show LN from x.1).length<=1000000000/\(show LN from x.2.1)≠[],fun x=>(dig (val x.1 / val x.2.1),dig (val x.1%val x.2.1),())⟩
theorem a0W:aI Tryz.prog 251 c1w:=by
 intro F w vs x hF hvs hp
 obtain⟨v,vs',rfl,h1,u,vs'',rfl,h2,h3⟩:=hvs
 have h3:vs''=[]:=h3
 subst h3
 refine(a0V v u x.1 x.2.1 w (pW h1) (pW h2) hp.1 hp.2.1 hp.2.2.1 hp.2.2.2).mono ?_
 rintro e w' ⟨r,s,rfl,hr,hs,hb⟩
 exact⟨_,rfl,⟨[_,_],rfl,_,_,rfl,GV hr,_,_,rfl,GV hs,rfl⟩,hb⟩
noncomputable def c1m:Ctr:=⟨[tG,tG],[tI],fun x=>Canon x.1/\Canon x.2.1,fun x=>(bZ (val x.1) (val x.2.1),())⟩
theorem ZO:aI Tryz.prog 254 c1m:=by
 intro F w vs x hF hvs hp
 obtain⟨v,vs',rfl,h1,u,vs'',rfl,h2,h3⟩:=hvs
 have h3:vs''=[]:=h3
 subst h3
 refine(kE v u x.1 x.2.1 w (pW h1) (pW h2) hp.1 hp.2).mono ?_
 rintro e w' ⟨rfl,hb⟩
 exact⟨_,rfl,RU _,hb⟩
noncomputable def c1l:Ctr:=⟨[tG],[tG],fun x=>(show LN from x.1).length<=1000000000,fun x=>(x.1,())⟩
theorem IG:aI Tryz.prog 191 c1l:=by
 intro F w vs x hF hvs hp
 obtain⟨v,vs',rfl,h1,h3⟩:=hvs
 have h3:vs'=[]:=h3
 subst h3
 refine(clone_any v x.1 w (pW h1) hp).mono ?_
 intro e w' h
 obtain⟨r,rfl,hr,hb⟩:=h.rd
 exact⟨r,rfl,GV hr,hb⟩
abbrev tU:Ty:=.int .u64
noncomputable def c1P:Ctr:=⟨[tU],[tG],fun x=>0<=(show Int from x.1)/\(show Int from x.1)<18446744073709551616,fun x=>(dig x.1.toNat,())⟩
theorem a6o:aI Tryz.prog 247 c1P:=by
 intro F w vs x hF hvs hp
 obtain⟨v,vs',rfl,h1,h3⟩:=hvs
 have h3:vs'=[]:=h3
 subst h3
 rw[a0x h1]
 have hq:(show Int from x.1)<18446744073709551616:=hp.2
 have hq2:(0:Int)<=(show Int from x.1):=hp.1
 have:=qZ x.1.toNat w ((Int.toNat_lt hq2).2 hq)
 rw[Int.toNat_of_nonneg hp.1] at this
 refine this.mono ?_
 intro e w' h
 obtain⟨r,rfl,hr,hb⟩:=ZG.rd h
 exact⟨r,rfl,GV hr,hb⟩
noncomputable def b4u:Ctr:=⟨[tG],[tU,tB],fun x=>Low x.1,fun x=>if (show LN from x.1).length<=2 then ((val x.1:Int),true,()) else ((0:Int),false,())⟩
theorem b0Q:aI Tryz.prog 265 b4u:=by
 intro F w vs x hF hvs hp
 obtain⟨v,vs',rfl,h1,h3⟩:=hvs
 have h3:vs'=[]:=h3
 subst h3
 by_cases h:(show LN from x.1).length<=2
 ·refine(zH v x.1 w (pW h1) hp h).mono ?_
  rintro e w' ⟨rfl,hb⟩
  refine⟨_,rfl,?_,hb⟩
  rw[show b4u.fn x=((val x.1:Int),true,()) from jl h]
  exact⟨[_,_],rfl,_,_,rfl,RU _,_,_,rfl,YV _,rfl⟩
 ·refine(ND v x.1 w (pW h1) (Nat.lt_of_not_le h)).mono ?_
  rintro e w' ⟨rfl,hb⟩
  refine⟨_,rfl,?_,hb⟩
  rw[show b4u.fn x=((0:Int),false,()) from jd h]
  exact⟨[_,_],rfl,_,_,rfl,RU _,_,_,rfl,YV _,rfl⟩
theorem c0X:aI Tryz.prog 249 (cGG (fun a b=>Low a/\Low b/\a.length<=1000000000/\b.length<=1000000000) (fun a b=>dig (val a*val b))):=(a1G fun s t a b w hs ht h=>times_any s t a b w hs ht h.1 h.2.1 h.2.2.1 h.2.2.2)
theorem b4k:aI Tryz.prog 253 (cGG (fun a b=>Low a/\Low b/\a.length<=1000000000/\b.length<=1000000000) (fun a b=>dig (val a+val b))):=(a1G fun s t a b w hs ht h=>a0X s t a b w hs ht h.1 h.2.1 h.2.2.1 h.2.2.2)
theorem b4l:aI Tryz.prog 272 (cGG (fun a b=>Low a/\Low b/\a.length<=1000000000/\b.length<=a.length/\val b<=val a) (fun a b=>dig (val a-val b))):=(a1G fun s t a b w hs ht h=>a5L s t a b w hs ht h.1 h.2.1 h.2.2.1 h.2.2.2.1 h.2.2.2.2)
theorem yE:aI Tryz.prog 97 (cZ1 fun x=>-x):=by
 refine aO (((nil0.ad mG).ad yL).ad IG) ⟨[2],[],[]⟩ Tryz.func97 rfl (by decide) (fun x=>[]) (fun x hp=>?_)
 obtain⟨x,u⟩:=x
 change Int at x
 refine aY ((True/\List.length (dig (Int.natAbs x))<=1000000000/\Low (dig (Int.natAbs x))/\True)/\True/\sg (!decide (x<0)) (val (dig (Int.natAbs x)))=-x/\True) (by kernel_rfl) ?_
 have hZ:(⟨false,0,[],[]⟩:aH)=bF:=rfl
 try simp only[aF,ak,ah]
 try dsimp only[aB,asT,aA,aG,Ty.den,Lf.den] at *
 try simp only[hZ,Int.toNat_natCast,aF,ak,ah,jo,jm,iq,dh]
 try simp only[cZ,cO,List.all_cons,List.all_nil,jr,gy,iw,jf,ni,ne_eq,au,bg,eu,ig,jh,qh,jy,ql,jo,jm,je,dn,List.length_cons,List.length_nil]
 have hp:isz x<=1000000000:=hp
 refine⟨⟨hp,bK _⟩,?_⟩
 rw[bG]
 unfold sg
 by_cases h:x<0<;>simp[h]<;>omega
theorem pY:aI Tryz.prog 179 (cZI Int.sign):=by
 refine aO (nil0.ad mG) ⟨[],[],[]⟩ Tryz.func179 rfl (by decide) (fun x=>[]) (fun x hp=>?_)
 obtain⟨x,u⟩:=x
 change Int at x
 refine aY ((True/\True)/\ifB (aB (dig (Int.natAbs x)).length==0) (True/\0=Int.sign x/\True) (ifB (decide (x<0)) (True/\-1=Int.sign x/\True) (True/\1=Int.sign x/\True))) (by kernel_rfl) ?_
 have hZ:(⟨false,0,[],[]⟩:aH)=bF:=rfl
 try simp only[aF,ak,ah]
 try dsimp only[aB,asT,aA,aG,Ty.den,Lf.den] at *
 try simp only[hZ,Int.toNat_natCast,aF,ak,ah,jo,jm,iq,dh]
 try simp only[cZ,cO,List.all_cons,List.all_nil,jr,gy,iw,jf,ni,ne_eq,au,bg,eu,ig,jh,qh,jy,ql,jo,jm,je,dn,List.length_cons,List.length_nil]
 rw[ZT]
 refine⟨fun h=>?_,fun h=>⟨fun h1=>(um h1).symm,fun h1=>?_⟩⟩
 ·rw[show x=0 by have:=vw h;omega];rfl
 ·have:=vk h
  exact(vg (by omega)).symm
theorem uU:aI Tryz.prog 177 (cZ2 fun x y=>x*y):=by
 refine aO (((nil0.ad mG).ad yL).ad c0X) ⟨[4],[],[]⟩ Tryz.func177 rfl (by decide) (fun x=>[]) (fun x hp=>?_)
 obtain⟨x,y,u⟩:=x
 change Int at x
 change Int at y
 refine aY ((True/\True/\(Low (dig (Int.natAbs x))/\Low (dig (Int.natAbs y))/\List.length (dig (Int.natAbs x))<=1000000000/\List.length (dig (Int.natAbs y))<=1000000000)/\Low (dig (val (dig (Int.natAbs x))*val (dig (Int.natAbs y))))/\True)/\True/\sg (decide (x<0) != decide (y<0)) (val (dig (val (dig (Int.natAbs x))*val (dig (Int.natAbs y)))))=x*y/\True) (by kernel_rfl) ?_
 have hZ:(⟨false,0,[],[]⟩:aH)=bF:=rfl
 try simp only[aF,ak,ah]
 try dsimp only[aB,asT,aA,aG,Ty.den,Lf.den] at *
 try simp only[hZ,Int.toNat_natCast,aF,ak,ah,jo,jm,iq,dh]
 try simp only[cZ,cO,List.all_cons,List.all_nil,jr,gy,iw,jf,ni,ne_eq,au,bg,eu,ig,jh,qh,jy,ql,jo,jm,je,dn,List.length_cons,List.length_nil]
 obtain⟨l1,l2⟩:isz x<=1000000000/\isz y<=1000000000:=hp
 simp only[bG]
 exact⟨⟨⟨bK _,bK _,l1,l2⟩,bK _⟩,sgM x y⟩
noncomputable def c1Q:Ctr:=⟨[tB,tG,tB,tG],[tZ],fun x=>Canon x.2.1/\Canon x.2.2.2.1/\(show LN from x.2.1).length<=1000000000/\(show LN from x.2.2.2.1).length<=1000000000,fun x=>(sg x.1 (val x.2.1)+sg x.2.2.1 (val x.2.2.2.1),())⟩
theorem a8h:aI Tryz.prog 248 c1Q:=by
 refine aO ((((nil0.ad yL).ad b4k).ad b4l).ad ZO) ⟨[8],[],[]⟩ Tryz.func248 rfl (by decide) (fun x=>[]) (fun x hp=>?_)
 obtain⟨n,a,m,b,u⟩:=x
 change Bool at n
 change List Nat at a
 change Bool at m
 change List Nat at b
 refine aY (ifB (n==m) (((Low a/\Low b/\List.length a<=1000000000/\List.length b<=1000000000)/\Low (dig (val a+val b))/\True)/\True/\sg n (val (dig (val a+val b)))=sg n (val a)+sg m (val b)/\True) (((Canon a/\Canon b)/\True)/\ifB (decide (bZ (aB (val a)) (aB (val b)) ≥ 0)) (((Low a/\Low b/\List.length a<=1000000000/\List.length b<=List.length a/\val b<=val a)/\Low (dig (val a-val b))/\True)/\True/\sg n (val (dig (val a-val b)))=sg n (val a)+sg m (val b)/\True) (((Low b/\Low a/\List.length b<=1000000000/\List.length a<=List.length b/\val a<=val b)/\Low (dig (val b-val a))/\True)/\True/\sg m (val (dig (val b-val a)))=sg n (val a)+sg m (val b)/\True))) (by kernel_rfl) ?_
 have hZ:(⟨false,0,[],[]⟩:aH)=bF:=rfl
 try simp only[aF,ak,ah]
 try dsimp only[aB,asT,aA,aG,Ty.den,Lf.den] at *
 try simp only[hZ,Int.toNat_natCast,aF,ak,ah,jo,jm,iq,dh]
 try simp only[cZ,cO,List.all_cons,List.all_nil,jr,gy,iw,jf,ni,ne_eq,au,bg,eu,ig,jh,qh,jy,ql,jo,jm,je,dn,List.length_cons,List.length_nil]
 obtain⟨h1,h2,l1,l2⟩:Canon a/\Canon b/\a.length<=1000000000/\b.length<=1000000000:=hp
 have c1:(dig (val a)).length=a.length:=by rw[dJ h1]
 have c2:(dig (val b)).length=b.length:=by rw[dJ h2]
 simp only[bG]
 refine⟨fun h=>⟨⟨⟨h1.1,h2.1,l1,l2⟩,bK _⟩,c0N h⟩,fun h=>⟨⟨h1,h2⟩,fun h3=>?_,fun h3=>?_⟩⟩
 ·have h4:=a3k h3
  have:=aP h4
  exact⟨⟨⟨h1.1,h2.1,l1,by omega,h4⟩,bK _⟩,c0O h h4⟩
 ·have h4:=a3l h3
  have:=aP h4
  exact⟨⟨⟨h2.1,h1.1,l2,by omega,h4⟩,bK _⟩,c0P h h4⟩
theorem a0v:aI Tryz.prog 176 (cZ2 fun x y=>x+y):=by
 refine aO ((nil0.ad mG).ad a8h) ⟨[4],[],[]⟩ Tryz.func176 rfl (by decide) (fun x=>[]) (fun x hp=>?_)
 obtain⟨x,y,u⟩:=x
 change Int at x
 change Int at y
 refine aY ((True/\True/\(Canon (dig (Int.natAbs x))/\Canon (dig (Int.natAbs y))/\List.length (dig (Int.natAbs x))<=1000000000/\List.length (dig (Int.natAbs y))<=1000000000)/\True)/\True/\sg (decide (x<0)) (val (dig (Int.natAbs x)))+sg (decide (y<0)) (val (dig (Int.natAbs y)))=x+y/\True) (by kernel_rfl) ?_
 have hZ:(⟨false,0,[],[]⟩:aH)=bF:=rfl
 try simp only[aF,ak,ah]
 try dsimp only[aB,asT,aA,aG,Ty.den,Lf.den] at *
 try simp only[hZ,Int.toNat_natCast,aF,ak,ah,jo,jm,iq,dh]
 try simp only[cZ,cO,List.all_cons,List.all_nil,jr,gy,iw,jf,ni,ne_eq,au,bg,eu,ig,jh,qh,jy,ql,jo,jm,je,dn,List.length_cons,List.length_nil]
 obtain⟨l1,l2⟩:isz x<=1000000000/\isz y<=1000000000:=hp
 simp only[bG,sgf]
 exact⟨⟨dA _,dA _,l1,l2⟩,trivial⟩
theorem OY:aI Tryz.prog 229 cDiv:=by
 refine aO ((((((nil0.ad mG).ad yL).ad b4k).ad b4l).ad a0W).ad IG) ⟨[4,5],[],[]⟩ Tryz.func229 rfl (by decide) (fun x=>[]) (fun x hp=>?_)
 obtain⟨x,y,u⟩:=x
 change Int at x
 change Int at y
 refine aY (let A₀:=(dig (val (dig (Int.natAbs x))%val (dig (Int.natAbs y))));let A₂:=(dig (val (dig (Int.natAbs x)) / val (dig (Int.natAbs y))));let aW:=(List.map Int.toNat (1::aG Int));let bW:=(aB A₀.length > 0);let A₁:=(decide bW==true);let eU:=(dig (val (dig (Int.natAbs y))-val A₀));let gY:=(decide (x<0) != decide (y<0));let dG:=(A₁=true->A₁=true/\True);(True/\True/\True)/\ifB (aB (dig (Int.natAbs y)).length==0) (True/\0=Int.fdiv x y/\True/\0=Int.fmod x y/\True/\asT Int 14=0/\True) (((Canon (dig (Int.natAbs x))/\Canon (dig (Int.natAbs y))/\List.length (dig (Int.natAbs x))<=1000000000/\dig (Int.natAbs y)≠aG Nat)/\True)/\(List.length A₀<=1000000000/\True)/\(dG/\dG/\(A₁=true->A₁=true/\A₁=true/\True)/\(decide bW=true->A₁=true)/\True)/\ifB (bif decide bW then decide (x<0) != decide (y<0) else false) ((List.length (1::aG Int)≠0/\(asT Int 0<=1/\True)/\(Low A₂/\Low aW/\List.length A₂<=1000000000/\List.length aW<=1000000000)/\(Low (dig (Int.natAbs y))/\Low A₀/\List.length (dig (Int.natAbs y))<=1000000000/\List.length A₀<=List.length (dig (Int.natAbs y))/\val A₀<=val (dig (Int.natAbs y)))/\True)/\(Low (dig (val A₂+val aW))/\Low eU/\True)/\True/\sg gY (val (dig (val A₂+val aW)))=Int.fdiv x y/\True/\sg (decide (y<0)) (val eU)=Int.fmod x y/\True/\asT Int 0=0/\True) ((Low A₂/\Low A₀/\True)/\True/\sg gY (val A₂)=Int.fdiv x y/\True/\sg (decide (y<0)) (val A₀)=Int.fmod x y/\True/\asT Int 0=0/\True))) (by kernel_rfl) ?_
 have hZ:(⟨false,0,[],[]⟩:aH)=bF:=rfl
 try simp only[aF,ak,ah]
 try dsimp only[aB,asT,aA,aG,Ty.den,Lf.den] at *
 try simp only[hZ,Int.toNat_natCast,aF,ak,ah,jo,jm,iq,dh]
 try simp only[cZ,cO,List.all_cons,List.all_nil,jr,gy,iw,jf,ni,ne_eq,au,bg,eu,ig,jh,qh,jy,ql,jo,jm,je,dn,List.length_cons,List.length_nil]
 obtain⟨l1,l2,hy⟩:isz x<=1000000000/\isz y<=1000000000/\y≠0:=hp
 have n0:0<y.natAbs:=by omega
 have hm:=Aq x.natAbs n0
 simp only[bG,a7m,ZT,ak,beq_true]
 have lm:(dig (x.natAbs%y.natAbs)).length<=(dig y.natAbs).length:=aP (by omega)
 have lq:(dig (x.natAbs / y.natAbs)).length<=(dig x.natAbs).length:=aP (Nat.div_le_self _ _)
 have l1':(dig x.natAbs).length<=1000000000:=l1
 have l2':(dig y.natAbs).length<=1000000000:=l2
 refine⟨fun h=>absurd h (by omega),fun _=>⟨⟨dA _,dA _,l1,fun e=>by have:=iE.1 e;omega⟩,by omega,?_,fun h=>?_,fun h=>?_⟩⟩
 ·exact⟨fun h=>h,fun h=>h,fun h=>⟨h,h⟩,fun h=>vw (by rw[<-a7m];exact xk h)⟩
 ·have hr:x.natAbs%y.natAbs≠0:=fun e=>by rw[e] at h;simp at h
  rw[xk hr] at h
  have h:(decide (x<0) != decide (y<0))=true:=h
  obtain⟨a,b⟩:=TN (decide (x<0)) (decide (y<0)) x.natAbs y.natAbs n0 h hr
  rw[sgf,sgf] at a b
  rw[h]
  refine⟨⟨by decide,by omega,⟨bK _,fun g hg=>by rw[tq.1 hg];decide,by omega,by decide⟩,bK _,bK _,l2,lm,by omega⟩,⟨bK _,bK _⟩,?_,b.symm⟩
  exact a.symm
 ·refine⟨⟨bK _,bK _⟩,?_⟩
  cases hs:decide (x<0) != decide (y<0)
  ·have hs:decide (x<0)=decide (y<0):=by simpa using hs
   obtain⟨a,b⟩:=TP (decide (y<0)) x.natAbs y.natAbs n0
   rw[sgf,<-hs,sgf] at a b
   rw[<-hs]
   exact⟨a.symm,b.symm⟩
  ·have hr:x.natAbs%y.natAbs=0:=Decidable.byContradiction fun e=>by rw[xk e,hs] at h;cases h
   obtain⟨a,b⟩:=OE (decide (x<0)) (decide (y<0)) x.natAbs y.natAbs n0 hs hr
   rw[sgf,sgf] at a b
   rw[hr,YN]
   exact⟨a.symm,b.symm⟩
theorem b4i {l:List Nat} (h:Canon l) (h2:l.length<=2):val l<18446744073709551616:=by
 have h1:=kQ h.1
 have:BB ^ l.length<=BB ^ 2:=wu fP h2
 have:BB ^ 2=1000000000000000000:=by rw[bH]
 omega
abbrev GcO (x y:Int):={p:List Nat × List Nat // Canon p.1/\Canon p.2/\(isz x<=1000000000/\isz y<=1000000000->p.1.length<=1000000000/\p.2.length<=1000000000)/\Nat.gcd (val p.1) (val p.2)=Int.gcd x y}
abbrev GcI (x y:Int) (p:GcO x y):={q:Nat × Nat // (p.1.1.length<=2/\p.1.2.length<=2->q.1<18446744073709551616/\q.2<18446744073709551616)/\Nat.gcd q.1 q.2=Int.gcd x y}
noncomputable def c1n:Ctr:=⟨[tI,tI],[tI],fun _=>True,fun x=>(bZ x.1 x.2.1,())⟩
theorem a7c:aI Tryz.prog 255 c1n:=by
 intro F w vs x hF hvs hp
 obtain⟨v,vs',rfl,h1,u,vs'',rfl,h2,h3⟩:=hvs
 have h3:vs''=[]:=h3
 subst h3
 rw[a0x h1,a0x h2]
 refine(NV x.1 x.2.1 w).mono ?_
 rintro e w' ⟨rfl,rfl⟩
 exact⟨_,rfl,RU _,ji _ _⟩
theorem OX:aI Tryz.prog 182 (b9F bZ):=by
 refine aO ((((nil0.ad mG).ad ZO).ad pY).ad a7c) ⟨[],[],[]⟩ Tryz.func182 rfl (by decide) (fun x=>[]) (fun x hp=>?_)
 obtain⟨x,y,u⟩:=x
 change Int at x
 change Int at y
 refine aY ((True/\True/\True)/\ifB (Int.sign x != Int.sign y) ((True/\True)/\True/\bZ (Int.sign x) (Int.sign y)=bZ x y/\True) ((True/\True/\(Canon (dig (Int.natAbs x))/\Canon (dig (Int.natAbs y)))/\True)/\ifB (decide (x<0)) (True/\IntKind.wrap IntKind.i64 (0-bZ (aB (val (dig (Int.natAbs x)))) (aB (val (dig (Int.natAbs y)))))=bZ x y/\True) (True/\bZ (aB (val (dig (Int.natAbs x)))) (aB (val (dig (Int.natAbs y))))=bZ x y/\True))) (by kernel_rfl) ?_
 have hZ:(⟨false,0,[],[]⟩:aH)=bF:=rfl
 try simp only[aF,ak,ah]
 try dsimp only[aB,asT,aA,aG,Ty.den,Lf.den] at *
 try simp only[hZ,Int.toNat_natCast,aF,ak,ah,jo,jm,iq,dh]
 try simp only[cZ,cO,List.all_cons,List.all_nil,jr,gy,iw,jf,ni,ne_eq,au,bg,eu,ig,jh,qh,jy,ql,jo,jm,je,dn,List.length_cons,List.length_nil]
 simp only[bG]
 refine⟨fun h=>a5g (by simpa using h),fun h=>?_⟩
 have hs:x.sign=y.sign:=by simpa using h
 have ha:=a7b hs (decide (x<0)) (fun _=>rfl)
 have hb:=b1e (x.natAbs:Nat) (y.natAbs:Nat)
 refine⟨⟨dA _,dA _⟩,fun h1=>?_,fun h1=>?_⟩
 ·rw[jl (xk h1)] at ha
  rw[IntKind.wrap_i64,<-ha];omega
 ·rw[qo h1] at ha
  exact ha
theorem EP:aI Tryz.prog 213 (cZ2 fun x y=>((Int.gcd x y:Nat):Int)):=by
 refine aO ((((((nil0.ad mG).ad yL).ad a0W).ad IG).ad a6o).ad b0Q) ⟨[4],[],[]⟩ Tryz.func213 rfl (by decide) (fun x=>[.inv (GcO x.1 x.2.1) (fun p=>[(5,.val tG p.1.1),(6,.val tG p.1.2)]) (fun p=>[(4,.box [⟨tZ,(0:Int)⟩])]) (fun p=>val p.1.2) ⟨(dig (Int.natAbs x.1),dig (Int.natAbs x.2.1)),dA _,dA _,fun h=>h,by rw[bG,bG];rfl⟩ (fun p=>[
  .inv (GcI x.1 x.2.1 p) (fun q=>[(7,.val tU (q.1.1:Int)),(9,.val tU (q.1.2:Int))]) (fun q=>[(4,.box [⟨tZ,(0:Int)⟩])]) (fun q=>q.1.2) ⟨(val p.1.1,val p.1.2),fun h=>⟨b4i p.2.1 h.1,b4i p.2.2.1 h.2⟩,p.2.2.2.2⟩ (fun _=>[])])]) (fun x hp=>?_)
 obtain⟨x,y,u⟩:=x
 change Int at x
 change Int at y
 refine aY ((True/\True/\True)/\(dig (Int.natAbs x)=dig (Int.natAbs x)/\dig (Int.natAbs y)=dig (Int.natAbs y)/\asT Int 0=0/\True)/\∀ (i:GcO x y),let A₁:=(if List.length (aA i).2<=2 then (aB (val (aA i).2),true,()) else (0,false,()));let A₂:=(val (aA i).1);let A₀:=(if List.length (aA i).1<=2 then (aB A₂,true,()) else (0,false,()));asT Bool true=true/\ifB (decide (aB (aA i).2.length > 0)) ((Low (aA i).1/\True)/\(Low (aA i).2/\True)/\((Prod.fst A₀.2=true->(Prod.fst A₀.2==true)=true)/\True)/\ifB (bif Prod.fst A₀.2 then Prod.fst A₁.2 else false) ((Prod.fst A₀=aB A₂/\Prod.fst A₁=aB (val (aA i).2)/\asT Int 0=0/\True)/\∀ (i_1:GcI x y i),let aW:=(aB (aA i_1).1);asT Bool true=true/\ifB (decide (aB (aA i_1).2 > 0)) ((aB (aA i_1).2≠0/\True)/\∃ (i':GcI x y i),Prod.snd (aA i')<Prod.snd (aA i_1)/\aB (aA i_1).2=aB (aA i').1/\Int.tmod aW (aB (aA i_1).2)=aB (aA i').2/\asT Int 0=0/\True) (((0<=aB (aA i_1).1/\aB (aA i_1).1<18446744073709551616)/\Low (dig aW.toNat)/\True)/\True/\sg false (val (dig aW.toNat))=aB (Int.gcd x y)/\True)) (((Canon (aA i).1/\Canon (aA i).2/\List.length (aA i).1<=1000000000/\Prod.snd (aA i)≠aG Nat)/\True)/\∃ (i':GcO x y),val (aA i').2<val (aA i).2/\Prod.snd (aA i)=Prod.fst (aA i')/\dig (val (aA i).1%val (aA i).2)=Prod.snd (aA i')/\asT Int 0=0/\True)) ((List.length (aA i).1<=1000000000/\Low (aA i).1/\True)/\True/\sg false A₂=aB (Int.gcd x y)/\True)) (by kernel_rfl) ?_
 have hZ:(⟨false,0,[],[]⟩:aH)=bF:=rfl
 try simp only[aF,ak,ah]
 try dsimp only[aB,asT,aA,aG,Ty.den,Lf.den] at *
 try simp only[hZ,Int.toNat_natCast,aF,ak,ah,jo,jm,iq,dh]
 try simp only[cZ,cO,List.all_cons,List.all_nil,jr,gy,iw,jf,ni,ne_eq,au,bg,eu,ig,jh,qh,jy,ql,jo,jm,je,dn,List.length_cons,List.length_nil]
 have hp:isz x<=1000000000/\isz y<=1000000000:=hp
 rintro⟨⟨a,b⟩,c1,c2,hl,hg⟩
 obtain⟨la,lb⟩:=hl hp
 have c1:Canon a:=c1
 have c2:Canon b:=c2
 have hg:Nat.gcd (val a) (val b)=Int.gcd x y:=hg
 have la:a.length<=1000000000:=la
 have lb:b.length<=1000000000:=lb
 simp only
 refine⟨fun h=>⟨c1.1,c2.1,?_,fun h2=>?_,fun h2=>?_⟩,fun h=>⟨⟨la,c1.1⟩,?_⟩⟩
 ·intro h;rw[h];rfl
 ·have s1:a.length<=2:=Decidable.byContradiction fun e=>by rw[jd e] at h2;cases h2
  have s2:b.length<=2:=Decidable.byContradiction fun e=>by rw[jl s1,jd e] at h2;cases h2
  rw[jl s1,jl s2]
  refine⟨⟨rfl,rfl⟩,?_⟩
  rintro⟨⟨m,n⟩,hb,hg2⟩
  have hb:m<18446744073709551616/\n<18446744073709551616:=hb ⟨s1,s2⟩
  have hg2:Nat.gcd m n=Int.gcd x y:=hg2
  simp only
  refine⟨fun h3=>⟨by omega,⟨(n,m%n),fun _=>⟨hb.2,Nat.lt_of_le_of_lt (Nat.mod_le _ _) hb.1⟩,?_⟩,Aq _ (by omega),rfl,rfl⟩,fun h3=>⟨⟨by omega,bK _⟩,?_⟩⟩
  ·show Nat.gcd n (m%n)=_
   rw[<-hg2,Nat.gcd_comm m n,Nat.gcd_rec n m,Nat.gcd_comm]
  ·rw[bG,<-hg2,show n=0 by omega,Nat.gcd_zero_right];rfl
 ·have hb0:b≠[]:=fun e=>by rw[e] at h;exact absurd h (by decide)
  have hv:0<val b:=Nat.pos_of_ne_zero fun e=>hb0 (by rw[<-dJ c2,e];exact iE.2 rfl)
  have hlt:=Aq (val a) hv
  refine⟨⟨c1,c2,la,hb0⟩,⟨(b,dig (val a%val b)),c2,dA _,fun _=>⟨lb,?_⟩,?_⟩,?_,rfl,rfl⟩
  ·have:=aP (show val a%val b<=val b by omega)
   rw[dJ c2] at this
   exact jc this lb
  ·show Nat.gcd (val b) (val (dig (val a%val b)))=_
   rw[bG,<-hg,Nat.gcd_comm (val a),Nat.gcd_rec (val b) (val a),Nat.gcd_comm]
  ·show val (dig (val a%val b))<val b
   rw[bG];exact hlt
 ·have:b=[]:=qj (by omega)
  rw[<-hg,this]
  show _=((Nat.gcd (val a) 0:Nat):Int)
  rw[Nat.gcd_zero_right];rfl
set_option maxHeartbeats 4000000
def KT (x y:Rat):Int:=if x<y then -1 else if y<x then 1 else 0
theorem b1f (x y:Rat):bZ (x.num*y.den) (y.num*x.den)=KT x y:=by
 unfold bZ KT
 simp only[a2p]
set_option maxHeartbeats 1000000
theorem c0w:isz 1=1:=by decide +kernel
theorem a8j {x:Int} (h:dU x):isz x<=3:=yG (by obtain⟨a,b⟩:=h;rw[bH];omega)
theorem b1p (q:Rat):(0:Int)<(q.den:Int):=kM q
theorem EC (q:Rat):((q.den:Nat):Int)≠0:=by have:=kM q;omega
theorem a2f (q:Rat):Rat.divInt q.num (q.den:Int)=q:=Rat.num_divInt_den q
theorem a9k (q:Rat):Rat.divInt (-q.num) (q.den:Int)=-q:=by
 have:=a2f (-q)
 rwa [yQ,yP] at this
theorem sz8 {q:Rat} {K:Nat} (h:rsz q<=K):isz q.num<=K/\isz (q.den:Int)<=K:=⟨jc (lC q) h,jc (jY q) h⟩
theorem KY {x y:Int} {K L:Nat} (hx:isz x<=K) (hy:isz y<=L):isz (x*y)<=K+L:=by have:=fG x y;omega
theorem b8M {x:Int}:(x.sign==0)=decide (x=0):=by
 by_cases h:x=0
 ·subst h;rfl
 ·rw[qo h];exact eu.mpr fun e=>h (Ef.1 e)
theorem b9I (n:Nat):(bZ (n:Int) 1==0)=decide (n=1):=by
 unfold bZ
 rcases Nat.lt_trichotomy n 1 with h|h|h
 ·rw[jl (by omega),qo (by omega)];rfl
 ·rw[jd (by omega),jd (by omega),xk h];rfl
 ·rw[jd (by omega),jl (by omega),qo (by omega)];rfl
theorem rd8 {x y a b:Int} (h:a=(Rat.divInt x y).num/\b=((Rat.divInt x y).den:Int)):0<b/\Int.gcd a b=1/\Rat.divInt a b=Rat.divInt x y:=by
 rw[h.1,h.2]
 exact⟨b1p _,FQ _,a2f _⟩
abbrev tV:Ty:=.lf .CZ
def cIV:Ctr:=⟨[tV],[tB],fun x=>True,fun x=>((show gG from x.1).ok,())⟩
theorem a6M {f:FuncId} (h:∀ (v:Value) (ok:Bool) (x:Int) (w:World),kC w v ok x->Calls Tryz.prog f #[v] w (fun e w'=>e=.returned (.bool ok)/\Below w.heap.size w w')):aI Tryz.prog f cIV:=by
 intro F w vs x hF hvs hp
 obtain⟨v,vs',rfl,h1,h3⟩:=hvs
 have h3:vs'=[]:=h3
 subst h3
 obtain⟨cs,rfl,b,p,c,rfl,h2,_⟩:=h1
 refine(h _ _ _ w h2).mono ?_
 rintro e w' ⟨rfl,hb⟩
 exact⟨_,rfl,YV _,hb⟩
theorem VZ:aI Tryz.prog 175 cIZ:=(a1H fun x w h0 h1=>a9m x w h0 h1)
theorem b4m:aI Tryz.prog 212 cIV:=(a6M fun v ok x w h=>a2R v ok x w h)
abbrev tP:Ty:=.pair tV (.pair tV .unit)
def a1t (x y:gG):Bool:=x.ok&&(y.ok&&(decide (0<y.x)&&decide (Int.gcd x.x y.x=1)))
def b4t (K:Nat):Ctr:=⟨[tP],[tB],fun x=>isz (show gG from x.1.1).x<=K/\isz (show gG from x.1.2.1).x<=K,fun x=>(a1t x.1.1 x.1.2.1,())⟩
theorem b3l:aI Tryz.prog 126 (b4t 1000000000):=by
 refine aO (((((nil0.ad VZ).ad EP).ad pY).ad OX).ad b4m) ⟨[],[],[]⟩ Tryz.func126 rfl (by decide) (fun x=>[]) (fun x hp=>?_)
 obtain⟨x,u⟩:=x
 change gG × gG × Unit at x
 refine aY (let A₁:=(asT gG x.1);let A₂:=(asT gG x.2.1);let A₀:=(bif !gG.ok A₁ then true else !gG.ok A₂);let aW:=((!gG.ok A₁)==false);let bW:=((A₀==false)=true->(A₀==false)=true/\True);let eU:=(aW=true->aW=true/\True);(True/\eU/\(aW=true->aW=true/\True/\True)/\eU/\((!gG.ok A₁)=false->aW=true)/\bW/\((A₀==false)=true->(A₀==false)=true/\gG.ok A₂=true/\True/\True)/\bW/\(A₀=false->(A₀==false)=true)/\True)/\ifB (bif bif !gG.ok A₁ then true else !gG.ok A₂ then true else decide (Int.sign (gG.x A₂)<=0)) (True/\false=a1t A₁ A₂/\True) ((gG.ok A₁=true/\gG.ok A₂=true/\(isz (gG.x A₁)<=1000000000/\isz (gG.x A₂)<=1000000000)/\dU 1/\True/\True)/\True/\(bZ (aB (Int.gcd (gG.x A₁) (gG.x A₂))) 1==0)=a1t A₁ A₂/\True)) (by kernel_rfl) ?_
 have hZ:(⟨false,0,[],[]⟩:aH)=bF:=rfl
 try simp only[aF,ak,ah]
 try dsimp only[aB,asT,aA,aG,Ty.den,Lf.den] at *
 try simp only[hZ,Int.toNat_natCast,aF,ak,ah,jo,jm,iq,dh]
 try simp only[cZ,cO,List.all_cons,List.all_nil,jr,gy,iw,jf,ni,ne_eq,au,bg,eu,ig,jh,qh,jy,ql,jo,jm,je,dn,List.length_cons,List.length_nil]
 obtain⟨⟨o1,n,g⟩,⟨o2,d,h⟩,u⟩:=x
 have e:(d.sign<=0)=¬ 0<d:=propext (by rw[<-Int.sign_pos_iff];omega)
 simp only[e,b9I,a1t] at *
 cases o1<;>cases o2<;>simp
 by_cases hd:0<d
 ·simp[hd]
  exact⟨fun h=>absurd hd (by omega),hp,by omega,by omega⟩
 ·simp[hd]
noncomputable def c1J:Ctr:=⟨[tZ,tZ],[tQ],fun x=>isz x.1<=1000000000/\isz x.2.1<=1000000000/\(show Int from x.2.1)≠0,fun x=>(Rat.divInt x.1 x.2.1,())⟩
theorem MJ:aI Tryz.prog 180 c1J:=by
 refine aO ((((nil0.ad EP).ad yE).ad pY).ad OY) ⟨[4,5,2,3],[],[]⟩ Tryz.func180 rfl (by decide) (fun x=>[]) (fun x hp=>?_)
 obtain⟨x,y,u⟩:=x
 change Int at x
 change Int at y
 refine aY (let A₀:=(aB (Int.gcd (-x) (-y)));let A₁:=(Int.fdiv x (aB (Int.gcd x y)));let A₂:=(Int.fdiv y (aB (Int.gcd x y)));(True/\True)/\ifB (decide (Int.sign y<0)) ((isz x<=1000000000/\isz y<=1000000000/\True)/\((isz (-x)<=1000000000/\isz (-y)<=1000000000)/\True)/\((isz (-x)<=1000000000/\isz A₀<=1000000000/\aB (Int.gcd (-x) (-y))≠0)/\True)/\((isz (-y)<=1000000000/\isz A₀<=1000000000/\aB (Int.gcd (-x) (-y))≠0)/\True)/\(0<Int.fdiv (-y) A₀/\Int.gcd (Int.fdiv (-x) A₀) (Int.fdiv (-y) A₀)=1/\True)/\Rat.divInt (Int.fdiv (-x) A₀) (Int.fdiv (-y) A₀)=Rat.divInt x y/\True) (((isz x<=1000000000/\isz y<=1000000000)/\True)/\((isz x<=1000000000/\isz (aB (Int.gcd x y))<=1000000000/\aB (Int.gcd x y)≠0)/\True)/\((isz y<=1000000000/\isz (aB (Int.gcd x y))<=1000000000/\aB (Int.gcd x y)≠0)/\True)/\(0<Int.fdiv y (aB (Int.gcd x y))/\Int.gcd A₁ A₂=1/\True)/\Rat.divInt A₁ A₂=Rat.divInt x y/\True)) (by kernel_rfl) ?_
 have hZ:(⟨false,0,[],[]⟩:aH)=bF:=rfl
 try simp only[aF,ak,ah]
 try dsimp only[aB,asT,aA,aG,Ty.den,Lf.den] at *
 try simp only[hZ,Int.toNat_natCast,aF,ak,ah,jo,jm,iq,dh]
 try simp only[cZ,cO,List.all_cons,List.all_nil,jr,gy,iw,jf,ni,ne_eq,au,bg,eu,ig,jh,qh,jy,ql,jo,jm,je,dn,List.length_cons,List.length_nil]
 obtain⟨l1,l2,hy⟩:isz x<=1000000000/\isz y<=1000000000/\y≠0:=hp
 have hy':-y≠0:=by omega
 refine⟨fun h=>⟨⟨l1,l2⟩,⟨by rw[jK];exact l1,by rw[jK];exact l2⟩,⟨by rw[jK];exact l1,kF hy' (by rw[jK];exact l2),gcd_ne hy'⟩,⟨by rw[jK];exact l2,kF hy' (by rw[jK];exact l2),gcd_ne hy'⟩,?_⟩,fun h=>⟨⟨l1,l2⟩,⟨l1,kF hy l2,gcd_ne hy⟩,⟨l2,kF hy l2,gcd_ne hy⟩,?_⟩⟩
 ·have:=rd8 (XE (n:=x) (Du.1 h))
  exact⟨⟨this.1,this.2.1⟩,this.2.2⟩
 ·have h0:¬ y<0:=fun e=>h (Du.2 e)
  have:=rd8 (EH (n:=x) (show 0<y by omega))
  exact⟨⟨this.1,this.2.1⟩,this.2.2⟩
theorem b1g:aI Tryz.prog 256 (cZ1 fun x=>x):=by
 refine aO ((nil0.ad VZ).ad b4m) ⟨[2],[],[]⟩ Tryz.func256 rfl (by decide) (fun x=>[]) (fun x hp=>?_)
 obtain⟨x,u⟩:=x
 change Int at x
 refine aY ((True/\True)/\True/\x=x/\True) (by kernel_rfl) ?_
 exact⟨⟨trivial,trivial⟩,trivial,rfl,trivial⟩
theorem AP:aI Tryz.prog 90 (cIQ dU (fun i=>(i:Rat))):=by
 refine aO (nil0.ad VZ) ⟨[2],[],[]⟩ Tryz.func90 rfl (by decide) (fun x=>[]) (fun x hp=>?_)
 obtain⟨n,u⟩:=x
 change Int at n
 refine aY ((dU n/\dU 1/\True)/\(asT Int 0<1/\Int.gcd n 1=1/\True)/\Rat.divInt n 1=bV n/\True) (by kernel_rfl) ?_
 have hZ:(⟨false,0,[],[]⟩:aH)=bF:=rfl
 try simp only[aF,ak,ah]
 try dsimp only[aB,asT,aA,aG,Ty.den,Lf.den] at *
 try simp only[hZ,Int.toNat_natCast,aF,ak,ah,jo,jm,iq,dh]
 try simp only[cZ,cO,List.all_cons,List.all_nil,jr,gy,iw,jf,ni,ne_eq,au,bg,eu,ig,jh,qh,jy,ql,jo,jm,je,dn,List.length_cons,List.length_nil]
 exact⟨⟨hp,by omega,by omega⟩,⟨by omega,Int.gcd_one_right _⟩,by rw[show (1:Int)=((1:Nat):Int) from rfl,Rat.divInt_ofNat];exact Rat.mkRat_one n⟩
theorem b1j:aI Tryz.prog 250 (cQ1 (fun x=>rsz x<=1000000000) (fun x=>x)):=by
 refine aO (nil0.ad yE) ⟨[2],[],[]⟩ Tryz.func250 rfl (by decide) (fun x=>[]) (fun x hp=>?_)
 obtain⟨x,u⟩:=x
 change Rat at x
 refine aY ((isz (Rat.num x)<=1000000000/\isz (-Rat.num x)<=1000000000/\isz (aB (Rat.den x))<=1000000000/\isz (-aB (Rat.den x))<=1000000000/\True)/\(0 < - -aB (Rat.den x)/\Int.gcd (- -Rat.num x) (- -aB (Rat.den x))=1/\True)/\Rat.divInt (- -Rat.num x) (- -aB (Rat.den x))=x/\True) (by kernel_rfl) ?_
 have hZ:(⟨false,0,[],[]⟩:aH)=bF:=rfl
 try simp only[aF,ak,ah]
 try dsimp only[aB,asT,aA,aG,Ty.den,Lf.den] at *
 try simp only[hZ,Int.toNat_natCast,aF,ak,ah,jo,jm,iq,dh]
 try simp only[cZ,cO,List.all_cons,List.all_nil,jr,gy,iw,jf,ni,ne_eq,au,bg,eu,ig,jh,qh,jy,ql,jo,jm,je,dn,List.length_cons,List.length_nil]
 obtain⟨a,b⟩:=sz8 (show rsz x<=1000000000 from hp)
 simp only[Int.neg_neg,jK]
 exact⟨⟨a,a,b,b⟩,⟨b1p x,FQ x⟩,a2f x⟩
theorem b0N {f:FuncId} {K:Nat} (hf:aI Tryz.prog f (b4t K)):aI Tryz.prog f (cVal K):=fun F w vs x hF hvs hp=>by
 obtain⟨v,vs',rfl,h1,h3⟩:=hvs
 have h3:vs'=[]:=h3
 subst h3
 obtain⟨cs,rfl,b,p,c,b',p',c',rfl,h2,h4,h5⟩:=h1
 obtain⟨_,_,_,_,o1,o2,n,d,e,k1,k2,k3,_⟩:=h2
 simp only[Value.agg.injEq,Array.mk.injEq,List.cons.injEq,jm] at e
 obtain⟨rfl,rfl,rfl,rfl⟩:=e
 rw[show (cVal K).fn x=(a1t ⟨o1,n,(show aH from x.1).g⟩ ⟨o2,d,(show aH from x.1).h⟩,()) from xg (fun o=>(o,())) k3]
 exact hf F w _ ((⟨o1,n,(show aH from x.1).g⟩,⟨o2,d,(show aH from x.1).h⟩,()),()) hF ⟨_,_,rfl,⟨_,rfl,[.bool b,.slice p (aH.n x.1) c],[.bool b',.slice p' (aH.m x.1) c'],rfl,⟨b,p,c,rfl,k1,h4⟩,[.bool b',.slice p' (aH.m x.1) c'],[],rfl,⟨b',p',c',rfl,k2,h5⟩,rfl⟩,rfl⟩ ⟨jc k1.raw.len hp.1,jc k2.raw.len hp.2⟩
theorem YW:aI Tryz.prog 126 (cVal 1000000000):=b0N b3l
theorem AO:aI Tryz.prog 178 (cQ1 (fun x=>rsz x<=1000000000) (fun x=>x)):=by
 refine aO (((nil0.ad AP).ad b1j).ad YW) ⟨[2],[],[]⟩ Tryz.func178 rfl (by decide) (fun x=>[]) (fun x hp=>?_)
 obtain⟨x,u⟩:=x
 change Rat at x
 refine aY (((aH.n (dL x)<=1000000000/\aH.m (dL x)<=1000000000)/\True)/\(rsz x<=1000000000/\True)/\True/\x=x/\True) (by kernel_rfl) ?_
 have hZ:(⟨false,0,[],[]⟩:aH)=bF:=rfl
 try simp only[aF,ak,ah]
 try dsimp only[aB,asT,aA,aG,Ty.den,Lf.den] at *
 try simp only[hZ,Int.toNat_natCast,aF,ak,ah,jo,jm,iq,dh]
 try simp only[cZ,cO,List.all_cons,List.all_nil,jr,gy,iw,jf,ni,ne_eq,au,bg,eu,ig,jh,qh,jy,ql,jo,jm,je,dn,List.length_cons,List.length_nil]
 have hp:rsz x<=1000000000:=hp
 obtain⟨a,b⟩:=sz8 hp
 exact⟨⟨a,b⟩,hp⟩
theorem XH:aI Tryz.prog 183 (cNew 1000000000 14):=by
 refine aO (((nil0.ad pY).ad MJ).ad b1g) ⟨[4,2,3],[],[]⟩ Tryz.func183 rfl (by decide) (fun x=>[]) (fun x hp=>?_)
 obtain⟨x,y,u⟩:=x
 change Int at x
 change Int at y
 refine aY ((isz x<=1000000000/\isz y<=1000000000/\True)/\(True/\True)/\ifB (Int.sign y==0) (True/\bF=Prod.fst (newT 14 x y)/\True/\14=Prod.fst (newT 14 x y).2/\True) (((isz x<=1000000000/\isz y<=1000000000/\y≠0)/\True)/\True/\dL (Rat.divInt x y)=Prod.fst (newT 14 x y)/\True/\0=Prod.fst (newT 14 x y).2/\True)) (by kernel_rfl) ?_
 have hZ:(⟨false,0,[],[]⟩:aH)=bF:=rfl
 try simp only[aF,ak,ah]
 try dsimp only[aB,asT,aA,aG,Ty.den,Lf.den] at *
 try simp only[hZ,Int.toNat_natCast,aF,ak,ah,jo,jm,iq,dh]
 try simp only[cZ,cO,List.all_cons,List.all_nil,jr,gy,iw,jf,ni,ne_eq,au,bg,eu,ig,jh,qh,jy,ql,jo,jm,je,dn,List.length_cons,List.length_nil]
 obtain⟨l1,l2⟩:isz x<=1000000000/\isz y<=1000000000:=hp
 rw[b8M]
 refine⟨⟨l1,l2⟩,fun h=>?_,fun h=>?_⟩
 ·unfold newT;rw[jl (vw h)];exact⟨rfl,rfl⟩
 ·unfold newT;rw[jd (vk h)];exact⟨⟨l1,l2,vk h⟩,rfl,rfl⟩
theorem b1A:aI Tryz.prog 147 b3v:=by
 refine aO ((nil0.ad VZ).ad XH) ⟨[4],[],[]⟩ Tryz.func147 rfl (by decide) (fun x=>[]) (fun x hp=>?_)
 obtain⟨x,y,u⟩:=x
 change Int at x
 change Int at y
 refine aY ((dU x/\dU y/\(isz x<=1000000000/\isz y<=1000000000)/\True)/\(aH.ok (newT 14 x y).1=true/\True)/\aH.x (newT 14 x y).1=Rat.divInt x y/\True/\Prod.fst (newT 14 x y).2=0/\True) (by kernel_rfl) ?_
 have hZ:(⟨false,0,[],[]⟩:aH)=bF:=rfl
 try simp only[aF,ak,ah]
 try dsimp only[aB,asT,aA,aG,Ty.den,Lf.den] at *
 try simp only[hZ,Int.toNat_natCast,aF,ak,ah,jo,jm,iq,dh]
 try simp only[cZ,cO,List.all_cons,List.all_nil,jr,gy,iw,jf,ni,ne_eq,au,bg,eu,ig,jh,qh,jy,ql,jo,jm,je,dn,List.length_cons,List.length_nil]
 obtain⟨h1,h2,h3⟩:dU x/\dU y/\y≠0:=hp
 rw[show newT 14 x y=(dL (Rat.divInt x y),0,()) from jd h3]
 exact⟨⟨h1,h2,jc (a8j h1) (by omega),jc (a8j h2) (by omega)⟩,rfl,rfl,rfl⟩
theorem LU:aI Tryz.prog 127 (cQI (fun x=>rsz x<=1000000000) (fun x=>sgn x.num)):=by
 refine aO ((nil0.ad pY).ad AO) ⟨[],[],[]⟩ Tryz.func127 rfl (by decide) (fun x=>[]) (fun x hp=>?_)
 obtain⟨x,u⟩:=x
 change Rat at x
 refine aY ((rsz x<=1000000000/\True/\True)/\True/\Int.sign (Rat.num x)=sgn (Rat.num x)/\True) (by kernel_rfl) ?_
 have hZ:(⟨false,0,[],[]⟩:aH)=bF:=rfl
 try simp only[aF,ak,ah]
 try dsimp only[aB,asT,aA,aG,Ty.den,Lf.den] at *
 try simp only[hZ,Int.toNat_natCast,aF,ak,ah,jo,jm,iq,dh]
 try simp only[cZ,cO,List.all_cons,List.all_nil,jr,gy,iw,jf,ni,ne_eq,au,bg,eu,ig,jh,qh,jy,ql,jo,jm,je,dn,List.length_cons,List.length_nil]
 exact⟨hp,rfl⟩
theorem XG:aI Tryz.prog 172 (cQ1 s4 (fun x=>-x)):=by
 refine aO ((nil0.ad yE).ad AO) ⟨[2,1],[],[]⟩ Tryz.func172 rfl (by decide) (fun x=>[]) (fun x hp=>?_)
 obtain⟨x,u⟩:=x
 change Rat at x
 refine aY ((rsz x<=1000000000/\True)/\(isz (Rat.num x)<=1000000000/\True)/\(0<aB (Rat.den x)/\Int.gcd (-Rat.num x) (aB (Rat.den x))=1/\True)/\Rat.divInt (-Rat.num x) (aB (Rat.den x))=-x/\True) (by kernel_rfl) ?_
 have hZ:(⟨false,0,[],[]⟩:aH)=bF:=rfl
 try simp only[aF,ak,ah]
 try dsimp only[aB,asT,aA,aG,Ty.den,Lf.den] at *
 try simp only[hZ,Int.toNat_natCast,aF,ak,ah,jo,jm,iq,dh]
 try simp only[cZ,cO,List.all_cons,List.all_nil,jr,gy,iw,jf,ni,ne_eq,au,bg,eu,ig,jh,qh,jy,ql,jo,jm,je,dn,List.length_cons,List.length_nil]
 have hp:rsz x<=400000000:=hp
 obtain⟨a,b⟩:=sz8 hp
 exact⟨by omega,by omega,⟨b1p x,by have:=FQ (-x);rwa [yQ,yP] at this⟩,a9k x⟩
theorem XD:aI Tryz.prog 173 (cQ2 s44 (·+·)):=by
 refine aO ((((nil0.ad uU).ad a0v).ad MJ).ad AO) ⟨[4,2,3],[],[]⟩ Tryz.func173 rfl (by decide) (fun x=>[]) (fun x hp=>?_)
 obtain⟨x,y,u⟩:=x
 change Rat at x
 change Rat at y
 refine aY ((rsz x<=1000000000/\rsz y<=1000000000/\True)/\((isz (Rat.num x)<=1000000000/\isz (aB (Rat.den y))<=1000000000)/\(isz (Rat.num y)<=1000000000/\isz (aB (Rat.den x))<=1000000000)/\(isz (Rat.num x*aB (Rat.den y))<=1000000000/\isz (Rat.num y*aB (Rat.den x))<=1000000000)/\(isz (aB (Rat.den x))<=1000000000/\isz (aB (Rat.den y))<=1000000000)/\(isz (Rat.num x*aB (Rat.den y)+Rat.num y*aB (Rat.den x))<=1000000000/\isz (aB (Rat.den x)*aB (Rat.den y))<=1000000000/\aB (Rat.den x)*aB (Rat.den y)≠0)/\True)/\True/\Rat.divInt (Rat.num x*aB (Rat.den y)+Rat.num y*aB (Rat.den x)) (aB (Rat.den x)*aB (Rat.den y))=x+y/\True) (by kernel_rfl) ?_
 have hZ:(⟨false,0,[],[]⟩:aH)=bF:=rfl
 try simp only[aF,ak,ah]
 try dsimp only[aB,asT,aA,aG,Ty.den,Lf.den] at *
 try simp only[hZ,Int.toNat_natCast,aF,ak,ah,jo,jm,iq,dh]
 try simp only[cZ,cO,List.all_cons,List.all_nil,jr,gy,iw,jf,ni,ne_eq,au,bg,eu,ig,jh,qh,jy,ql,jo,jm,je,dn,List.length_cons,List.length_nil]
 obtain⟨l1,l2⟩:rsz x<=400000000/\rsz y<=400000000:=hp
 obtain⟨a,b⟩:=sz8 l1
 obtain⟨c,d⟩:=sz8 l2
 have m1:=KY a d
 have m2:=KY c b
 have m3:=KY b d
 have m4:=vW (x.num*y.den) (y.num*x.den)
 exact⟨⟨by omega,by omega⟩,⟨⟨by omega,by omega⟩,⟨by omega,by omega⟩,⟨by omega,by omega⟩,⟨by omega,by omega⟩,by omega,by omega,Int.mul_ne_zero (EC x) (EC y)⟩,YD x y⟩
theorem LP:aI Tryz.prog 89 (cQ2 s44 (·*·)):=by
 refine aO (((nil0.ad uU).ad MJ).ad AO) ⟨[4,2,3],[],[]⟩ Tryz.func89 rfl (by decide) (fun x=>[]) (fun x hp=>?_)
 obtain⟨x,y,u⟩:=x
 change Rat at x
 change Rat at y
 refine aY ((rsz x<=1000000000/\rsz y<=1000000000/\True)/\((isz (Rat.num x)<=1000000000/\isz (Rat.num y)<=1000000000)/\(isz (aB (Rat.den x))<=1000000000/\isz (aB (Rat.den y))<=1000000000)/\(isz (Rat.num x*Rat.num y)<=1000000000/\isz (aB (Rat.den x)*aB (Rat.den y))<=1000000000/\aB (Rat.den x)*aB (Rat.den y)≠0)/\True)/\True/\Rat.divInt (Rat.num x*Rat.num y) (aB (Rat.den x)*aB (Rat.den y))=x*y/\True) (by kernel_rfl) ?_
 have hZ:(⟨false,0,[],[]⟩:aH)=bF:=rfl
 try simp only[aF,ak,ah]
 try dsimp only[aB,asT,aA,aG,Ty.den,Lf.den] at *
 try simp only[hZ,Int.toNat_natCast,aF,ak,ah,jo,jm,iq,dh]
 try simp only[cZ,cO,List.all_cons,List.all_nil,jr,gy,iw,jf,ni,ne_eq,au,bg,eu,ig,jh,qh,jy,ql,jo,jm,je,dn,List.length_cons,List.length_nil]
 obtain⟨l1,l2⟩:rsz x<=400000000/\rsz y<=400000000:=hp
 obtain⟨a,b⟩:=sz8 l1
 obtain⟨c,d⟩:=sz8 l2
 have m1:=KY a c
 have m3:=KY b d
 exact⟨⟨by omega,by omega⟩,⟨⟨by omega,by omega⟩,⟨by omega,by omega⟩,by omega,by omega,Int.mul_ne_zero (EC x) (EC y)⟩,YE x y⟩
theorem a3y:aI Tryz.prog 87 (b3t 400000000 14):=by
 refine aO ((((nil0.ad uU).ad pY).ad MJ).ad AO) ⟨[4,2,3],[],[]⟩ Tryz.func87 rfl (by decide) (fun x=>[]) (fun x hp=>?_)
 obtain⟨x,y,u⟩:=x
 change Rat at x
 change Rat at y
 refine aY ((rsz x<=1000000000/\rsz y<=1000000000/\True)/\(True/\True)/\ifB (Int.sign (Rat.num y)==0) (True/\bF=Prod.fst (SI 14 x y)/\True/\14=Prod.fst (SI 14 x y).2/\True) (((isz (Rat.num x)<=1000000000/\isz (aB (Rat.den y))<=1000000000)/\(isz (aB (Rat.den x))<=1000000000/\isz (Rat.num y)<=1000000000)/\(isz (Rat.num x*aB (Rat.den y))<=1000000000/\isz (aB (Rat.den x)*Rat.num y)<=1000000000/\aB (Rat.den x)*Rat.num y≠0)/\True)/\True/\dL (Rat.divInt (Rat.num x*aB (Rat.den y)) (aB (Rat.den x)*Rat.num y))=Prod.fst (SI 14 x y)/\True/\0=Prod.fst (SI 14 x y).2/\True)) (by kernel_rfl) ?_
 have hZ:(⟨false,0,[],[]⟩:aH)=bF:=rfl
 try simp only[aF,ak,ah]
 try dsimp only[aB,asT,aA,aG,Ty.den,Lf.den] at *
 try simp only[hZ,Int.toNat_natCast,aF,ak,ah,jo,jm,iq,dh]
 try simp only[cZ,cO,List.all_cons,List.all_nil,jr,gy,iw,jf,ni,ne_eq,au,bg,eu,ig,jh,qh,jy,ql,jo,jm,je,dn,List.length_cons,List.length_nil]
 obtain⟨l1,l2⟩:rsz x<=400000000/\rsz y<=400000000:=hp
 obtain⟨a,b⟩:=sz8 l1
 obtain⟨c,d⟩:=sz8 l2
 have m1:=KY a d
 have m3:=KY b c
 rw[b8M]
 refine⟨⟨by omega,by omega⟩,fun h=>?_,fun h=>?_⟩
 ·unfold SI;rw[jl ((wC y).1 (vw h))];exact⟨rfl,rfl⟩
 ·have h0:=vk h
  unfold SI;rw[jd (fun e=>h0 ((wC y).2 e)),a4q]
  exact⟨⟨⟨by omega,by omega⟩,⟨by omega,by omega⟩,by omega,by omega,Int.mul_ne_zero (EC x) h0⟩,rfl,rfl⟩
theorem b1z:aI Tryz.prog 128 (b4s s44 KT):=by
 refine aO (((nil0.ad uU).ad OX).ad AO) ⟨[2,3],[],[]⟩ Tryz.func128 rfl (by decide) (fun x=>[]) (fun x hp=>?_)
 obtain⟨x,y,u⟩:=x
 change Rat at x
 change Rat at y
 refine aY ((rsz x<=1000000000/\rsz y<=1000000000/\True)/\((isz (Rat.num x)<=1000000000/\isz (aB (Rat.den y))<=1000000000)/\(isz (Rat.num y)<=1000000000/\isz (aB (Rat.den x))<=1000000000)/\True/\True)/\True/\bZ (Rat.num x*aB (Rat.den y)) (Rat.num y*aB (Rat.den x))=KT x y/\True) (by kernel_rfl) ?_
 have hZ:(⟨false,0,[],[]⟩:aH)=bF:=rfl
 try simp only[aF,ak,ah]
 try dsimp only[aB,asT,aA,aG,Ty.den,Lf.den] at *
 try simp only[hZ,Int.toNat_natCast,aF,ak,ah,jo,jm,iq,dh]
 try simp only[cZ,cO,List.all_cons,List.all_nil,jr,gy,iw,jf,ni,ne_eq,au,bg,eu,ig,jh,qh,jy,ql,jo,jm,je,dn,List.length_cons,List.length_nil]
 obtain⟨l1,l2⟩:rsz x<=400000000/\rsz y<=400000000:=hp
 obtain⟨a,b⟩:=sz8 l1
 obtain⟨c,d⟩:=sz8 l2
 exact⟨⟨by omega,by omega⟩,⟨⟨by omega,by omega⟩,by omega,by omega⟩,b1f x y⟩
theorem a3E:aI Tryz.prog 186 (cQ2 s44 (·-·)):=by
 refine aO ((nil0.ad XG).ad XD) ⟨[4],[],[]⟩ Tryz.func186 rfl (by decide) (fun x=>[]) (fun x hp=>?_)
 obtain⟨x,y,u⟩:=x
 change Rat at x
 change Rat at y
 refine aY ((s4 y/\s44 x (-y)/\True)/\True/\x+-y=x-y/\True) (by kernel_rfl) ?_
 have hZ:(⟨false,0,[],[]⟩:aH)=bF:=rfl
 try simp only[aF,ak,ah]
 try dsimp only[aB,asT,aA,aG,Ty.den,Lf.den] at *
 try simp only[hZ,Int.toNat_natCast,aF,ak,ah,jo,jm,iq,dh]
 try simp only[cZ,cO,List.all_cons,List.all_nil,jr,gy,iw,jf,ni,ne_eq,au,bg,eu,ig,jh,qh,jy,ql,jo,jm,je,dn,List.length_cons,List.length_nil]
 obtain⟨l1,l2⟩:rsz x<=400000000/\rsz y<=400000000:=hp
 obtain⟨a,b⟩:=sz8 l1
 obtain⟨c,d⟩:=sz8 l2
 exact⟨⟨l2,l1,by rw[FW];exact l2⟩,(Rat.sub_eq_add_neg x y).symm⟩
set_option maxRecDepth 20000
noncomputable def LCa:Lib:=((((((((Lib.nil
 ).add 90 (cIQ dU (fun i=>(i:Rat))) AP
 ).add 126 (cVal 1000000000) YW
 ).add 173 (cQ2 s44 (·+·)) XD
 ).add 89 (cQ2 s44 (·*·)) LP
 ).add 186 (cQ2 s44 (·-·)) a3E
 ).add 128 (b4s s44 KT) b1z
 ).add 87 (b3t 400000000 14) a3y
 ).add 127 (cQI (fun x=>rsz x<=1000000000) (fun x=>sgn x.num)) LU
end Go.Proofs.YtbkocjmmbkifjaaGreat
