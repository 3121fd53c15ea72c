/-
  Lemmas for the theorem vrecovers28_holds, part 19 of 35.
-/
import Derived.Test.YtbkocjmmbkifjaaGreatQr18
namespace Go.Proofs.YtbkocjmmbkifjaaGreat
open Go Go.RowKit
theorem um:type_of% @decide_eq_true:=@decide_eq_true
theorem dh:type_of% @beq_eq_false_iff_ne:=@beq_eq_false_iff_ne
theorem ah:type_of% @decide_eq_false_iff_not:=@decide_eq_false_iff_not
theorem jg:type_of% @true_and:=@true_and
theorem jh:type_of% @Bool.and_true:=@Bool.and_true
theorem ig:type_of% @Bool.not_eq_false':=@Bool.not_eq_false'
theorem bn:type_of% @Bool.and_eq_false_imp:=@Bool.and_eq_false_imp
theorem eu:type_of% @bne_eq_false_iff_eq:=@bne_eq_false_iff_eq
theorem jd:type_of% @Int.natCast_inj:=@Int.natCast_inj
theorem oh:type_of% @imp_self:=@imp_self
theorem jo:type_of% @implies_true:=@implies_true
theorem oq:type_of% @and_self:=@and_self
theorem bf:type_of% @Bool.or_eq_false_iff:=@Bool.or_eq_false_iff
theorem tu:type_of% @of_decide_eq_true:=@of_decide_eq_true
theorem ru:type_of% @of_decide_eq_false:=@of_decide_eq_false
theorem Ed:type_of% @Int.mul_ne_zero:=@Int.mul_ne_zero
set_option maxRecDepth 100000
set_option maxHeartbeats 1000000
set_option linter.unusedVariables false
set_option linter.unusedSimpArgs false
theorem sgf (x:Int):sg (decide (x<0)) x.natAbs=x:=by unfold sg;by_cases h:x<0<;>simp[h]<;>omega
theorem c3C (x:Int):(dig x.natAbs).length=isz x:=rfl
theorem a1z (n:Nat):(((dig n).length:Int)==0)=decide (n=0):=by
 by_cases h:n=0
 ·rw[um h,gY.2 h];rfl
 ·rw[lg h]
  exact dh.mpr fun e=>h (gY.1 (ql (by omega)))
theorem a9C (n:Nat):decide (((dig n).length:Int) > 0)=decide (n≠0):=by
 have:=a1z n
 by_cases h:n=0
 ·rw[h,lg (show ¬ (0:Nat)≠0 by omega),gY.2 rfl];rfl
 ·rw[um h]
  rw[lg h] at this
  have:=dh.mp this
  exact um (by omega)
theorem c4v {n m:Bool} {a b:Nat} (h:(n==m)=true):sg n (a+b:Nat)=sg n a+sg m b:=by
 rw[eq_of_beq h];unfold sg;cases m<;>simp;omega
theorem c4w {n m:Bool} {a b:Nat} (h:(n==m)=false) (h4:b<=a):sg n (a-b:Nat)=sg n a+sg m b:=by
 have e:m=!n:=by cases n<;>cases m<;>simp_all
 subst e;unfold sg;cases n<;>simp<;>omega
theorem c4x {n m:Bool} {a b:Nat} (h:(n==m)=false) (h4:a<=b):sg m (b-a:Nat)=sg n a+sg m b:=by
 have e:m=!n:=by cases n<;>cases m<;>simp_all
 subst e;unfold sg;cases n<;>simp<;>omega
theorem a5b {a b:Nat} (h3:bZ (a:Int) (b:Int) ≥ 0):b<=a:=by
 unfold bZ at h3
 rcases Ac a b with h|h
 ·rw[jq (by omega)] at h3;omega
 ·exact h
theorem a5c {a b:Nat} (h3:¬ bZ (a:Int) (b:Int) ≥ 0):a<=b:=by
 unfold bZ at h3
 rcases Ac b a with h|h
 ·rw[ji (by omega),jq (by omega)] at h3;omega
 ·exact h
theorem sgM (x y:Int):sg (decide (x<0) != decide (y<0)) (x.natAbs*y.natAbs)=x*y:=by
 have e:x*y=sg (decide (x<0)) x.natAbs*sg (decide (y<0)) y.natAbs:=by rw[sgf,sgf]
 rw[e]
 cases decide (x<0)<;>cases decide (y<0)<;>simp[sg,Int.neg_mul,Int.mul_neg]
abbrev tG:Ty:=.lf .gsl
abbrev LN:Type:=List Nat
theorem rD {F:Nat->Prop} {w:World} {v:Value} {x:List Nat} (h:jC F w tG v x):Rd w v x:=by
 obtain⟨cs,rfl,s,rfl,h2⟩:=h
 exact h2
theorem KJ {F:Nat->Prop} {w:World} {v:Value} {x:List Nat} (h:Rd w v x):jC F w tG v x:=⟨[v],rfl,v,rfl,h⟩
theorem a1g.rd {l:List Nat} {w w':World} {e:Ending} (h:a1g l w e w'):GRd l w e w':=by
 obtain⟨v,h1,h2,h3⟩:=h
 exact⟨v,h1,Rd.dM h2,h3⟩
def cGG (pre:LN->LN->Prop) [hd:∀ x y,Dc (pre x y)] (g:LN->LN->LN):Ctr:={ args:=[tG,tG],res:=[tG],pre:=fun x=>pre x.1 x.2.1,fn:=fun x=>(g x.1 x.2.1,()),dec:=fun x=>hd x.1 x.2.1 }
theorem a3p {f:FuncId} {pre:LN->LN->Prop} [∀ x y,Dc (pre x y)] {g:LN->LN->LN} (h:∀ (s t:Value) (a b:LN) (w:World),Rd w s a->Rd w t b->pre a b->Calls Tryz.prog f #[s,t] w (a1g (g a b) w)):aI Tryz.prog f (cGG pre g):=by
 intro F w vs x hF hvs hp
 obtain⟨v,vs',rfl,h1,u,vs'',rfl,h2,h3⟩:=hvs
 have h3:vs''=[]:=h3
 subst h3
 refine(h v u x.1 x.2.1 w (rD h1) (rD h2) hp).mono ?_
 intro e w' h
 obtain⟨r,rfl,hr,hb⟩:=h.rd
 exact⟨r,rfl,KJ hr,hb⟩
noncomputable def cZG:Ctr:=⟨[tZ],[tG],fun _=>True,fun x=>(dig (Int.natAbs x.1),())⟩
theorem nN:aI Tryz.prog 192 cZG:=by
 intro F w vs x hF hvs hp
 obtain⟨v,vs',rfl,h1,h3⟩:=hvs
 have h3:vs'=[]:=h3
 subst h3
 refine(xY v x.1 w (QS h1).raw).mono ?_
 rintro e w' ⟨r,rfl,hr,hb⟩
 exact⟨r,rfl,KJ hr,hb⟩
noncomputable def c5q:Ctr:=⟨[tB,tG],[tZ],fun x=>Low x.2.1,fun x=>(sg x.1 (val x.2.1),())⟩
theorem BG:aI Tryz.prog 190 c5q:=by
 intro F w vs x hF hvs hp
 obtain⟨v,vs',rfl,h1,u,vs'',rfl,h2,h3⟩:=hvs
 have h3:vs''=[]:=h3
 subst h3
 rw[a3m h1]
 refine(JF x.1 u x.2.1 w (rD h2) hp).mono ?_
 rintro e w' ⟨r,rfl,hr,hb⟩
 exact⟨r,rfl,YS hr,hb⟩
noncomputable def c5g:Ctr:=⟨[tG,tG],[tG,tG],fun x=>Canon x.1/\Canon x.2.1/\(show LN from x.1).length<=1000000000/\(show LN from x.2.1)≠[],fun x=>(dig (val x.1 / val x.2.1),dig (val x.1%val x.2.1),())⟩
theorem a2B:aI Tryz.prog 251 c5g:=by
 intro F w vs x hF hvs hp
 obtain⟨v,vs',rfl,h1,u,vs'',rfl,h2,h3⟩:=hvs
 have h3:vs''=[]:=h3
 subst h3
 refine(a2A v u x.1 x.2.1 w (rD h1) (rD h2) hp.1 hp.2.1 hp.2.2.1 hp.2.2.2).mono ?_
 rintro e w' ⟨r,s,rfl,hr,hs,hb⟩
 exact⟨_,rfl,⟨[_,_],rfl,_,_,rfl,KJ hr,_,_,rfl,KJ hs,rfl⟩,hb⟩
noncomputable def c4Y:Ctr:=⟨[tG,tG],[tI],fun x=>Canon x.1/\Canon x.2.1,fun x=>(bZ (val x.1) (val x.2.1),())⟩
theorem a1u:aI Tryz.prog 254 c4Y:=by
 intro F w vs x hF hvs hp
 obtain⟨v,vs',rfl,h1,u,vs'',rfl,h2,h3⟩:=hvs
 have h3:vs''=[]:=h3
 subst h3
 refine(kX v u x.1 x.2.1 w (rD h1) (rD h2) hp.1 hp.2).mono ?_
 rintro e w' ⟨rfl,hb⟩
 exact⟨_,rfl,OD _,hb⟩
noncomputable def c4X:Ctr:=⟨[tG],[tG],fun x=>(show LN from x.1).length<=1000000000,fun x=>(x.1,())⟩
theorem KW:aI Tryz.prog 191 c4X:=by
 intro F w vs x hF hvs hp
 obtain⟨v,vs',rfl,h1,h3⟩:=hvs
 have h3:vs'=[]:=h3
 subst h3
 refine(clone_any v x.1 w (rD h1) hp).mono ?_
 intro e w' h
 obtain⟨r,rfl,hr,hb⟩:=h.rd
 exact⟨r,rfl,KJ hr,hb⟩
abbrev tU:Ty:=.int .u64
noncomputable def c5N:Ctr:=⟨[tU],[tG],fun x=>0<=(show Int from x.1)/\(show Int from x.1)<18446744073709551616,fun x=>(dig x.1.toNat,())⟩
theorem a8w:aI Tryz.prog 247 c5N:=by
 intro F w vs x hF hvs hp
 obtain⟨v,vs',rfl,h1,h3⟩:=hvs
 have h3:vs'=[]:=h3
 subst h3
 rw[a2e h1]
 have hq:(show Int from x.1)<18446744073709551616:=hp.2
 have hq2:(0:Int)<=(show Int from x.1):=hp.1
 have:=tH x.1.toNat w ((Int.toNat_lt hq2).2 hq)
 rw[Int.toNat_of_nonneg hp.1] at this
 refine this.mono ?_
 intro e w' h
 obtain⟨r,rfl,hr,hb⟩:=a1g.rd h
 exact⟨r,rfl,KJ hr,hb⟩
noncomputable def b7L:Ctr:=⟨[tG],[tU,tB],fun x=>Low x.1,fun x=>if (show LN from x.1).length<=2 then ((val x.1:Int),true,()) else ((0:Int),false,())⟩
theorem b3x:aI Tryz.prog 265 b7L:=by
 intro F w vs x hF hvs hp
 obtain⟨v,vs',rfl,h1,h3⟩:=hvs
 have h3:vs'=[]:=h3
 subst h3
 by_cases h:(show LN from x.1).length<=2
 ·refine(CU v x.1 w (rD h1) hp h).mono ?_
  rintro e w' ⟨rfl,hb⟩
  refine⟨_,rfl,?_,hb⟩
  rw[show b7L.fn x=((val x.1:Int),true,()) from jq h]
  exact⟨[_,_],rfl,_,_,rfl,OD _,_,_,rfl,UU _,rfl⟩
 ·refine(QJ v x.1 w (rD h1) (Nat.lt_of_not_le h)).mono ?_
  rintro e w' ⟨rfl,hb⟩
  refine⟨_,rfl,?_,hb⟩
  rw[show b7L.fn x=((0:Int),false,()) from ji h]
  exact⟨[_,_],rfl,_,_,rfl,OD _,_,_,rfl,UU _,rfl⟩
theorem c4F:aI Tryz.prog 249 (cGG (fun a b=>Low a/\Low b/\a.length<=1000000000/\b.length<=1000000000) (fun a b=>dig (val a*val b))):=(a3p fun s t a b w hs ht h=>times_any s t a b w hs ht h.1 h.2.1 h.2.2.1 h.2.2.2)
theorem b7x:aI Tryz.prog 253 (cGG (fun a b=>Low a/\Low b/\a.length<=1000000000/\b.length<=1000000000) (fun a b=>dig (val a+val b))):=(a3p fun s t a b w hs ht h=>a2D s t a b w hs ht h.1 h.2.1 h.2.2.1 h.2.2.2)
theorem b7y:aI Tryz.prog 272 (cGG (fun a b=>Low a/\Low b/\a.length<=1000000000/\b.length<=a.length/\val b<=val a) (fun a b=>dig (val a-val b))):=(a3p fun s t a b w hs ht h=>a7M s t a b w hs ht h.1 h.2.1 h.2.2.1 h.2.2.2.1 h.2.2.2.2)
theorem AX:aI Tryz.prog 97 (cZ1 fun x=>-x):=by
 refine aJ (((nil0.ad nN).ad BG).ad KW) ⟨[2],[],[]⟩ Tryz.func97 rfl (by decide) (fun x=>[]) (fun x hp=>?_)
 obtain⟨x,u⟩:=x
 change Int at x
 refine aT ((True/\List.length (dig (Int.natAbs x))<=1000000000/\Low (dig (Int.natAbs x))/\True)/\True/\sg (!decide (x<0)) (val (dig (Int.natAbs x)))=-x/\True) (by kernel_rfl) ?_
 have hZ:(⟨false,0,[],[]⟩:aH)=bC:=rfl
 try simp only[aC,aj,ah]
 try dsimp only[aB,asT,aA,aF,Ty.den,Lf.den] at *
 try simp only[hZ,Int.toNat_natCast,aC,aj,ah,jg,jf,gy,bg]
 try simp only[bT,bP,List.all_cons,List.all_nil,jh,dw,ig,je,jy,ne_eq,au,bn,dh,eu,jd,oh,jo,oq,jg,jf,iw,bf,List.length_cons,List.length_nil]
 have hp:isz x<=1000000000:=hp
 refine⟨⟨hp,bH _⟩,?_⟩
 rw[aU]
 unfold sg
 by_cases h:x<0<;>simp[h]<;>omega
theorem rF:aI Tryz.prog 179 (cZI Int.sign):=by
 refine aJ (nil0.ad nN) ⟨[],[],[]⟩ Tryz.func179 rfl (by decide) (fun x=>[]) (fun x hp=>?_)
 obtain⟨x,u⟩:=x
 change Int at x
 refine aT ((True/\True)/\ifB (aB (dig (Int.natAbs x)).length==0) (True/\0=Int.sign x/\True) (ifB (decide (x<0)) (True/\-1=Int.sign x/\True) (True/\1=Int.sign x/\True))) (by kernel_rfl) ?_
 have hZ:(⟨false,0,[],[]⟩:aH)=bC:=rfl
 try simp only[aC,aj,ah]
 try dsimp only[aB,asT,aA,aF,Ty.den,Lf.den] at *
 try simp only[hZ,Int.toNat_natCast,aC,aj,ah,jg,jf,gy,bg]
 try simp only[bT,bP,List.all_cons,List.all_nil,jh,dw,ig,je,jy,ne_eq,au,bn,dh,eu,jd,oh,jo,oq,jg,jf,iw,bf,List.length_cons,List.length_nil]
 rw[a1z]
 refine⟨fun h=>?_,fun h=>⟨fun h1=>(uf h1).symm,fun h1=>?_⟩⟩
 ·rw[show x=0 by have:=tu h;omega];rfl
 ·have:=ru h
  exact(uy (by omega)).symm
theorem wW:aI Tryz.prog 177 (cZ2 fun x y=>x*y):=by
 refine aJ (((nil0.ad nN).ad BG).ad c4F) ⟨[4],[],[]⟩ Tryz.func177 rfl (by decide) (fun x=>[]) (fun x hp=>?_)
 obtain⟨x,y,u⟩:=x
 change Int at x
 change Int at y
 refine aT ((True/\True/\(Low (dig (Int.natAbs x))/\Low (dig (Int.natAbs y))/\List.length (dig (Int.natAbs x))<=1000000000/\List.length (dig (Int.natAbs y))<=1000000000)/\Low (dig (val (dig (Int.natAbs x))*val (dig (Int.natAbs y))))/\True)/\True/\sg (decide (x<0) != decide (y<0)) (val (dig (val (dig (Int.natAbs x))*val (dig (Int.natAbs y)))))=x*y/\True) (by kernel_rfl) ?_
 have hZ:(⟨false,0,[],[]⟩:aH)=bC:=rfl
 try simp only[aC,aj,ah]
 try dsimp only[aB,asT,aA,aF,Ty.den,Lf.den] at *
 try simp only[hZ,Int.toNat_natCast,aC,aj,ah,jg,jf,gy,bg]
 try simp only[bT,bP,List.all_cons,List.all_nil,jh,dw,ig,je,jy,ne_eq,au,bn,dh,eu,jd,oh,jo,oq,jg,jf,iw,bf,List.length_cons,List.length_nil]
 obtain⟨l1,l2⟩:isz x<=1000000000/\isz y<=1000000000:=hp
 simp only[aU]
 exact⟨⟨⟨bH _,bH _,l1,l2⟩,bH _⟩,sgM x y⟩
noncomputable def c5O:Ctr:=⟨[tB,tG,tB,tG],[tZ],fun x=>Canon x.2.1/\Canon x.2.2.2.1/\(show LN from x.2.1).length<=1000000000/\(show LN from x.2.2.2.1).length<=1000000000,fun x=>(sg x.1 (val x.2.1)+sg x.2.2.1 (val x.2.2.2.1),())⟩
theorem b0G:aI Tryz.prog 248 c5O:=by
 refine aJ ((((nil0.ad BG).ad b7x).ad b7y).ad a1u) ⟨[8],[],[]⟩ Tryz.func248 rfl (by decide) (fun x=>[]) (fun x hp=>?_)
 obtain⟨n,a,m,b,u⟩:=x
 change Bool at n
 change List Nat at a
 change Bool at m
 change List Nat at b
 refine aT (ifB (n==m) (((Low a/\Low b/\List.length a<=1000000000/\List.length b<=1000000000)/\Low (dig (val a+val b))/\True)/\True/\sg n (val (dig (val a+val b)))=sg n (val a)+sg m (val b)/\True) (((Canon a/\Canon b)/\True)/\ifB (decide (bZ (aB (val a)) (aB (val b)) ≥ 0)) (((Low a/\Low b/\List.length a<=1000000000/\List.length b<=List.length a/\val b<=val a)/\Low (dig (val a-val b))/\True)/\True/\sg n (val (dig (val a-val b)))=sg n (val a)+sg m (val b)/\True) (((Low b/\Low a/\List.length b<=1000000000/\List.length a<=List.length b/\val a<=val b)/\Low (dig (val b-val a))/\True)/\True/\sg m (val (dig (val b-val a)))=sg n (val a)+sg m (val b)/\True))) (by kernel_rfl) ?_
 have hZ:(⟨false,0,[],[]⟩:aH)=bC:=rfl
 try simp only[aC,aj,ah]
 try dsimp only[aB,asT,aA,aF,Ty.den,Lf.den] at *
 try simp only[hZ,Int.toNat_natCast,aC,aj,ah,jg,jf,gy,bg]
 try simp only[bT,bP,List.all_cons,List.all_nil,jh,dw,ig,je,jy,ne_eq,au,bn,dh,eu,jd,oh,jo,oq,jg,jf,iw,bf,List.length_cons,List.length_nil]
 obtain⟨h1,h2,l1,l2⟩:Canon a/\Canon b/\a.length<=1000000000/\b.length<=1000000000:=hp
 have c1:(dig (val a)).length=a.length:=by rw[dO h1]
 have c2:(dig (val b)).length=b.length:=by rw[dO h2]
 simp only[aU]
 refine⟨fun h=>⟨⟨⟨h1.1,h2.1,l1,l2⟩,bH _⟩,c4v h⟩,fun h=>⟨⟨h1,h2⟩,fun h3=>?_,fun h3=>?_⟩⟩
 ·have h4:=a5b h3
  have:=aS h4
  exact⟨⟨⟨h1.1,h2.1,l1,by omega,h4⟩,bH _⟩,c4w h h4⟩
 ·have h4:=a5c h3
  have:=aS h4
  exact⟨⟨⟨h2.1,h1.1,l2,by omega,h4⟩,bH _⟩,c4x h h4⟩
theorem a2b:aI Tryz.prog 176 (cZ2 fun x y=>x+y):=by
 refine aJ ((nil0.ad nN).ad b0G) ⟨[4],[],[]⟩ Tryz.func176 rfl (by decide) (fun x=>[]) (fun x hp=>?_)
 obtain⟨x,y,u⟩:=x
 change Int at x
 change Int at y
 refine aT ((True/\True/\(Canon (dig (Int.natAbs x))/\Canon (dig (Int.natAbs y))/\List.length (dig (Int.natAbs x))<=1000000000/\List.length (dig (Int.natAbs y))<=1000000000)/\True)/\True/\sg (decide (x<0)) (val (dig (Int.natAbs x)))+sg (decide (y<0)) (val (dig (Int.natAbs y)))=x+y/\True) (by kernel_rfl) ?_
 have hZ:(⟨false,0,[],[]⟩:aH)=bC:=rfl
 try simp only[aC,aj,ah]
 try dsimp only[aB,asT,aA,aF,Ty.den,Lf.den] at *
 try simp only[hZ,Int.toNat_natCast,aC,aj,ah,jg,jf,gy,bg]
 try simp only[bT,bP,List.all_cons,List.all_nil,jh,dw,ig,je,jy,ne_eq,au,bn,dh,eu,jd,oh,jo,oq,jg,jf,iw,bf,List.length_cons,List.length_nil]
 obtain⟨l1,l2⟩:isz x<=1000000000/\isz y<=1000000000:=hp
 simp only[aU,sgf]
 exact⟨⟨dB _,dB _,l1,l2⟩,trivial⟩
theorem SK:aI Tryz.prog 229 cDiv:=by
 refine aJ ((((((nil0.ad nN).ad BG).ad b7x).ad b7y).ad a2B).ad KW) ⟨[4,5],[],[]⟩ Tryz.func229 rfl (by decide) (fun x=>[]) (fun x hp=>?_)
 obtain⟨x,y,u⟩:=x
 change Int at x
 change Int at y
 refine aT (let A₀:=(dig (val (dig (Int.natAbs x))%val (dig (Int.natAbs y))));let A₂:=(dig (val (dig (Int.natAbs x)) / val (dig (Int.natAbs y))));let aK:=(List.map Int.toNat (1::aF Int));let aQ:=(aB A₀.length > 0);let A₁:=(decide aQ==true);let dF:=(dig (val (dig (Int.natAbs y))-val A₀));let dL:=(decide (x<0) != decide (y<0));let dH:=(A₁=true->A₁=true/\True);(True/\True/\True)/\ifB (aB (dig (Int.natAbs y)).length==0) (True/\0=Int.fdiv x y/\True/\0=Int.fmod x y/\True/\asT Int 14=0/\True) (((Canon (dig (Int.natAbs x))/\Canon (dig (Int.natAbs y))/\List.length (dig (Int.natAbs x))<=1000000000/\dig (Int.natAbs y)≠aF Nat)/\True)/\(List.length A₀<=1000000000/\True)/\(dH/\dH/\(A₁=true->A₁=true/\A₁=true/\True)/\(decide aQ=true->A₁=true)/\True)/\ifB (bif decide aQ then decide (x<0) != decide (y<0) else false) ((List.length (1::aF Int)≠0/\(asT Int 0<=1/\True)/\(Low A₂/\Low aK/\List.length A₂<=1000000000/\List.length aK<=1000000000)/\(Low (dig (Int.natAbs y))/\Low A₀/\List.length (dig (Int.natAbs y))<=1000000000/\List.length A₀<=List.length (dig (Int.natAbs y))/\val A₀<=val (dig (Int.natAbs y)))/\True)/\(Low (dig (val A₂+val aK))/\Low dF/\True)/\True/\sg dL (val (dig (val A₂+val aK)))=Int.fdiv x y/\True/\sg (decide (y<0)) (val dF)=Int.fmod x y/\True/\asT Int 0=0/\True) ((Low A₂/\Low A₀/\True)/\True/\sg dL (val A₂)=Int.fdiv x y/\True/\sg (decide (y<0)) (val A₀)=Int.fmod x y/\True/\asT Int 0=0/\True))) (by kernel_rfl) ?_
 have hZ:(⟨false,0,[],[]⟩:aH)=bC:=rfl
 try simp only[aC,aj,ah]
 try dsimp only[aB,asT,aA,aF,Ty.den,Lf.den] at *
 try simp only[hZ,Int.toNat_natCast,aC,aj,ah,jg,jf,gy,bg]
 try simp only[bT,bP,List.all_cons,List.all_nil,jh,dw,ig,je,jy,ne_eq,au,bn,dh,eu,jd,oh,jo,oq,jg,jf,iw,bf,List.length_cons,List.length_nil]
 obtain⟨l1,l2,hy⟩:isz x<=1000000000/\isz y<=1000000000/\y≠0:=hp
 have n0:0<y.natAbs:=by omega
 have hm:=Au x.natAbs n0
 simp only[aU,a9C,a1z,aj,beq_true]
 have lm:(dig (x.natAbs%y.natAbs)).length<=(dig y.natAbs).length:=aS (by omega)
 have lq:(dig (x.natAbs / y.natAbs)).length<=(dig x.natAbs).length:=aS (Nat.div_le_self _ _)
 have l1':(dig x.natAbs).length<=1000000000:=l1
 have l2':(dig y.natAbs).length<=1000000000:=l2
 refine⟨fun h=>absurd h (by omega),fun _=>⟨⟨dB _,dB _,l1,fun e=>by have:=gY.1 e;omega⟩,by omega,?_,fun h=>?_,fun h=>?_⟩⟩
 ·exact⟨fun h=>h,fun h=>h,fun h=>⟨h,h⟩,fun h=>tu (by rw[<-a9C];exact um h)⟩
 ·have hr:x.natAbs%y.natAbs≠0:=fun e=>by rw[e] at h;simp at h
  rw[um hr] at h
  have h:(decide (x<0) != decide (y<0))=true:=h
  obtain⟨a,b⟩:=WM (decide (x<0)) (decide (y<0)) x.natAbs y.natAbs n0 h hr
  rw[sgf,sgf] at a b
  rw[h]
  refine⟨⟨by decide,by omega,⟨bH _,fun g hg=>by rw[qw.1 hg];decide,by omega,by decide⟩,bH _,bH _,l2,lm,by omega⟩,⟨bH _,bH _⟩,?_,b.symm⟩
  exact a.symm
 ·refine⟨⟨bH _,bH _⟩,?_⟩
  cases hs:decide (x<0) != decide (y<0)
  ·have hs:decide (x<0)=decide (y<0):=by simpa using hs
   obtain⟨a,b⟩:=WO (decide (y<0)) x.natAbs y.natAbs n0
   rw[sgf,<-hs,sgf] at a b
   rw[<-hs]
   exact⟨a.symm,b.symm⟩
  ·have hr:x.natAbs%y.natAbs=0:=Decidable.byContradiction fun e=>by rw[um e,hs] at h;cases h
   obtain⟨a,b⟩:=RS (decide (x<0)) (decide (y<0)) x.natAbs y.natAbs n0 hs hr
   rw[sgf,sgf] at a b
   rw[hr,a0Q]
   exact⟨a.symm,b.symm⟩
theorem b7u {l:List Nat} (h:Canon l) (h2:l.length<=2):val l<18446744073709551616:=by
 have h1:=lN h.1
 have:BB ^ l.length<=BB ^ 2:=yc fV h2
 have:BB ^ 2=1000000000000000000:=by rw[bK]
 omega
abbrev GcO (x y:Int):={p:List Nat × List Nat // Canon p.1/\Canon p.2/\(isz x<=1000000000/\isz y<=1000000000->p.1.length<=1000000000/\p.2.length<=1000000000)/\Nat.gcd (val p.1) (val p.2)=Int.gcd x y}
abbrev GcI (x y:Int) (p:GcO x y):={q:Nat × Nat // (p.1.1.length<=2/\p.1.2.length<=2->q.1<18446744073709551616/\q.2<18446744073709551616)/\Nat.gcd q.1 q.2=Int.gcd x y}
noncomputable def c4Z:Ctr:=⟨[tI,tI],[tI],fun _=>True,fun x=>(bZ x.1 x.2.1,())⟩
theorem a9q:aI Tryz.prog 255 c4Z:=by
 intro F w vs x hF hvs hp
 obtain⟨v,vs',rfl,h1,u,vs'',rfl,h2,h3⟩:=hvs
 have h3:vs''=[]:=h3
 subst h3
 rw[a2e h1,a2e h2]
 refine(QV x.1 x.2.1 w).mono ?_
 rintro e w' ⟨rfl,rfl⟩
 exact⟨_,rfl,OD _,jk _ _⟩
theorem SI:aI Tryz.prog 182 (c3w bZ):=by
 refine aJ ((((nil0.ad nN).ad a1u).ad rF).ad a9q) ⟨[],[],[]⟩ Tryz.func182 rfl (by decide) (fun x=>[]) (fun x hp=>?_)
 obtain⟨x,y,u⟩:=x
 change Int at x
 change Int at y
 refine aT ((True/\True/\True)/\ifB (Int.sign x != Int.sign y) ((True/\True)/\True/\bZ (Int.sign x) (Int.sign y)=bZ x y/\True) ((True/\True/\(Canon (dig (Int.natAbs x))/\Canon (dig (Int.natAbs y)))/\True)/\ifB (decide (x<0)) (True/\IntKind.wrap IntKind.i64 (0-bZ (aB (val (dig (Int.natAbs x)))) (aB (val (dig (Int.natAbs y)))))=bZ x y/\True) (True/\bZ (aB (val (dig (Int.natAbs x)))) (aB (val (dig (Int.natAbs y))))=bZ x y/\True))) (by kernel_rfl) ?_
 have hZ:(⟨false,0,[],[]⟩:aH)=bC:=rfl
 try simp only[aC,aj,ah]
 try dsimp only[aB,asT,aA,aF,Ty.den,Lf.den] at *
 try simp only[hZ,Int.toNat_natCast,aC,aj,ah,jg,jf,gy,bg]
 try simp only[bT,bP,List.all_cons,List.all_nil,jh,dw,ig,je,jy,ne_eq,au,bn,dh,eu,jd,oh,jo,oq,jg,jf,iw,bf,List.length_cons,List.length_nil]
 simp only[aU]
 refine⟨fun h=>a7j (by simpa using h),fun h=>?_⟩
 have hs:x.sign=y.sign:=by simpa using h
 have ha:=a9p hs (decide (x<0)) (fun _=>rfl)
 have hb:=b3L (x.natAbs:Nat) (y.natAbs:Nat)
 refine⟨⟨dB _,dB _⟩,fun h1=>?_,fun h1=>?_⟩
 ·rw[jq (um h1)] at ha
  rw[IntKind.wrap_i64,<-ha];omega
 ·rw[lg h1] at ha
  exact ha
theorem IU:aI Tryz.prog 213 (cZ2 fun x y=>((Int.gcd x y:Nat):Int)):=by
 refine aJ ((((((nil0.ad nN).ad BG).ad a2B).ad KW).ad a8w).ad b3x) ⟨[4],[],[]⟩ Tryz.func213 rfl (by decide) (fun x=>[.inv (GcO x.1 x.2.1) (fun p=>[(5,.val tG p.1.1),(6,.val tG p.1.2)]) (fun p=>[(4,.box [⟨tZ,(0:Int)⟩])]) (fun p=>val p.1.2) ⟨(dig (Int.natAbs x.1),dig (Int.natAbs x.2.1)),dB _,dB _,fun h=>h,by rw[aU,aU];rfl⟩ (fun p=>[
  .inv (GcI x.1 x.2.1 p) (fun q=>[(7,.val tU (q.1.1:Int)),(9,.val tU (q.1.2:Int))]) (fun q=>[(4,.box [⟨tZ,(0:Int)⟩])]) (fun q=>q.1.2) ⟨(val p.1.1,val p.1.2),fun h=>⟨b7u p.2.1 h.1,b7u p.2.2.1 h.2⟩,p.2.2.2.2⟩ (fun _=>[])])]) (fun x hp=>?_)
 obtain⟨x,y,u⟩:=x
 change Int at x
 change Int at y
 refine aT ((True/\True/\True)/\(dig (Int.natAbs x)=dig (Int.natAbs x)/\dig (Int.natAbs y)=dig (Int.natAbs y)/\asT Int 0=0/\True)/\∀ (i:GcO x y),let A₁:=(if List.length (aA i).2<=2 then (aB (val (aA i).2),true,()) else (0,false,()));let A₂:=(val (aA i).1);let A₀:=(if List.length (aA i).1<=2 then (aB A₂,true,()) else (0,false,()));asT Bool true=true/\ifB (decide (aB (aA i).2.length > 0)) ((Low (aA i).1/\True)/\(Low (aA i).2/\True)/\((Prod.fst A₀.2=true->(Prod.fst A₀.2==true)=true)/\True)/\ifB (bif Prod.fst A₀.2 then Prod.fst A₁.2 else false) ((Prod.fst A₀=aB A₂/\Prod.fst A₁=aB (val (aA i).2)/\asT Int 0=0/\True)/\∀ (i_1:GcI x y i),let aK:=(aB (aA i_1).1);asT Bool true=true/\ifB (decide (aB (aA i_1).2 > 0)) ((aB (aA i_1).2≠0/\True)/\∃ (i':GcI x y i),Prod.snd (aA i')<Prod.snd (aA i_1)/\aB (aA i_1).2=aB (aA i').1/\Int.tmod aK (aB (aA i_1).2)=aB (aA i').2/\asT Int 0=0/\True) (((0<=aB (aA i_1).1/\aB (aA i_1).1<18446744073709551616)/\Low (dig aK.toNat)/\True)/\True/\sg false (val (dig aK.toNat))=aB (Int.gcd x y)/\True)) (((Canon (aA i).1/\Canon (aA i).2/\List.length (aA i).1<=1000000000/\Prod.snd (aA i)≠aF Nat)/\True)/\∃ (i':GcO x y),val (aA i').2<val (aA i).2/\Prod.snd (aA i)=Prod.fst (aA i')/\dig (val (aA i).1%val (aA i).2)=Prod.snd (aA i')/\asT Int 0=0/\True)) ((List.length (aA i).1<=1000000000/\Low (aA i).1/\True)/\True/\sg false A₂=aB (Int.gcd x y)/\True)) (by kernel_rfl) ?_
 have hZ:(⟨false,0,[],[]⟩:aH)=bC:=rfl
 try simp only[aC,aj,ah]
 try dsimp only[aB,asT,aA,aF,Ty.den,Lf.den] at *
 try simp only[hZ,Int.toNat_natCast,aC,aj,ah,jg,jf,gy,bg]
 try simp only[bT,bP,List.all_cons,List.all_nil,jh,dw,ig,je,jy,ne_eq,au,bn,dh,eu,jd,oh,jo,oq,jg,jf,iw,bf,List.length_cons,List.length_nil]
 have hp:isz x<=1000000000/\isz y<=1000000000:=hp
 rintro⟨⟨a,b⟩,c1,c2,hl,hg⟩
 obtain⟨la,lb⟩:=hl hp
 have c1:Canon a:=c1
 have c2:Canon b:=c2
 have hg:Nat.gcd (val a) (val b)=Int.gcd x y:=hg
 have la:a.length<=1000000000:=la
 have lb:b.length<=1000000000:=lb
 simp only
 refine⟨fun h=>⟨c1.1,c2.1,?_,fun h2=>?_,fun h2=>?_⟩,fun h=>⟨⟨la,c1.1⟩,?_⟩⟩
 ·intro h;rw[h];rfl
 ·have s1:a.length<=2:=Decidable.byContradiction fun e=>by rw[ji e] at h2;cases h2
  have s2:b.length<=2:=Decidable.byContradiction fun e=>by rw[jq s1,ji e] at h2;cases h2
  rw[jq s1,jq s2]
  refine⟨⟨rfl,rfl⟩,?_⟩
  rintro⟨⟨m,n⟩,hb,hg2⟩
  have hb:m<18446744073709551616/\n<18446744073709551616:=hb ⟨s1,s2⟩
  have hg2:Nat.gcd m n=Int.gcd x y:=hg2
  simp only
  refine⟨fun h3=>⟨by omega,⟨(n,m%n),fun _=>⟨hb.2,Nat.lt_of_le_of_lt (Nat.mod_le _ _) hb.1⟩,?_⟩,Au _ (by omega),rfl,rfl⟩,fun h3=>⟨⟨by omega,bH _⟩,?_⟩⟩
  ·show Nat.gcd n (m%n)=_
   rw[<-hg2,Nat.gcd_comm m n,Nat.gcd_rec n m,Nat.gcd_comm]
  ·rw[aU,<-hg2,show n=0 by omega,Nat.gcd_zero_right];rfl
 ·have hb0:b≠[]:=fun e=>by rw[e] at h;exact absurd h (by decide)
  have hv:0<val b:=Nat.pos_of_ne_zero fun e=>hb0 (by rw[<-dO c2,e];exact gY.2 rfl)
  have hlt:=Au (val a) hv
  refine⟨⟨c1,c2,la,hb0⟩,⟨(b,dig (val a%val b)),c2,dB _,fun _=>⟨lb,?_⟩,?_⟩,?_,rfl,rfl⟩
  ·have:=aS (show val a%val b<=val b by omega)
   rw[dO c2] at this
   exact jl this lb
  ·show Nat.gcd (val b) (val (dig (val a%val b)))=_
   rw[aU,<-hg,Nat.gcd_comm (val a),Nat.gcd_rec (val b) (val a),Nat.gcd_comm]
  ·show val (dig (val a%val b))<val b
   rw[aU];exact hlt
 ·have:b=[]:=ql (by omega)
  rw[<-hg,this]
  show _=((Nat.gcd (val a) 0:Nat):Int)
  rw[Nat.gcd_zero_right];rfl
set_option maxHeartbeats 4000000
def KX (x y:Rat):Int:=if x<y then -1 else if y<x then 1 else 0
theorem b3M (x y:Rat):bZ (x.num*y.den) (y.num*x.den)=KX x y:=by
 unfold bZ KX
 simp only[a4d]
set_option maxHeartbeats 1000000
theorem c4l:isz 1=1:=by decide +kernel
theorem a0p {x:Int} (h:bU x):isz x<=3:=uN (by obtain⟨a,b⟩:=h;rw[bK];omega)
theorem b3W (q:Rat):(0:Int)<(q.den:Int):=lI q
theorem EY (q:Rat):((q.den:Nat):Int)≠0:=by have:=lI q;omega
theorem a3O (q:Rat):Rat.divInt q.num (q.den:Int)=q:=Rat.num_divInt_den q
theorem b1A (q:Rat):Rat.divInt (-q.num) (q.den:Int)=-q:=by
 have:=a3O (-q)
 rwa [BP,BO] at this
theorem sz8 {q:Rat} {K:Nat} (h:rsz q<=K):isz q.num<=K/\isz (q.den:Int)<=K:=⟨jl (nD q) h,jl (kP q) h⟩
theorem JH {x y:Int} {K L:Nat} (hx:isz x<=K) (hy:isz y<=L):isz (x*y)<=K+L:=by have:=gK x y;omega
theorem c2i {x:Int}:(x.sign==0)=decide (x=0):=by
 by_cases h:x=0
 ·subst h;rfl
 ·rw[lg h];exact dh.mpr fun e=>h (Int.sign_eq_zero_iff_zero.1 e)
theorem c3y (n:Nat):(bZ (n:Int) 1==0)=decide (n=1):=by
 unfold bZ
 rcases Nat.lt_trichotomy n 1 with h|h|h
 ·rw[jq (by omega),lg (by omega)];rfl
 ·rw[ji (by omega),ji (by omega),um h];rfl
 ·rw[ji (by omega),jq (by omega),lg (by omega)];rfl
theorem rd8 {x y a b:Int} (h:a=(Rat.divInt x y).num/\b=((Rat.divInt x y).den:Int)):0<b/\Int.gcd a b=1/\Rat.divInt a b=Rat.divInt x y:=by
 rw[h.1,h.2]
 exact⟨b3W _,JU _,a3O _⟩
abbrev tV:Ty:=.lf .FX
def cIV:Ctr:=⟨[tV],[tB],fun x=>True,fun x=>((show gZ from x.1).ok,())⟩
theorem a8Y {f:FuncId} (h:∀ (v:Value) (ok:Bool) (x:Int) (w:World),kV w v ok x->Calls Tryz.prog f #[v] w (fun e w'=>e=.returned (.bool ok)/\Below w.heap.size w w')):aI Tryz.prog f cIV:=by
 intro F w vs x hF hvs hp
 obtain⟨v,vs',rfl,h1,h3⟩:=hvs
 have h3:vs'=[]:=h3
 subst h3
 obtain⟨cs,rfl,b,p,c,rfl,h2,_⟩:=h1
 refine(h _ _ _ w h2).mono ?_
 rintro e w' ⟨rfl,hb⟩
 exact⟨_,rfl,UU _,hb⟩
theorem YX:aI Tryz.prog 175 cIZ:=(a3q fun x w h0 h1=>b1C x w h0 h1)
theorem b7z:aI Tryz.prog 212 cIV:=(a8Y fun v ok x w h=>a4E v ok x w h)
abbrev tP:Ty:=.pair tV (.pair tV .unit)
def a3e (x y:gZ):Bool:=x.ok&&(y.ok&&(decide (0<y.x)&&decide (Int.gcd x.x y.x=1)))
def b7K (K:Nat):Ctr:=⟨[tP],[tB],fun x=>isz (show gZ from x.1.1).x<=K/\isz (show gZ from x.1.2.1).x<=K,fun x=>(a3e x.1.1 x.1.2.1,())⟩
theorem b6s:aI Tryz.prog 126 (b7K 1000000000):=by
 refine aJ (((((nil0.ad YX).ad IU).ad rF).ad SI).ad b7z) ⟨[],[],[]⟩ Tryz.func126 rfl (by decide) (fun x=>[]) (fun x hp=>?_)
 obtain⟨x,u⟩:=x
 change gZ × gZ × Unit at x
 refine aT (let A₁:=(asT gZ x.1);let A₂:=(asT gZ x.2.1);let A₀:=(bif !gZ.ok A₁ then true else !gZ.ok A₂);let aK:=((!gZ.ok A₁)==false);let aQ:=((A₀==false)=true->(A₀==false)=true/\True);let dF:=(aK=true->aK=true/\True);(True/\dF/\(aK=true->aK=true/\True/\True)/\dF/\((!gZ.ok A₁)=false->aK=true)/\aQ/\((A₀==false)=true->(A₀==false)=true/\gZ.ok A₂=true/\True/\True)/\aQ/\(A₀=false->(A₀==false)=true)/\True)/\ifB (bif bif !gZ.ok A₁ then true else !gZ.ok A₂ then true else decide (Int.sign (gZ.x A₂)<=0)) (True/\false=a3e A₁ A₂/\True) ((gZ.ok A₁=true/\gZ.ok A₂=true/\(isz (gZ.x A₁)<=1000000000/\isz (gZ.x A₂)<=1000000000)/\bU 1/\True/\True)/\True/\(bZ (aB (Int.gcd (gZ.x A₁) (gZ.x A₂))) 1==0)=a3e A₁ A₂/\True)) (by kernel_rfl) ?_
 have hZ:(⟨false,0,[],[]⟩:aH)=bC:=rfl
 try simp only[aC,aj,ah]
 try dsimp only[aB,asT,aA,aF,Ty.den,Lf.den] at *
 try simp only[hZ,Int.toNat_natCast,aC,aj,ah,jg,jf,gy,bg]
 try simp only[bT,bP,List.all_cons,List.all_nil,jh,dw,ig,je,jy,ne_eq,au,bn,dh,eu,jd,oh,jo,oq,jg,jf,iw,bf,List.length_cons,List.length_nil]
 obtain⟨⟨o1,n,g⟩,⟨o2,d,h⟩,u⟩:=x
 have e:(d.sign<=0)=¬ 0<d:=propext (by rw[<-Int.sign_pos_iff];omega)
 simp only[e,c3y,a3e] at *
 cases o1<;>cases o2<;>simp
 by_cases hd:0<d
 ·simp[hd]
  exact⟨fun h=>absurd hd (by omega),hp,by omega,by omega⟩
 ·simp[hd]
noncomputable def c5G:Ctr:=⟨[tZ,tZ],[tQ],fun x=>isz x.1<=1000000000/\isz x.2.1<=1000000000/\(show Int from x.2.1)≠0,fun x=>(Rat.divInt x.1 x.2.1,())⟩
theorem QA:aI Tryz.prog 180 c5G:=by
 refine aJ ((((nil0.ad IU).ad AX).ad rF).ad SK) ⟨[4,5,2,3],[],[]⟩ Tryz.func180 rfl (by decide) (fun x=>[]) (fun x hp=>?_)
 obtain⟨x,y,u⟩:=x
 change Int at x
 change Int at y
 refine aT (let A₀:=(aB (Int.gcd (-x) (-y)));let A₁:=(Int.fdiv x (aB (Int.gcd x y)));let A₂:=(Int.fdiv y (aB (Int.gcd x y)));(True/\True)/\ifB (decide (Int.sign y<0)) ((isz x<=1000000000/\isz y<=1000000000/\True)/\((isz (-x)<=1000000000/\isz (-y)<=1000000000)/\True)/\((isz (-x)<=1000000000/\isz A₀<=1000000000/\aB (Int.gcd (-x) (-y))≠0)/\True)/\((isz (-y)<=1000000000/\isz A₀<=1000000000/\aB (Int.gcd (-x) (-y))≠0)/\True)/\(0<Int.fdiv (-y) A₀/\Int.gcd (Int.fdiv (-x) A₀) (Int.fdiv (-y) A₀)=1/\True)/\Rat.divInt (Int.fdiv (-x) A₀) (Int.fdiv (-y) A₀)=Rat.divInt x y/\True) (((isz x<=1000000000/\isz y<=1000000000)/\True)/\((isz x<=1000000000/\isz (aB (Int.gcd x y))<=1000000000/\aB (Int.gcd x y)≠0)/\True)/\((isz y<=1000000000/\isz (aB (Int.gcd x y))<=1000000000/\aB (Int.gcd x y)≠0)/\True)/\(0<Int.fdiv y (aB (Int.gcd x y))/\Int.gcd A₁ A₂=1/\True)/\Rat.divInt A₁ A₂=Rat.divInt x y/\True)) (by kernel_rfl) ?_
 have hZ:(⟨false,0,[],[]⟩:aH)=bC:=rfl
 try simp only[aC,aj,ah]
 try dsimp only[aB,asT,aA,aF,Ty.den,Lf.den] at *
 try simp only[hZ,Int.toNat_natCast,aC,aj,ah,jg,jf,gy,bg]
 try simp only[bT,bP,List.all_cons,List.all_nil,jh,dw,ig,je,jy,ne_eq,au,bn,dh,eu,jd,oh,jo,oq,jg,jf,iw,bf,List.length_cons,List.length_nil]
 obtain⟨l1,l2,hy⟩:isz x<=1000000000/\isz y<=1000000000/\y≠0:=hp
 have hy':-y≠0:=by omega
 refine⟨fun h=>⟨⟨l1,l2⟩,⟨by rw[jS];exact l1,by rw[jS];exact l2⟩,⟨by rw[jS];exact l1,lC hy' (by rw[jS];exact l2),gcd_ne hy'⟩,⟨by rw[jS];exact l2,lC hy' (by rw[jS];exact l2),gcd_ne hy'⟩,?_⟩,fun h=>⟨⟨l1,l2⟩,⟨l1,lC hy l2,gcd_ne hy⟩,⟨l2,lC hy l2,gcd_ne hy⟩,?_⟩⟩
 ·have:=rd8 (a0b (n:=x) (Int.sign_neg_iff.1 h))
  exact⟨⟨this.1,this.2.1⟩,this.2.2⟩
 ·have h0:¬ y<0:=fun e=>h (Int.sign_neg_iff.2 e)
  have:=rd8 (IG (n:=x) (show 0<y by omega))
  exact⟨⟨this.1,this.2.1⟩,this.2.2⟩
theorem b3N:aI Tryz.prog 256 (cZ1 fun x=>x):=by
 refine aJ ((nil0.ad YX).ad b7z) ⟨[2],[],[]⟩ Tryz.func256 rfl (by decide) (fun x=>[]) (fun x hp=>?_)
 obtain⟨x,u⟩:=x
 change Int at x
 refine aT ((True/\True)/\True/\x=x/\True) (by kernel_rfl) ?_
 exact⟨⟨trivial,trivial⟩,trivial,rfl,trivial⟩
theorem yX:aI Tryz.prog 90 (cIQ bU (fun i=>(i:Rat))):=by
 refine aJ (nil0.ad YX) ⟨[2],[],[]⟩ Tryz.func90 rfl (by decide) (fun x=>[]) (fun x hp=>?_)
 obtain⟨n,u⟩:=x
 change Int at n
 refine aT ((bU n/\bU 1/\True)/\(asT Int 0<1/\Int.gcd n 1=1/\True)/\Rat.divInt n 1=aV n/\True) (by kernel_rfl) ?_
 have hZ:(⟨false,0,[],[]⟩:aH)=bC:=rfl
 try simp only[aC,aj,ah]
 try dsimp only[aB,asT,aA,aF,Ty.den,Lf.den] at *
 try simp only[hZ,Int.toNat_natCast,aC,aj,ah,jg,jf,gy,bg]
 try simp only[bT,bP,List.all_cons,List.all_nil,jh,dw,ig,je,jy,ne_eq,au,bn,dh,eu,jd,oh,jo,oq,jg,jf,iw,bf,List.length_cons,List.length_nil]
 exact⟨⟨hp,by omega,by omega⟩,⟨by omega,Int.gcd_one_right _⟩,by rw[show (1:Int)=((1:Nat):Int) from rfl,Rat.divInt_ofNat];exact Rat.mkRat_one n⟩
theorem b3R:aI Tryz.prog 250 (cQ1 (fun x=>rsz x<=1000000000) (fun x=>x)):=by
 refine aJ (nil0.ad AX) ⟨[2],[],[]⟩ Tryz.func250 rfl (by decide) (fun x=>[]) (fun x hp=>?_)
 obtain⟨x,u⟩:=x
 change Rat at x
 refine aT ((isz (Rat.num x)<=1000000000/\isz (-Rat.num x)<=1000000000/\isz (aB (Rat.den x))<=1000000000/\isz (-aB (Rat.den x))<=1000000000/\True)/\(0 < - -aB (Rat.den x)/\Int.gcd (- -Rat.num x) (- -aB (Rat.den x))=1/\True)/\Rat.divInt (- -Rat.num x) (- -aB (Rat.den x))=x/\True) (by kernel_rfl) ?_
 have hZ:(⟨false,0,[],[]⟩:aH)=bC:=rfl
 try simp only[aC,aj,ah]
 try dsimp only[aB,asT,aA,aF,Ty.den,Lf.den] at *
 try simp only[hZ,Int.toNat_natCast,aC,aj,ah,jg,jf,gy,bg]
 try simp only[bT,bP,List.all_cons,List.all_nil,jh,dw,ig,je,jy,ne_eq,au,bn,dh,eu,jd,oh,jo,oq,jg,jf,iw,bf,List.length_cons,List.length_nil]
 obtain⟨a,b⟩:=sz8 (show rsz x<=1000000000 from hp)
 simp only[Int.neg_neg,jS]
 exact⟨⟨a,a,b,b⟩,⟨b3W x,JU x⟩,a3O x⟩
theorem b3t {f:FuncId} {K:Nat} (hf:aI Tryz.prog f (b7K K)):aI Tryz.prog f (cVal K):=fun F w vs x hF hvs hp=>by
 obtain⟨v,vs',rfl,h1,h3⟩:=hvs
 have h3:vs'=[]:=h3
 subst h3
 obtain⟨cs,rfl,b,p,c,b',p',c',rfl,h2,h4,h5⟩:=h1
 obtain⟨_,_,_,_,o1,o2,n,d,e,k1,k2,k3,_⟩:=h2
 simp only[Value.agg.injEq,Array.mk.injEq,List.cons.injEq,jf] at e
 obtain⟨rfl,rfl,rfl,rfl⟩:=e
 rw[show (cVal K).fn x=(a3e ⟨o1,n,(show aH from x.1).g⟩ ⟨o2,d,(show aH from x.1).h⟩,()) from xq (fun o=>(o,())) k3]
 exact hf F w _ ((⟨o1,n,(show aH from x.1).g⟩,⟨o2,d,(show aH from x.1).h⟩,()),()) hF ⟨_,_,rfl,⟨_,rfl,[.bool b,.slice p (aH.n x.1) c],[.bool b',.slice p' (aH.m x.1) c'],rfl,⟨b,p,c,rfl,k1,h4⟩,[.bool b',.slice p' (aH.m x.1) c'],[],rfl,⟨b',p',c',rfl,k2,h5⟩,rfl⟩,rfl⟩ ⟨jl k1.raw.len hp.1,jl k2.raw.len hp.2⟩
theorem a0Z:aI Tryz.prog 126 (cVal 1000000000):=b3t b6s
theorem EH:aI Tryz.prog 178 (cQ1 (fun x=>rsz x<=1000000000) (fun x=>x)):=by
 refine aJ (((nil0.ad yX).ad b3R).ad a0Z) ⟨[2],[],[]⟩ Tryz.func178 rfl (by decide) (fun x=>[]) (fun x hp=>?_)
 obtain⟨x,u⟩:=x
 change Rat at x
 refine aT (((aH.n (dP x)<=1000000000/\aH.m (dP x)<=1000000000)/\True)/\(rsz x<=1000000000/\True)/\True/\x=x/\True) (by kernel_rfl) ?_
 have hZ:(⟨false,0,[],[]⟩:aH)=bC:=rfl
 try simp only[aC,aj,ah]
 try dsimp only[aB,asT,aA,aF,Ty.den,Lf.den] at *
 try simp only[hZ,Int.toNat_natCast,aC,aj,ah,jg,jf,gy,bg]
 try simp only[bT,bP,List.all_cons,List.all_nil,jh,dw,ig,je,jy,ne_eq,au,bn,dh,eu,jd,oh,jo,oq,jg,jf,iw,bf,List.length_cons,List.length_nil]
 have hp:rsz x<=1000000000:=hp
 obtain⟨a,b⟩:=sz8 hp
 exact⟨⟨a,b⟩,hp⟩
theorem a0d:aI Tryz.prog 183 (cNew 1000000000 14):=by
 refine aJ (((nil0.ad rF).ad QA).ad b3N) ⟨[4,2,3],[],[]⟩ Tryz.func183 rfl (by decide) (fun x=>[]) (fun x hp=>?_)
 obtain⟨x,y,u⟩:=x
 change Int at x
 change Int at y
 refine aT ((isz x<=1000000000/\isz y<=1000000000/\True)/\(True/\True)/\ifB (Int.sign y==0) (True/\bC=Prod.fst (newT 14 x y)/\True/\14=Prod.fst (newT 14 x y).2/\True) (((isz x<=1000000000/\isz y<=1000000000/\y≠0)/\True)/\True/\dP (Rat.divInt x y)=Prod.fst (newT 14 x y)/\True/\0=Prod.fst (newT 14 x y).2/\True)) (by kernel_rfl) ?_
 have hZ:(⟨false,0,[],[]⟩:aH)=bC:=rfl
 try simp only[aC,aj,ah]
 try dsimp only[aB,asT,aA,aF,Ty.den,Lf.den] at *
 try simp only[hZ,Int.toNat_natCast,aC,aj,ah,jg,jf,gy,bg]
 try simp only[bT,bP,List.all_cons,List.all_nil,jh,dw,ig,je,jy,ne_eq,au,bn,dh,eu,jd,oh,jo,oq,jg,jf,iw,bf,List.length_cons,List.length_nil]
 obtain⟨l1,l2⟩:isz x<=1000000000/\isz y<=1000000000:=hp
 rw[c2i]
 refine⟨⟨l1,l2⟩,fun h=>?_,fun h=>?_⟩
 ·unfold newT;rw[jq (tu h)];exact⟨rfl,rfl⟩
 ·unfold newT;rw[ji (ru h)];exact⟨⟨l1,l2,ru h⟩,rfl,rfl⟩
theorem a5u:aI Tryz.prog 147 a8X:=by
 refine aJ ((nil0.ad YX).ad a0d) ⟨[4],[],[]⟩ Tryz.func147 rfl (by decide) (fun x=>[]) (fun x hp=>?_)
 obtain⟨x,y,u⟩:=x
 change Int at x
 change Int at y
 refine aT ((bU x/\bU y/\(isz x<=1000000000/\isz y<=1000000000)/\True)/\(aH.ok (newT 14 x y).1=true/\True)/\aH.x (newT 14 x y).1=Rat.divInt x y/\True/\Prod.fst (newT 14 x y).2=0/\True) (by kernel_rfl) ?_
 have hZ:(⟨false,0,[],[]⟩:aH)=bC:=rfl
 try simp only[aC,aj,ah]
 try dsimp only[aB,asT,aA,aF,Ty.den,Lf.den] at *
 try simp only[hZ,Int.toNat_natCast,aC,aj,ah,jg,jf,gy,bg]
 try simp only[bT,bP,List.all_cons,List.all_nil,jh,dw,ig,je,jy,ne_eq,au,bn,dh,eu,jd,oh,jo,oq,jg,jf,iw,bf,List.length_cons,List.length_nil]
 obtain⟨h1,h2,h3⟩:bU x/\bU y/\y≠0:=hp
 rw[show newT 14 x y=(dP (Rat.divInt x y),0,()) from ji h3]
 exact⟨⟨h1,h2,jl (a0p h1) (by omega),jl (a0p h2) (by omega)⟩,rfl,rfl,rfl⟩
theorem PG:aI Tryz.prog 127 (cQI (fun x=>rsz x<=1000000000) (fun x=>sgn x.num)):=by
 refine aJ ((nil0.ad rF).ad EH) ⟨[],[],[]⟩ Tryz.func127 rfl (by decide) (fun x=>[]) (fun x hp=>?_)
 obtain⟨x,u⟩:=x
 change Rat at x
 refine aT ((rsz x<=1000000000/\True/\True)/\True/\Int.sign (Rat.num x)=sgn (Rat.num x)/\True) (by kernel_rfl) ?_
 have hZ:(⟨false,0,[],[]⟩:aH)=bC:=rfl
 try simp only[aC,aj,ah]
 try dsimp only[aB,asT,aA,aF,Ty.den,Lf.den] at *
 try simp only[hZ,Int.toNat_natCast,aC,aj,ah,jg,jf,gy,bg]
 try simp only[bT,bP,List.all_cons,List.all_nil,jh,dw,ig,je,jy,ne_eq,au,bn,dh,eu,jd,oh,jo,oq,jg,jf,iw,bf,List.length_cons,List.length_nil]
 exact⟨hp,rfl⟩
theorem a0c:aI Tryz.prog 172 (cQ1 s4 (fun x=>-x)):=by
 refine aJ ((nil0.ad AX).ad EH) ⟨[2,1],[],[]⟩ Tryz.func172 rfl (by decide) (fun x=>[]) (fun x hp=>?_)
 obtain⟨x,u⟩:=x
 change Rat at x
 refine aT ((rsz x<=1000000000/\True)/\(isz (Rat.num x)<=1000000000/\True)/\(0<aB (Rat.den x)/\Int.gcd (-Rat.num x) (aB (Rat.den x))=1/\True)/\Rat.divInt (-Rat.num x) (aB (Rat.den x))=-x/\True) (by kernel_rfl) ?_
 have hZ:(⟨false,0,[],[]⟩:aH)=bC:=rfl
 try simp only[aC,aj,ah]
 try dsimp only[aB,asT,aA,aF,Ty.den,Lf.den] at *
 try simp only[hZ,Int.toNat_natCast,aC,aj,ah,jg,jf,gy,bg]
 try simp only[bT,bP,List.all_cons,List.all_nil,jh,dw,ig,je,jy,ne_eq,au,bn,dh,eu,jd,oh,jo,oq,jg,jf,iw,bf,List.length_cons,List.length_nil]
 have hp:rsz x<=400000000:=hp
 obtain⟨a,b⟩:=sz8 hp
 exact⟨by omega,by omega,⟨b3W x,by have:=JU (-x);rwa [BP,BO] at this⟩,b1A x⟩
theorem a0a:aI Tryz.prog 173 (cQ2 s44 (·+·)):=by
 refine aJ ((((nil0.ad wW).ad a2b).ad QA).ad EH) ⟨[4,2,3],[],[]⟩ Tryz.func173 rfl (by decide) (fun x=>[]) (fun x hp=>?_)
 obtain⟨x,y,u⟩:=x
 change Rat at x
 change Rat at y
 refine aT ((rsz x<=1000000000/\rsz y<=1000000000/\True)/\((isz (Rat.num x)<=1000000000/\isz (aB (Rat.den y))<=1000000000)/\(isz (Rat.num y)<=1000000000/\isz (aB (Rat.den x))<=1000000000)/\(isz (Rat.num x*aB (Rat.den y))<=1000000000/\isz (Rat.num y*aB (Rat.den x))<=1000000000)/\(isz (aB (Rat.den x))<=1000000000/\isz (aB (Rat.den y))<=1000000000)/\(isz (Rat.num x*aB (Rat.den y)+Rat.num y*aB (Rat.den x))<=1000000000/\isz (aB (Rat.den x)*aB (Rat.den y))<=1000000000/\aB (Rat.den x)*aB (Rat.den y)≠0)/\True)/\True/\Rat.divInt (Rat.num x*aB (Rat.den y)+Rat.num y*aB (Rat.den x)) (aB (Rat.den x)*aB (Rat.den y))=x+y/\True) (by kernel_rfl) ?_
 have hZ:(⟨false,0,[],[]⟩:aH)=bC:=rfl
 try simp only[aC,aj,ah]
 try dsimp only[aB,asT,aA,aF,Ty.den,Lf.den] at *
 try simp only[hZ,Int.toNat_natCast,aC,aj,ah,jg,jf,gy,bg]
 try simp only[bT,bP,List.all_cons,List.all_nil,jh,dw,ig,je,jy,ne_eq,au,bn,dh,eu,jd,oh,jo,oq,jg,jf,iw,bf,List.length_cons,List.length_nil]
 obtain⟨l1,l2⟩:rsz x<=400000000/\rsz y<=400000000:=hp
 obtain⟨a,b⟩:=sz8 l1
 obtain⟨c,d⟩:=sz8 l2
 have m1:=JH a d
 have m2:=JH c b
 have m3:=JH b d
 have m4:=yA (x.num*y.den) (y.num*x.den)
 exact⟨⟨by omega,by omega⟩,⟨⟨by omega,by omega⟩,⟨by omega,by omega⟩,⟨by omega,by omega⟩,⟨by omega,by omega⟩,by omega,by omega,Ed (EY x) (EY y)⟩,a0B x y⟩
theorem PD:aI Tryz.prog 89 (cQ2 s44 (·*·)):=by
 refine aJ (((nil0.ad wW).ad QA).ad EH) ⟨[4,2,3],[],[]⟩ Tryz.func89 rfl (by decide) (fun x=>[]) (fun x hp=>?_)
 obtain⟨x,y,u⟩:=x
 change Rat at x
 change Rat at y
 refine aT ((rsz x<=1000000000/\rsz y<=1000000000/\True)/\((isz (Rat.num x)<=1000000000/\isz (Rat.num y)<=1000000000)/\(isz (aB (Rat.den x))<=1000000000/\isz (aB (Rat.den y))<=1000000000)/\(isz (Rat.num x*Rat.num y)<=1000000000/\isz (aB (Rat.den x)*aB (Rat.den y))<=1000000000/\aB (Rat.den x)*aB (Rat.den y)≠0)/\True)/\True/\Rat.divInt (Rat.num x*Rat.num y) (aB (Rat.den x)*aB (Rat.den y))=x*y/\True) (by kernel_rfl) ?_
 have hZ:(⟨false,0,[],[]⟩:aH)=bC:=rfl
 try simp only[aC,aj,ah]
 try dsimp only[aB,asT,aA,aF,Ty.den,Lf.den] at *
 try simp only[hZ,Int.toNat_natCast,aC,aj,ah,jg,jf,gy,bg]
 try simp only[bT,bP,List.all_cons,List.all_nil,jh,dw,ig,je,jy,ne_eq,au,bn,dh,eu,jd,oh,jo,oq,jg,jf,iw,bf,List.length_cons,List.length_nil]
 obtain⟨l1,l2⟩:rsz x<=400000000/\rsz y<=400000000:=hp
 obtain⟨a,b⟩:=sz8 l1
 obtain⟨c,d⟩:=sz8 l2
 have m1:=JH a c
 have m3:=JH b d
 exact⟨⟨by omega,by omega⟩,⟨⟨by omega,by omega⟩,⟨by omega,by omega⟩,by omega,by omega,Ed (EY x) (EY y)⟩,a0D x y⟩
theorem a5r:aI Tryz.prog 87 (b6D 400000000 14):=by
 refine aJ ((((nil0.ad wW).ad rF).ad QA).ad EH) ⟨[4,2,3],[],[]⟩ Tryz.func87 rfl (by decide) (fun x=>[]) (fun x hp=>?_)
 obtain⟨x,y,u⟩:=x
 change Rat at x
 change Rat at y
 refine aT ((rsz x<=1000000000/\rsz y<=1000000000/\True)/\(True/\True)/\ifB (Int.sign (Rat.num y)==0) (True/\bC=Prod.fst (VI 14 x y)/\True/\14=Prod.fst (VI 14 x y).2/\True) (((isz (Rat.num x)<=1000000000/\isz (aB (Rat.den y))<=1000000000)/\(isz (aB (Rat.den x))<=1000000000/\isz (Rat.num y)<=1000000000)/\(isz (Rat.num x*aB (Rat.den y))<=1000000000/\isz (aB (Rat.den x)*Rat.num y)<=1000000000/\aB (Rat.den x)*Rat.num y≠0)/\True)/\True/\dP (Rat.divInt (Rat.num x*aB (Rat.den y)) (aB (Rat.den x)*Rat.num y))=Prod.fst (VI 14 x y)/\True/\0=Prod.fst (VI 14 x y).2/\True)) (by kernel_rfl) ?_
 have hZ:(⟨false,0,[],[]⟩:aH)=bC:=rfl
 try simp only[aC,aj,ah]
 try dsimp only[aB,asT,aA,aF,Ty.den,Lf.den] at *
 try simp only[hZ,Int.toNat_natCast,aC,aj,ah,jg,jf,gy,bg]
 try simp only[bT,bP,List.all_cons,List.all_nil,jh,dw,ig,je,jy,ne_eq,au,bn,dh,eu,jd,oh,jo,oq,jg,jf,iw,bf,List.length_cons,List.length_nil]
 obtain⟨l1,l2⟩:rsz x<=400000000/\rsz y<=400000000:=hp
 obtain⟨a,b⟩:=sz8 l1
 obtain⟨c,d⟩:=sz8 l2
 have m1:=JH a d
 have m3:=JH b c
 rw[c2i]
 refine⟨⟨by omega,by omega⟩,fun h=>?_,fun h=>?_⟩
 ·unfold VI;rw[jq ((sJ y).1 (tu h))];exact⟨rfl,rfl⟩
 ·have h0:=ru h
  unfold VI;rw[ji (fun e=>h0 ((sJ y).2 e)),a0C]
  exact⟨⟨⟨by omega,by omega⟩,⟨by omega,by omega⟩,by omega,by omega,Ed (EY x) h0⟩,rfl,rfl⟩
theorem b4d:aI Tryz.prog 128 (b3E s44 KX):=by
 refine aJ (((nil0.ad wW).ad SI).ad EH) ⟨[2,3],[],[]⟩ Tryz.func128 rfl (by decide) (fun x=>[]) (fun x hp=>?_)
 obtain⟨x,y,u⟩:=x
 change Rat at x
 change Rat at y
 refine aT ((rsz x<=1000000000/\rsz y<=1000000000/\True)/\((isz (Rat.num x)<=1000000000/\isz (aB (Rat.den y))<=1000000000)/\(isz (Rat.num y)<=1000000000/\isz (aB (Rat.den x))<=1000000000)/\True/\True)/\True/\bZ (Rat.num x*aB (Rat.den y)) (Rat.num y*aB (Rat.den x))=KX x y/\True) (by kernel_rfl) ?_
 have hZ:(⟨false,0,[],[]⟩:aH)=bC:=rfl
 try simp only[aC,aj,ah]
 try dsimp only[aB,asT,aA,aF,Ty.den,Lf.den] at *
 try simp only[hZ,Int.toNat_natCast,aC,aj,ah,jg,jf,gy,bg]
 try simp only[bT,bP,List.all_cons,List.all_nil,jh,dw,ig,je,jy,ne_eq,au,bn,dh,eu,jd,oh,jo,oq,jg,jf,iw,bf,List.length_cons,List.length_nil]
 obtain⟨l1,l2⟩:rsz x<=400000000/\rsz y<=400000000:=hp
 obtain⟨a,b⟩:=sz8 l1
 obtain⟨c,d⟩:=sz8 l2
 exact⟨⟨by omega,by omega⟩,⟨⟨by omega,by omega⟩,by omega,by omega⟩,b3M x y⟩
theorem a5x:aI Tryz.prog 186 (cQ2 s44 (·-·)):=by
 refine aJ ((nil0.ad a0c).ad a0a) ⟨[4],[],[]⟩ Tryz.func186 rfl (by decide) (fun x=>[]) (fun x hp=>?_)
 obtain⟨x,y,u⟩:=x
 change Rat at x
 change Rat at y
 refine aT ((s4 y/\s44 x (-y)/\True)/\True/\x+-y=x-y/\True) (by kernel_rfl) ?_
 have hZ:(⟨false,0,[],[]⟩:aH)=bC:=rfl
 try simp only[aC,aj,ah]
 try dsimp only[aB,asT,aA,aF,Ty.den,Lf.den] at *
 try simp only[hZ,Int.toNat_natCast,aC,aj,ah,jg,jf,gy,bg]
 try simp only[bT,bP,List.all_cons,List.all_nil,jh,dw,ig,je,jy,ne_eq,au,bn,dh,eu,jd,oh,jo,oq,jg,jf,iw,bf,List.length_cons,List.length_nil]
 obtain⟨l1,l2⟩:rsz x<=400000000/\rsz y<=400000000:=hp
 obtain⟨a,b⟩:=sz8 l1
 obtain⟨c,d⟩:=sz8 l2
 exact⟨⟨l2,l1,by rw[QG];exact l2⟩,(Rat.sub_eq_add_neg x y).symm⟩
set_option maxRecDepth 20000
noncomputable def LCa:Lib:=((((((((Lib.nil
 ).add 90 (cIQ bU (fun i=>(i:Rat))) yX
 ).add 126 (cVal 1000000000) a0Z
 ).add 173 (cQ2 s44 (·+·)) a0a
 ).add 89 (cQ2 s44 (·*·)) PD
 ).add 186 (cQ2 s44 (·-·)) a5x
 ).add 128 (b3E s44 KX) b4d
 ).add 87 (b6D 400000000 14) a5r
 ).add 127 (cQI (fun x=>rsz x<=1000000000) (fun x=>sgn x.num)) PG
end Go.Proofs.YtbkocjmmbkifjaaGreat
