/-
  Lemmas for the theorem vdecomposes28_holds, part 22 of 34.
-/
import Derived.Test.YtbkocjmmbkifjaaGreatQd21
namespace Go.Proofs.YtbkocjmmbkifjaaGreat
open Go Go.RowKit
set_option maxRecDepth 100000
set_option maxHeartbeats 1000000
set_option linter.unusedVariables false
set_option linter.unusedSimpArgs false
theorem a8p {f:FuncId} {pre:LN->LN->Prop} [∀ x y,Dc (pre x y)] {g:LN->LN->LN} (h:∀ (s t:Value) (a b:LN) (w:World),Rd w s a->Rd w t b->pre a b->Calls Tryz.prog f #[s,t] w (a8b (g a b) w)):aH Tryz.prog f (cGG pre g):=by
 intro F w vs x hF hvs hp
 obtain⟨v,vs',rfl,h1,u,vs'',rfl,h2,h3⟩:=hvs
 have h3:vs''=[]:=h3
 subst h3
 refine(h v u x.1 x.2.1 w (oP h1) (oP h2) hp).mono ?_
 rintro e w' ⟨r,rfl,hr,_,hb⟩
 exact⟨r,rfl,EY hr,hb⟩
noncomputable def c5u:Ctr:=⟨[tB,tG],[tZ],fun x=>Low x.2.1/\(show LN from x.2.1).length<=2000000001,fun x=>(sg x.1 (val x.2.1),())⟩
theorem MH:aH Tryz.prog 115 c5u:=by
 intro F w vs x hF hvs hp
 obtain⟨v,vs',rfl,h1,u,vs'',rfl,h2,h3⟩:=hvs
 have h3:vs''=[]:=h3
 subst h3
 rw[a2U h1]
 refine(iD x.1 u x.2.1 w (oP h2) hp.1 hp.2).mono ?_
 rintro e w' ⟨r,rfl,hr,hb⟩
 exact⟨r,rfl,YS hr,hb⟩
theorem nS:aH Tryz.prog 164 (cZ1 fun x=>x):=by
 intro F w vs x hF hvs hp
 obtain⟨v,vs',rfl,h1,h3⟩:=hvs
 have h3:vs'=[]:=h3
 subst h3
 refine(a3W v x.1 w (QS h1) hp).mono ?_
 rintro e w' ⟨r,rfl,hr,hb⟩
 exact⟨r,rfl,YS hr,hb⟩
noncomputable def c5x:Ctr:=⟨[tG,tG],[tG,tG],fun x=>Canon x.1/\Canon x.2.1/\(show LN from x.1).length<=1000000000/\(show LN from x.2.1)≠[],fun x=>(dig (val x.1 / val x.2.1),dig (val x.1%val x.2.1),())⟩
theorem a3O:aH Tryz.prog 215 c5x:=by
 intro F w vs x hF hvs hp
 obtain⟨v,vs',rfl,h1,u,vs'',rfl,h2,h3⟩:=hvs
 have h3:vs''=[]:=h3
 subst h3
 refine(FW v u x.1 x.2.1 w (oP h1) (oP h2) hp.1 hp.2.1 hp.2.2.1 hp.2.2.2).mono ?_
 rintro e w' ⟨r,s,rfl,hr,hs,hb⟩
 exact⟨_,rfl,⟨[_,_],rfl,_,_,rfl,EY hr,_,_,rfl,EY hs,rfl⟩,hb⟩
noncomputable def c5Y:Ctr:=⟨[tG,tG],[tI],fun x=>Canon x.1/\Canon x.2.1/\(show LN from x.1).length<=2000000000,fun x=>(bK (val x.1) (val x.2.1),())⟩
theorem a7G:aH Tryz.prog 240 c5Y:=by
 intro F w vs x hF hvs hp
 obtain⟨v,vs',rfl,h1,u,vs'',rfl,h2,h3⟩:=hvs
 have h3:vs''=[]:=h3
 subst h3
 refine(qQ v u x.1 x.2.1 w (oP h1) (oP h2) hp.1 hp.2.1 hp.2.2).mono ?_
 rintro e w' ⟨rfl,hb⟩
 exact⟨_,rfl,EZ _,hb⟩
theorem c4p:aH Tryz.prog 239 (cGG (fun a b=>Low a/\Low b/\a.length<=1000000000/\b.length<=1000000000) (fun a b=>dig (val a+val b))):=(a8p fun s t a b w hs ht h=>YE s t a b w hs ht h.1 h.2.1 h.2.2.1 h.2.2.2)
theorem c4q:aH Tryz.prog 241 (cGG (fun a b=>Low a/\Low b/\a.length<=1000000002/\b.length<=a.length/\val b<=val a) (fun a b=>dig (val a-val b))):=(a8p fun s t a b w hs ht h=>uU s t a b w hs ht h.1 h.2.1 h.2.2.1 h.2.2.2.1 h.2.2.2.2)
theorem OA:aH Tryz.prog 33 cIZ:=(a2X fun x w h0 h1=>yH x w h0 h1)
theorem ED:aH Tryz.prog 106 (cZ1 fun x=>-x):=by
 refine aI ((nil0.ad nS).ad MH) ⟨[2,1],[],[]⟩ Tryz.func106 rfl (by decide) (fun x=>[]) (fun x hp=>?_)
 obtain⟨x,u⟩:=x
 change Int at x
 refine aO ((isz x<=1000000000/\True)/\((Low (dig (Int.natAbs x))/\List.length (dig (Int.natAbs x))<=2000000001)/\True)/\True/\sg (!decide (x<0)) (val (dig (Int.natAbs x)))=-x/\True) (by kernel_rfl) ?_
 try simp only[zP0]
 try dsimp only[aB,asT,aA,aC,Ty.den,Lf.den] at *
 try simp only[zP1]
 have hp:isz x<=1000000000:=hp
 refine⟨hp,⟨bC _,by rw[c2S];omega⟩,?_⟩
 rw[aT]
 unfold sg
 by_cases h:x<0<;>simp[h]<;>omega
theorem wB:aH Tryz.prog 77 (c6k 1000000000 sgn):=by
 refine aI (nil0.ad nS) ⟨[1],[],[]⟩ Tryz.func77 rfl (by decide) (fun x=>[]) (fun x hp=>?_)
 obtain⟨x,u⟩:=x
 change Int at x
 refine aO ((isz x<=1000000000/\True)/\ifB (aB (dig (Int.natAbs x)).length==0) (True/\0=sgn x/\True) (ifB (decide (x<0)) (True/\-1=sgn x/\True) (True/\1=sgn x/\True))) (by kernel_rfl) ?_
 try simp only[zP0]
 try dsimp only[aB,asT,aA,aC,Ty.den,Lf.den] at *
 try simp only[zP1]
 rw[a1i]
 refine⟨hp,fun h=>?_,fun h=>⟨fun h1=>(qh h1).symm,fun h1=>?_⟩⟩
 ·rw[show x=0 by have:=og h;omega];rfl
 ·have:=yg h
  exact(uf (by omega)).symm
theorem a0M:aH Tryz.prog 163 (cZ2 fun x y=>x+y):=by
 refine aI (((((nil0.ad nS).ad MH).ad c4p).ad c4q).ad a7G) ⟨[4,2,3],[],[]⟩ Tryz.func163 rfl (by decide) (fun x=>[]) (fun x hp=>?_)
 obtain⟨x,y,u⟩:=x
 change Int at x
 change Int at y
 refine aO (let A₀:=(dig (val (dig (Int.natAbs x))+val (dig (Int.natAbs y))));let A₁:=(dig (val (dig (Int.natAbs x))-val (dig (Int.natAbs y))));let A₂:=(dig (val (dig (Int.natAbs y))-val (dig (Int.natAbs x))));(isz x<=1000000000/\isz y<=1000000000/\True)/\ifB (decide (x<0)==decide (y<0)) (((Low (dig (Int.natAbs x))/\Low (dig (Int.natAbs y))/\List.length (dig (Int.natAbs x))<=1000000000/\List.length (dig (Int.natAbs y))<=1000000000)/\(Low A₀/\List.length A₀<=2000000001)/\True)/\True/\sg (decide (x<0)) (val A₀)=x+y/\True) (((Canon (dig (Int.natAbs x))/\Canon (dig (Int.natAbs y))/\List.length (dig (Int.natAbs x))<=2000000000)/\True)/\ifB (decide (bK (aB (val (dig (Int.natAbs x)))) (aB (val (dig (Int.natAbs y)))) ≥ 0)) (((Low (dig (Int.natAbs x))/\Low (dig (Int.natAbs y))/\List.length (dig (Int.natAbs x))<=1000000002/\List.length (dig (Int.natAbs y))<=List.length (dig (Int.natAbs x))/\val (dig (Int.natAbs y))<=val (dig (Int.natAbs x)))/\(Low A₁/\List.length A₁<=2000000001)/\True)/\True/\sg (decide (x<0)) (val A₁)=x+y/\True) (((Low (dig (Int.natAbs y))/\Low (dig (Int.natAbs x))/\List.length (dig (Int.natAbs y))<=1000000002/\List.length (dig (Int.natAbs x))<=List.length (dig (Int.natAbs y))/\val (dig (Int.natAbs x))<=val (dig (Int.natAbs y)))/\(Low A₂/\List.length A₂<=2000000001)/\True)/\True/\sg (decide (y<0)) (val A₂)=x+y/\True))) (by kernel_rfl) ?_
 try simp only[zP0]
 try dsimp only[aB,asT,aA,aC,Ty.den,Lf.den] at *
 try simp only[zP1]
 obtain⟨l1,l2⟩:isz x<=1000000000/\isz y<=1000000000:=hp
 have d1:(dig x.natAbs).length<=1000000000:=l1
 have d2:(dig y.natAbs).length<=1000000000:=l2
 have d3:=a0o x.natAbs y.natAbs
 unfold nsz at d3
 have d4:=aQ (Nat.sub_le x.natAbs y.natAbs)
 have d5:=aQ (Nat.sub_le y.natAbs x.natAbs)
 have e:x+y=sg (decide (x<0)) x.natAbs+sg (decide (y<0)) y.natAbs:=by rw[sgf,sgf]
 simp only[aT]
 rw[e]
 refine⟨⟨l1,l2⟩,fun h=>⟨⟨⟨bC _,bC _,l1,l2⟩,bC _,by omega⟩,c4b h⟩,fun h=>⟨⟨bY _,bY _,by omega⟩,fun h3=>?_,fun h3=>?_⟩⟩
 ·have h4:=a4I h3
  have:=aQ h4
  exact⟨⟨⟨bC _,bC _,by omega,this,h4⟩,bC _,by omega⟩,c4c h h4⟩
 ·have h4:=a4J h3
  have:=aQ h4
  exact⟨⟨⟨bC _,bC _,by omega,this,h4⟩,bC _,by omega⟩,c4d h h4⟩
theorem a0P:aH Tryz.prog 214 (cZ2 fun x y=>x-y):=by
 refine aI ((nil0.ad a0M).ad ED) ⟨[4],[],[]⟩ Tryz.func214 rfl (by decide) (fun x=>[]) (fun x hp=>?_)
 obtain⟨x,y,u⟩:=x
 change Int at x
 change Int at y
 refine aO ((isz y<=1000000000/\(isz x<=1000000000/\isz (-y)<=1000000000)/\True)/\True/\x+-y=x-y/\True) (by kernel_rfl) ?_
 try simp only[zP0]
 try dsimp only[aB,asT,aA,aC,Ty.den,Lf.den] at *
 try simp only[zP1]
 obtain⟨l1,l2⟩:isz x<=1000000000/\isz y<=1000000000:=hp
 exact⟨⟨l2,l1,by rw[jJ];exact l2⟩,Int.sub_eq_add_neg.symm⟩
theorem KQ:aH Tryz.prog 161 (cZ2 fun x y=>x*y):=(a8r fun v u x y w h1 h2 l1 l2=>b1n v u x y w h1 h2 l1 l2)
theorem KR:aH Tryz.prog 200 (c2h 400000000):=by
 refine aI ((((((nil0.ad nS).ad MH).ad a3O).ad OA).ad a0P).ad KQ) ⟨[4,5,9,2,3],[],[]⟩ Tryz.func200 rfl (by decide) (fun x=>[]) (fun x hp=>?_)
 obtain⟨x,y,u⟩:=x
 change Int at x
 change Int at y
 refine aO (let A₀:=(dig (val (dig (Int.natAbs x)) / val (dig (Int.natAbs y))));let A₁:=(decide (x<0) != decide (y<0));let A₂:=((A₁==true)=true->(A₁==true)=true/\True);(isz x<=1000000000/\isz y<=1000000000/\True)/\ifB (aB (dig (Int.natAbs y)).length==0) (True/\0=Int.fdiv x y/\True/\0=Int.fmod x y/\True/\asT Int 14=0/\True) (((Canon (dig (Int.natAbs x))/\Canon (dig (Int.natAbs y))/\List.length (dig (Int.natAbs x))<=1000000000/\dig (Int.natAbs y)≠aC Nat)/\True)/\((Low A₀/\List.length A₀<=2000000001)/\True)/\(A₂/\A₂/\(A₁=true->(A₁==true)=true)/\True)/\ifB (bif decide (x<0) != decide (y<0) then decide (aB (dig (val (dig (Int.natAbs x))%val (dig (Int.natAbs y)))).length > 0) else false) ((bP 1/\(isz (sg A₁ (val A₀))<=1000000000/\isz 1<=1000000000)/\True)/\((isz (sg A₁ (val A₀)-1)<=1000000000/\isz y<=1000000000)/\(isz x<=1000000000/\isz ((sg A₁ (val A₀)-1)*y)<=1000000000)/\True)/\True/\sg A₁ (val A₀)-1=Int.fdiv x y/\True/\x-(sg A₁ (val A₀)-1)*y=Int.fmod x y/\True/\asT Int 0=0/\True) (((isz (sg A₁ (val A₀))<=1000000000/\isz y<=1000000000)/\(isz x<=1000000000/\isz (sg A₁ (val A₀)*y)<=1000000000)/\True)/\True/\sg A₁ (val A₀)=Int.fdiv x y/\True/\x-sg A₁ (val A₀)*y=Int.fmod x y/\True/\asT Int 0=0/\True))) (by kernel_rfl) ?_
 try simp only[zP0]
 try dsimp only[aB,asT,aA,aC,Ty.den,Lf.den] at *
 try simp only[zP1]
 obtain⟨l1,l2,hy⟩:isz x<=400000000/\isz y<=400000000/\y≠0:=hp
 have n0:0<y.natAbs:=by omega
 simp only[aT,a8V,a1i]
 have sz:∀ b,isz (sg b (x.natAbs / y.natAbs:Nat))<=400000000:=fun b=>a9P l1 _ _ rfl
 have lq:(dig (x.natAbs / y.natAbs)).length<=400000000:=ak (aQ (Cj _ _)) l1
 have sz1:∀ b,isz (sg b (x.natAbs / y.natAbs:Nat)-1)<=400000001:=fun b=>ak (OX _ _) (by rw[show isz 1=1 by decide +kernel];have:=sz b;omega)
 refine⟨⟨by omega,by omega⟩,fun h=>absurd (og h) (by omega),fun _=>⟨⟨bY _,bY _,by rw[c2S];omega,fun e=>by have:=iF.1 e;omega⟩,⟨bC _,by omega⟩,⟨fun h=>h,fun h=>h,fun h=>by rw[h];rfl⟩,fun h=>?_,fun h=>?_⟩⟩
 ·cases hs:decide (x<0) != decide (y<0)
  ·rw[hs] at h;cases h
  ·rw[hs] at h
   have hr:x.natAbs%y.natAbs≠0:=og h
   obtain⟨a,b⟩:=WU (decide (x<0)) (decide (y<0)) x.natAbs y.natAbs n0 hs hr
   rw[sgf,sgf] at a b
   have e:sg true (x.natAbs / y.natAbs:Nat)-1=x.fdiv y:=by rw[a];unfold sg;simp;omega
   have f:=a4Y x y e
   have s1:=sz true
   have s2:=sz1 true
   have s3:=fJ (sg true (x.natAbs / y.natAbs:Nat)-1) y
   exact⟨⟨⟨by omega,by omega⟩,by omega,by decide +kernel⟩,⟨⟨by omega,by omega⟩,by omega,by omega⟩,f⟩
 ·have key:∀ q:Int,isz q<=400000000->q=x.fdiv y->((isz q<=1000000000/\isz y<=1000000000)/\isz x<=1000000000/\isz (q*y)<=1000000000)/\q=x.fdiv y/\x-q*y=x.fmod y:=fun q hq e=>by
   have:=fJ q y
   exact⟨⟨⟨by omega,by omega⟩,by omega,by omega⟩,a4Y x y e⟩
  cases hs:decide (x<0) != decide (y<0)
  ·have hs:decide (x<0)=decide (y<0):=by simpa using hs
   obtain⟨a,b⟩:=WV (decide (y<0)) x.natAbs y.natAbs n0
   rw[sgf,<-hs,sgf] at a
   exact key _ (sz false) a.symm
  ·have hr:x.natAbs%y.natAbs=0:=Decidable.byContradiction fun e=>by rw[hs,jf e] at h;cases h
   obtain⟨a,b⟩:=RI (decide (x<0)) (decide (y<0)) x.natAbs y.natAbs n0 hs hr
   rw[sgf,sgf] at a
   exact key _ (sz true) a.symm
set_option maxHeartbeats 4000000
theorem c1s (w:World) (r q:Nat):Rd (w.alloc (.cells #[.int .u32 (r:Nat),.int .u32 (q:Nat)] 148)) (.slice (some ⟨w.heap.size,0,none⟩) 2 2) [r,q] :=
 Rd.dO (l:=[r,q]) (World.ownsRow_lit (size:=1) w #[.int .u32 (r:Nat),.int .u32 (q:Nat)] 2 (aj _) (by simp[maxLen]) (by simp))
theorem b1m (v u:Value) (x y:Int) (w:World) (hv:Raw w v x) (hu:Raw w u y) (hl:isz x<=1000000000) (hl2:isz y<=1000000000) :
  Calls Tryz.prog 131 #[v,u] w (vH ((Int.gcd x y:Nat):Int) w):=by
 obtain⟨b,p,n,c,rfl⟩:=hv.form
 obtain⟨d,o,m,e,rfl⟩:=hu.form
 have hlx:(dig x.natAbs).length<=1000000000:=hl
 have hly:(dig y.natAbs).length<=1000000000:=hl2
 have hfi:=jD
 have k0:=jD
 have kU:Below w.heap.size w w:=dh _ _
 go_enter Tryz.func131,Tryz.ntmps131
 go_wp2_with fail
 obtain⟨hA1,l0,m0,n0⟩:=bx3 w rfl [.bool b,.slice p n c] 45 [.bool d,.slice o m e] 45 [.bool false,.slice none 0 0] 45
 have b6O:=(iI.mk (l0.drew).bs2 (m0.drew).bs2)
 have tk1:True:=trivial
 have tk2:True:=trivial
 go_region_held3 (iI (BS2 w.heap.size (.bool b) (.slice p n c)) (BS2 (w.heap.size+1) (.bool d) (.slice o m e))) (first|with_reducible exact b6O|with_reducible exact yT.go (iI.hk BS2.hk BS2.hk) (by assumption) (by assumption)|(simp;done))
  (first
   | (((have:=tk1);clear tk1;have a0:=(hv.below hA1).drew;go_at_call 164;(with_reducible refine(gZ _ (x) _ a0 (by omega)).mono ?_);rintro e w1 ⟨v1,rfl,hi1,hb1⟩;obtain⟨g1,p1,n1,c1,rfl⟩:=hi1.form;obtain rfl:n1=(dig x.natAbs).length:=hi1.len))
   | (((have:=tk2);clear tk2;have a0h:=((hu.below hA1).drew.below hb1);have d0:=a0h;go_at_call 164;(with_reducible refine(gZ _ (y) _ d0 (by omega)).mono ?_);rintro e w2 ⟨v2,rfl,hi2,hb2⟩;obtain⟨g2,p2,n2,c2,rfl⟩:=hi2.form;obtain rfl:n2=(dig y.natAbs).length:=hi2.len)))
 have o0:=(hi1.below hb2)
 have a0t:=((n0.drew.to hb1).to hb2)
 have j0:=(Below.tr (Below.tr (Below.tr kU hA1).drew hb1) hb2)
 go_wp2_with fail
 clear hl hl2
 go_loopg [5,6,7,8,17,18,19,20,21,22,23,24,25,26,27,28,29,30,31,32,33,34,35,36,37] (val (dig y.natAbs)) (fun k a b _ _ _ _ _ _ _ _ _ _ _ _ _ _ _ _ _ _ _ _ _ _ _ wr=>∃ (l1 l2:List Nat) (pa pb:Option Addr) (ca cb:Nat),a=.slice pa l1.length ca/\b=.slice pb l2.length cb/\Rd wr (.slice pa l1.length ca) l1/\Rd wr (.slice pb l2.length cb) l2/\Canon l1/\Canon l2/\l1.length<=1000000000/\l2.length<=1000000000/\Hid (Nat.gcd (val l1) (val l2)=Int.gcd x y)/\Hid (k=val l2)/\Bx wr (w.heap.size+1+1) [.bool false,.slice none 0 0]/\Below w.heap.size w wr)
 case atStart=>exact⟨_,_,_,_,_,_,rfl,rfl,o0.rd,hi2.rd,bY _,bY _,hlx,hly,a6R x y,rfl,a0t,j0⟩
 case round =>
  obtain⟨l1,l2,pa,pb,ca,cb,rfl,rfl,ha,hb,ca1,cb1,la,lb,hg,hk,hq,hB⟩:=hrel
  have hzB:=hB.size
  have cl1:Low l1:=ca1.1
  have cl2:Low l2:=cb1.1
  by_cases hne:l2=[]
  ·subst hne
   have HX:Hid (sg false (val l1)=((Int.gcd x y:Nat):Int)):=gcd_zero hg.out
   go_wp2_with fail
   have b0:=ha
   (with_reducible refine(iD _ _ _ _ b0 cl1 (by omega)).mono ?_)
   rintro e w1 ⟨v1,rfl,hi1,hb1⟩
   obtain⟨g1,p1,n1,c1,rfl⟩:=hi1.form
   have a7s:=(hq.to hb1)
   obtain⟨e0,h0,g0,i0⟩:=a7s.cf2
   have a9w:=(Below.tr hB hb1)
   go_wp2_with fail
   exact uj (v:=.agg #[.bool g1,.slice p1 n1 c1]) (by simp[results,Tryz.results131,go_sem,e0,h0,g0,i0]) rfl ⟨_,rfl,kZ (hi1.bW a7s rfl rfl (.bool g1) (.slice p1 n1 c1)) HX.out,(Below.bW a9w (b:=w.heap.size+1+1) (by omega) (.bool g1) (.slice p1 n1 c1))⟩
  ·have hl0:0<l2.length:=xq.2 hne
   have hlz:((l2.length:Int)==0)=false:=by simp;omega
   have HLE:Hid ((dig (val l1%val l2)).length<=1000000000):=by
    unfold Hid
    have:=aQ (Nat.le_of_lt (Ae (val l1) (cb1.pos hne)))
    rw[dR cb1] at this
    omega
   by_cases h1:2<l1.length
   ·skip
    go_wp2_with fail
    have a0:=ha
    have b0:=hb
    (with_reducible refine(FW _ _ _ _ _ a0 b0 ca1 cb1 la hne).mono ?_)
    rintro e w1 ⟨s1,t1,rfl,hs1,ht1,hb1⟩
    obtain⟨p1,c1,rfl,b7v,c3v⟩:=hs1.form
    obtain⟨o1,d1,rfl,hlo1,c6A⟩:=ht1.form
    have b7p:=(hb.below hb1)
    have a7s:=(hq.to hb1)
    have a9w:=(Below.tr hB hb1)
    go_wp2_with fail
    go_roundg (val (dig (val l1%val l2)))
    case measure=>rw[hk.out,aT];exact Ae _ (cb1.pos hne)
    case rel=>exact⟨_,_,_,_,_,_,rfl,rfl,b7p,ht1,cb1,bY _,lb,HLE.out,by unfold Hid;rw[aT];exact RV hg.out,rfl,a7s,a9w⟩
   ·by_cases h2:2<l2.length
    ·skip
     go_wp2_with fail
     have a0:=ha
     have b0:=hb
     (with_reducible refine(FW _ _ _ _ _ a0 b0 ca1 cb1 la hne).mono ?_)
     rintro e w1 ⟨s1,t1,rfl,hs1,ht1,hb1⟩
     obtain⟨p1,c1,rfl,b7v,c3v⟩:=hs1.form
     obtain⟨o1,d1,rfl,hlo1,c6A⟩:=ht1.form
     have b7p:=(hb.below hb1)
     have a7s:=(hq.to hb1)
     have a9w:=(Below.tr hB hb1)
     go_wp2_with fail
     go_roundg (val (dig (val l1%val l2)))
     case measure=>rw[hk.out,aT];exact Ae _ (cb1.pos hne)
     case rel=>exact⟨_,_,_,_,_,_,rfl,rfl,b7p,ht1,cb1,bY _,lb,HLE.out,by unfold Hid;rw[aT];exact RV hg.out,rfl,a7s,a9w⟩
    ·skip
     go_wp2_with fail
     have a0:=ha
     (with_reducible refine(YD _ _ _ a0 cl1 (by omega)).mono ?_)
     rintro e w' ⟨rfl,rfl⟩
     go_wp2_with fail
     have d0:=hb
     (with_reducible refine(YD _ _ _ d0 cl2 (by omega)).mono ?_)
     rintro e w' ⟨rfl,rfl⟩
     go_wp2_with fail
     have hM:=WY ca1 (by omega)
     have hK:=WY cb1 (by omega)
     clear ha hb
     go_loopw [9,10,47,48,49,50,51,52] (fun m n _ _ _ _ _ _ wr=>∃ M K:Nat,m=.int .u64 (M:Nat)/\n=.int .u64 (K:Nat)/\M<=999999999999999999/\K<=999999999999999999/\Hid (Nat.gcd M K=Int.gcd x y)/\Bx wr (w.heap.size+1+1) [.bool false,.slice none 0 0]/\Below w.heap.size w wr) (fun _ n _ _ _ _ _ _ _=>(intOf n).toNat)
     case atStart=>exact⟨_,_,rfl,rfl,hM,hK,hg,hq,hB⟩
     case round =>
      obtain⟨M,K,rfl,rfl,hM,hK,hg2,hq2,hB2⟩:=hrel
      by_cases hk0:0<K
      ·obtain⟨R,hR⟩:∃ R,M%K=R:=⟨_,rfl⟩
       have c3g:R<K:=by rw[<-hR];exact Ae _ hk0
       have i2:(M:Int)%K=R:=by rw[<-hR];simp
       have i3:(M:Int).tmod K=R:=by rw[wu (by omega)];exact i2
       have w2':IntKind.u64.wrap (R:Int)=R:=wrap_u64 (by omega)
       have hdz:((K:Int)==0)=false:=by simp;omega
       have hdn:¬ K=0:=by omega
       have HG:Hid (Nat.gcd K R=Int.gcd x y):=by unfold Hid;rw[<-hR];exact RV hg2.out
       have b3F:=fun w=>UF (n:=M) (d:=K) (v:=R) (by omega) hM i2 w2' w
       clear hR
       go_wp2_with fail
       go_quiet (fail)
       go_wp2_with fail
       go_roundw
       case rel=>exact⟨K,R,rfl,rfl,hK,by omega,HG,hq2.drewN _,Below.qZ hB2 _⟩
       case measure=>simp[intOf];omega
      ·obtain rfl:K=0:=by omega
       obtain⟨r,hr⟩:∃ r,M%1000000000=r:=⟨_,rfl⟩
       obtain⟨q,hq'⟩:∃ q,M / 1000000000=q:=⟨_,rfl⟩
       have HX:Hid (sg false (val [r,q])=((Int.gcd x y:Nat):Int)):=by
        have:=hg2.out
        unfold Hid
        rw[<-this,Nat.gcd_zero_right]
        have e:val [r,q]=M:=by simp[bU,val,bM];omega
        rw[e];rfl
       have i1:(M:Int)%1000000000=r:=by omega
       have i2:(M:Int) / 1000000000=q:=by omega
       have hr9:r<=999999999:=by omega
       have hq9:q<=999999999:=by omega
       have hlow:Low [r,q]:=Low.cons.2 ⟨by rw[bM];omega,Low.cons.2 ⟨by rw[bM];omega,Low.nil⟩⟩
       have hR:=c1s wr r q
       have c7k:=hB2.size
       clear hr hq'
       go_wp2_with fail
       refine(iD false _ _ _ hR hlow (by simp)).mono ?_
       rw[HX.out]
       rintro e2 w7 ⟨v2,rfl,hi2,hb7⟩
       obtain⟨g2,p2,n2,c2,rfl⟩:=hi2.form
       have q7:=(hq2.alloc (.cells #[.int .u32 (r:Nat),.int .u32 (q:Nat)] 148)).to hb7
       have r0:=q7.c0
       have r1:=q7.c1
       have f0:=q7.f0
       have f1:=q7.f1
       have hB7:=Below.tr (Below.al hB2 (.cells #[.int .u32 (r:Nat),.int .u32 (q:Nat)] 148)) hb7
       go_wp2_with fail
       exact uj (v:=.agg #[.bool g2,.slice p2 n2 c2]) (by simp[results,Tryz.results131,go_sem,r0,r1]) rfl ⟨_,rfl,dS.bW hi2 q7 rfl rfl _ _,Below.bW hB7 (by omega) _ _⟩
theorem vO {x y:Int} (h:y ∣ x):x.fdiv y=x / y:=by
 rw[Int.fdiv_eq_ediv,iw (.inr h),Int.sub_zero]
theorem a7z {n d:Int} (hd:0<d):n.fdiv ((Int.gcd n d:Nat):Int)=(Rat.divInt n d).num/\d.fdiv ((Int.gcd n d:Nat):Int)=(Rat.divInt n d).den:=by
 rw[oL hd,oK hd]
 exact⟨vO (Int.gcd_dvd_left _ _),vO (Int.gcd_dvd_right _ _)⟩
theorem a7y {n d:Int} (hd:d<0):n.fdiv (-((Int.gcd n d:Nat):Int))=(Rat.divInt n d).num/\d.fdiv (-((Int.gcd n d:Nat):Int))=(Rat.divInt n d).den:=by
 rw[RF hd,QZ hd]
 exact⟨vO (Int.neg_dvd.2 (Int.gcd_dvd_left _ _)),vO (Int.neg_dvd.2 (Int.gcd_dvd_right _ _))⟩
set_option maxHeartbeats 1000000
theorem c6T (x y:Int):sgn (x-y)=bK x y:=by
 unfold bK sgn
 rcases Ba x y with h|h|h
 ·rw[iw h,qh (by omega)]
 ·rw[eu (by omega),eu (by omega),h,Int.sub_self];rfl
 ·rw[eu (by omega),iw h,uf (by omega)]
theorem c6U (x y:Rat):sgn (x-y).num=wG x y:=by
 unfold sgn wG
 rw[b1h]
 have a:(x-y<0)=(x<y):=propext ⟨fun h=>by grind,fun h=>by grind⟩
 have b:(0<x-y)=(y<x):=propext ⟨fun h=>by grind,fun h=>by grind⟩
 simp only[a,b]
theorem b5U (x y:Rat):(wG x y==0)=decide (x=y):=by
 unfold wG
 by_cases h1:x<y
 ·rw[iw h1,je (fun e=>by subst e;exact absurd h1 (by grind))];rfl
 ·by_cases h2:y<x
  ·rw[eu h1,iw h2,je (fun e=>by subst e;exact absurd h2 (by grind))];rfl
  ·rw[eu h1,eu h2,jf (by grind)];rfl
theorem c4e {x:Int}:(sgn x==0)=decide (x=0):=c1k
theorem a2N:aH Tryz.prog 131 (cZ2 fun x y=>((Int.gcd x y:Nat):Int)):=(a8r fun v u x y w h1 h2 l1 l2=>b1m v u x y w h1 h2 l1 l2)
theorem b2t:aH Tryz.prog 129 cIV:=(a8q fun v ok x w h=>yJ v ok x w h)
def c2K (K:Nat) (g:Int->Int->Int):Ctr:=⟨[tZ,tZ],[tI],fun x=>isz x.1<=K/\isz x.2.1<=K,fun x=>(g x.1 x.2.1,())⟩
theorem a0N:aH Tryz.prog 130 (c2K 999999999 bK):=by
 refine aI ((nil0.ad wB).ad a0P) ⟨[],[],[]⟩ Tryz.func130 rfl (by decide) (fun x=>[]) (fun x hp=>?_)
 obtain⟨x,y,u⟩:=x
 change Int at x
 change Int at y
 refine aO (((isz x<=1000000000/\isz y<=1000000000)/\isz (x-y)<=1000000000/\True)/\True/\sgn (x-y)=bK x y/\True) (by kernel_rfl) ?_
 try simp only[zP0]
 try dsimp only[aB,asT,aA,aC,Ty.den,Lf.den] at *
 try simp only[zP1]
 obtain⟨l1,l2⟩:isz x<=999999999/\isz y<=999999999:=hp
 have:=OX x y
 exact⟨⟨⟨by omega,by omega⟩,by omega⟩,c6T x y⟩
theorem a0z:aH Tryz.prog 132 cIZ:=by
 refine aI (nil0.ad OA) ⟨[2],[],[]⟩ Tryz.func132 rfl (by decide) (fun x=>[]) (fun x hp=>?_)
 obtain⟨n,u⟩:=x
 change Int at n
 refine aO ((bP n/\True)/\True/\n=n/\True) (by kernel_rfl) ?_
 try simp only[zP0]
 try dsimp only[aB,asT,aA,aC,Ty.den,Lf.den] at *
 try simp only[zP1]
 exact hp
noncomputable def c5G:Ctr:=⟨[tZ,tZ],[tQ],fun x=>isz x.1<=400000000/\isz x.2.1<=400000000/\(show Int from x.2.1)≠0,fun x=>(Rat.divInt x.1 x.2.1,())⟩
theorem QB:aH Tryz.prog 162 c5G:=by
 refine aI ((((nil0.ad a2N).ad ED).ad wB).ad KR) ⟨[4,5,6,7,9,10],[],[]⟩ Tryz.func162 rfl (by decide) (fun x=>[]) (fun x hp=>?_)
 obtain⟨x,y,u⟩:=x
 change Int at x
 change Int at y
 refine aO (((isz x<=1000000000/\isz y<=1000000000)/\True)/\(isz y<=1000000000/\True)/\ifB (decide (sgn y<0)) ((isz (aB (Int.gcd x y))<=1000000000/\True)/\((isz x<=400000000/\isz (-aB (Int.gcd x y))<=400000000/\-aB (Int.gcd x y)≠0)/\True)/\((isz y<=400000000/\isz (-aB (Int.gcd x y))<=400000000/\-aB (Int.gcd x y)≠0)/\True)/\(0<Int.fdiv y (-aB (Int.gcd x y))/\Int.gcd (Int.fdiv x (-aB (Int.gcd x y))) (Int.fdiv y (-aB (Int.gcd x y)))=1/\True)/\Rat.divInt (Int.fdiv x (-aB (Int.gcd x y))) (Int.fdiv y (-aB (Int.gcd x y)))=Rat.divInt x y/\True) (((isz x<=400000000/\isz (aB (Int.gcd x y))<=400000000/\aB (Int.gcd x y)≠0)/\True)/\((isz y<=400000000/\isz (aB (Int.gcd x y))<=400000000/\aB (Int.gcd x y)≠0)/\True)/\(0<Int.fdiv y (aB (Int.gcd x y))/\Int.gcd (Int.fdiv x (aB (Int.gcd x y))) (Int.fdiv y (aB (Int.gcd x y)))=1/\True)/\Rat.divInt (Int.fdiv x (aB (Int.gcd x y))) (Int.fdiv y (aB (Int.gcd x y)))=Rat.divInt x y/\True)) (by kernel_rfl) ?_
 try simp only[zP0]
 try dsimp only[aB,asT,aA,aC,Ty.den,Lf.den] at *
 try simp only[zP1]
 obtain⟨l1,l2,hy⟩:isz x<=400000000/\isz y<=400000000/\y≠0:=hp
 have g1:isz ((Int.gcd x y:Nat):Int)<=400000000:=jT hy l2
 have g2:((Int.gcd x y:Nat):Int)≠0:=gcd_ne hy
 have g3:isz (-((Int.gcd x y:Nat):Int))<=400000000:=by rw[jJ];exact g1
 refine⟨⟨by omega,by omega⟩,by omega,fun h=>⟨by omega,⟨l1,g3,by omega⟩,⟨l2,g3,by omega⟩,?_⟩,fun h=>⟨⟨l1,g1,g2⟩,⟨l2,g1,g2⟩,?_⟩⟩
 ·have:=rd8 (a7y (n:=x) (Ac.1 h))
  exact⟨⟨this.1,this.2.1⟩,this.2.2⟩
 ·have h0:¬ y<0:=fun e=>h (Ac.2 e)
  have:=rd8 (a7z (n:=x) (show 0<y by omega))
  exact⟨⟨this.1,this.2.1⟩,this.2.2⟩
theorem DN:aH Tryz.prog 143 (cIQ bP (fun i=>(i:Rat))):=by
 refine aI (nil0.ad a0z) ⟨[2],[],[]⟩ Tryz.func143 rfl (by decide) (fun x=>[]) (fun x hp=>?_)
 obtain⟨n,u⟩:=x
 change Int at n
 refine aO ((bP n/\bP 1/\True)/\(asT Int 0<1/\Int.gcd n 1=1/\True)/\Rat.divInt n 1=aV n/\True) (by kernel_rfl) ?_
 try simp only[zP0]
 try dsimp only[aB,asT,aA,aC,Ty.den,Lf.den] at *
 try simp only[zP1]
 exact⟨⟨hp,by omega,by omega⟩,⟨by omega,Int.gcd_one_right _⟩,by rw[show (1:Int)=((1:Nat):Int) from rfl,Rat.divInt_ofNat];exact Rat.mkRat_one n⟩
theorem b5f:aH Tryz.prog 46 (b6V 999999999):=by
 refine aI (((((nil0.ad a2N).ad wB).ad b2t).ad a0N).ad a0z) ⟨[],[],[]⟩ Tryz.func46 rfl (by decide) (fun x=>[]) (fun x hp=>?_)
 obtain⟨x,u⟩:=x
 change iG × iG × Unit at x
 refine aO (let A₁:=(asT iG x.2.1);let A₂:=(asT iG x.1);let A₀:=(bif !iG.ok A₂ then true else !iG.ok A₁);let aN:=((!iG.ok A₂)==false);let aU:=((A₀==false)=true->(A₀==false)=true/\True);let aX:=(aB (Int.gcd (iG.x A₂) (iG.x A₁)));let bJ:=(aN=true->aN=true/\True);(True/\bJ/\(aN=true->aN=true/\True/\True)/\bJ/\((!iG.ok A₂)=false->aN=true)/\aU/\((A₀==false)=true->(A₀==false)=true/\iG.ok A₁=true/\isz (iG.x A₁)<=1000000000/\True)/\aU/\(A₀=false->(A₀==false)=true)/\True)/\ifB (bif bif !iG.ok A₂ then true else !iG.ok A₁ then true else decide (sgn (iG.x A₁)<=0)) (True/\false=a2L A₂ A₁/\True) ((iG.ok A₂=true/\iG.ok A₁=true/\(isz (iG.x A₂)<=1000000000/\isz (iG.x A₁)<=1000000000)/\bP 1/\(isz aX<=999999999/\isz 1<=999999999)/\True)/\True/\(bK aX 1==0)=a2L A₂ A₁/\True)) (by kernel_rfl) ?_
 try simp only[zP0]
 try dsimp only[aB,asT,aA,aC,Ty.den,Lf.den] at *
 try simp only[zP1]
 obtain⟨⟨o1,n,g⟩,⟨o2,d,h⟩,u⟩:=x
 obtain⟨l1,l2⟩:isz n<=999999999/\isz d<=999999999:=hp
 have e:(sgn d<=0)=¬ 0<d:=propext (by unfold sgn;rw[<-Int.sign_pos_iff];omega)
 simp only[e,c2N,a2L] at *
 cases o1<;>cases o2<;>simp<;>try omega
 by_cases hd:0<d
 ·have:isz ((Int.gcd n d:Nat):Int)<=999999999:=jT (by omega) l2
  simp[hd,c3I]
  exact⟨by omega,fun h=>absurd hd (by omega),⟨by omega,by omega⟩,⟨by omega,by omega⟩,this⟩
 ·simp[hd];omega
theorem KD:aH Tryz.prog 46 (cVal 999999999):=b2p b5f
theorem KC:aH Tryz.prog 78 (cQ1 (fun x=>rsz x<=999999999) (fun x=>x)):=by
 refine aI ((nil0.ad DN).ad KD) ⟨[2],[],[]⟩ Tryz.func78 rfl (by decide) (fun x=>[]) (fun x hp=>?_)
 obtain⟨x,u⟩:=x
 change Rat at x
 refine aO (((aG.n (dM x)<=999999999/\aG.m (dM x)<=999999999)/\True)/\True/\x=x/\True) (by kernel_rfl) ?_
 try simp only[zP0]
 try dsimp only[aB,asT,aA,aC,Ty.den,Lf.den] at *
 try simp only[zP1]
 exact sz8 (show rsz x<=999999999 from hp)
noncomputable def c2w:Ctr:=⟨[tZ,tZ],[tR,tI],fun x=>isz x.1<=390000000/\isz x.2.1<=390000000,fun x=>newT 14 x.1 x.2.1⟩
theorem a7C:aH Tryz.prog 160 c2w:=by
 refine aI ((nil0.ad wB).ad QB) ⟨[4],[],[]⟩ Tryz.func160 rfl (by decide) (fun x=>[]) (fun x hp=>?_)
 obtain⟨x,y,u⟩:=x
 change Int at x
 change Int at y
 refine aO ((isz y<=1000000000/\True)/\ifB (sgn y==0) (True/\bF=Prod.fst (newT 14 x y)/\True/\14=Prod.fst (newT 14 x y).2/\True) (((isz x<=400000000/\isz y<=400000000/\y≠0)/\True)/\True/\dM (Rat.divInt x y)=Prod.fst (newT 14 x y)/\True/\0=Prod.fst (newT 14 x y).2/\True)) (by kernel_rfl) ?_
 try simp only[zP0]
 try dsimp only[aB,asT,aA,aC,Ty.den,Lf.den] at *
 try simp only[zP1]
 obtain⟨l1,l2⟩:isz x<=390000000/\isz y<=390000000:=hp
 rw[c4e]
 refine⟨by omega,fun h=>?_,fun h=>?_⟩
 ·unfold newT;rw[iw (og h)];exact⟨rfl,rfl⟩
 ·unfold newT;rw[eu (yg h)];exact⟨⟨by omega,by omega,yg h⟩,rfl,rfl⟩
theorem a5S:aH Tryz.prog 17 (cQI (fun x=>rsz x<=900000000) (fun x=>sgn x.num)):=by
 refine aI ((nil0.ad wB).ad KC) ⟨[],[],[]⟩ Tryz.func17 rfl (by decide) (fun x=>[]) (fun x hp=>?_)
 obtain⟨x,u⟩:=x
 change Rat at x
 refine aO ((rsz x<=999999999/\isz (Rat.num x)<=1000000000/\True)/\True/\sgn (Rat.num x)=sgn (Rat.num x)/\True) (by kernel_rfl) ?_
 try simp only[zP0]
 try dsimp only[aB,asT,aA,aC,Ty.den,Lf.den] at *
 try simp only[zP1]
 have hp:rsz x<=900000000:=hp
 have:=(sz8 hp).1
 exact⟨by omega,by omega⟩
theorem vX:aH Tryz.prog 101 (cQ1 (fun x=>rsz x<=190000000) (fun x=>-x)):=by
 refine aI ((nil0.ad ED).ad KC) ⟨[2,3],[],[]⟩ Tryz.func101 rfl (by decide) (fun x=>[]) (fun x hp=>?_)
 obtain⟨x,u⟩:=x
 change Rat at x
 refine aO ((rsz x<=999999999/\True)/\(isz (Rat.num x)<=1000000000/\True)/\(0<aB (Rat.den x)/\Int.gcd (-Rat.num x) (aB (Rat.den x))=1/\True)/\Rat.divInt (-Rat.num x) (aB (Rat.den x))=-x/\True) (by kernel_rfl) ?_
 try simp only[zP0]
 try dsimp only[aB,asT,aA,aC,Ty.den,Lf.den] at *
 try simp only[zP1]
 have hp:rsz x<=190000000:=hp
 obtain⟨a,b⟩:=sz8 hp
 exact⟨by omega,by omega,⟨b3d x,by have:=JW (-x);rwa [BG,BF] at this⟩,b0H x⟩
theorem nK:aH Tryz.prog 76 (cQ2 s19 (·+·)):=by
 refine aI ((((nil0.ad KQ).ad a0M).ad QB).ad KC) ⟨[4,5,6],[],[]⟩ Tryz.func76 rfl (by decide) (fun x=>[]) (fun x hp=>?_)
 obtain⟨x,y,u⟩:=x
 change Rat at x
 change Rat at y
 refine aO ((rsz x<=999999999/\True)/\(rsz y<=999999999/\True)/\((isz (Rat.num x)<=1000000000/\isz (aB (Rat.den y))<=1000000000)/\(isz (Rat.num y)<=1000000000/\isz (aB (Rat.den x))<=1000000000)/\(isz (Rat.num x*aB (Rat.den y))<=1000000000/\isz (Rat.num y*aB (Rat.den x))<=1000000000)/\(isz (aB (Rat.den x))<=1000000000/\isz (aB (Rat.den y))<=1000000000)/\(isz (Rat.num x*aB (Rat.den y)+Rat.num y*aB (Rat.den x))<=400000000/\isz (aB (Rat.den x)*aB (Rat.den y))<=400000000/\aB (Rat.den x)*aB (Rat.den y)≠0)/\True)/\True/\Rat.divInt (Rat.num x*aB (Rat.den y)+Rat.num y*aB (Rat.den x)) (aB (Rat.den x)*aB (Rat.den y))=x+y/\True) (by kernel_rfl) ?_
 try simp only[zP0]
 try dsimp only[aB,asT,aA,aC,Ty.den,Lf.den] at *
 try simp only[zP1]
 obtain⟨l1,l2⟩:rsz x<=190000000/\rsz y<=190000000:=hp
 obtain⟨a,b⟩:=sz8 l1
 obtain⟨c,d⟩:=sz8 l2
 have m1:=JK a d
 have m2:=JK c b
 have m3:=JK b d
 have m4:=sG (x.num*y.den) (y.num*x.den)
 exact⟨by omega,by omega,⟨⟨by omega,by omega⟩,⟨by omega,by omega⟩,⟨by omega,by omega⟩,⟨by omega,by omega⟩,by omega,by omega,Dl (ER x) (ER y)⟩,PU x y⟩
theorem sH:aH Tryz.prog 75 (cQ2 s19 (·*·)):=by
 refine aI (((nil0.ad KQ).ad QB).ad KC) ⟨[4,5,6],[],[]⟩ Tryz.func75 rfl (by decide) (fun x=>[]) (fun x hp=>?_)
 obtain⟨x,y,u⟩:=x
 change Rat at x
 change Rat at y
 refine aO ((rsz x<=999999999/\True)/\(rsz y<=999999999/\True)/\((isz (Rat.num x)<=1000000000/\isz (Rat.num y)<=1000000000)/\(isz (aB (Rat.den x))<=1000000000/\isz (aB (Rat.den y))<=1000000000)/\(isz (Rat.num x*Rat.num y)<=400000000/\isz (aB (Rat.den x)*aB (Rat.den y))<=400000000/\aB (Rat.den x)*aB (Rat.den y)≠0)/\True)/\True/\Rat.divInt (Rat.num x*Rat.num y) (aB (Rat.den x)*aB (Rat.den y))=x*y/\True) (by kernel_rfl) ?_
 try simp only[zP0]
 try dsimp only[aB,asT,aA,aC,Ty.den,Lf.den] at *
 try simp only[zP1]
 obtain⟨l1,l2⟩:rsz x<=190000000/\rsz y<=190000000:=hp
 obtain⟨a,b⟩:=sz8 l1
 obtain⟨c,d⟩:=sz8 l2
 have m1:=JK a c
 have m3:=JK b d
 exact⟨by omega,by omega,⟨⟨by omega,by omega⟩,⟨by omega,by omega⟩,by omega,by omega,Dl (ER x) (ER y)⟩,JX x y⟩
theorem a5R:aH Tryz.prog 133 (cQ2 s19 (·-·)):=by
 refine aI ((nil0.ad vX).ad nK) ⟨[4],[],[]⟩ Tryz.func133 rfl (by decide) (fun x=>[]) (fun x hp=>?_)
 obtain⟨x,y,u⟩:=x
 change Rat at x
 change Rat at y
 refine aO ((rsz y<=190000000/\s19 x (-y)/\True)/\True/\x+-y=x-y/\True) (by kernel_rfl) ?_
 try simp only[zP0]
 try dsimp only[aB,asT,aA,aC,Ty.den,Lf.den] at *
 try simp only[zP1]
 obtain⟨l1,l2⟩:rsz x<=190000000/\rsz y<=190000000:=hp
 obtain⟨a,b⟩:=sz8 l1
 obtain⟨c,d⟩:=sz8 l2
 exact⟨⟨l2,l1,by rw[jE];exact l2⟩,(Dz x y).symm⟩
theorem a0u:aH Tryz.prog 47 (b2D s19 wG):=by
 refine aI ((nil0.ad a5S).ad a5R) ⟨[],[],[]⟩ Tryz.func47 rfl (by decide) (fun x=>[]) (fun x hp=>?_)
 obtain⟨x,y,u⟩:=x
 change Rat at x
 change Rat at y
 refine aO ((s19 x y/\rsz (x-y)<=900000000/\True)/\True/\sgn (Rat.num (x-y))=wG x y/\True) (by kernel_rfl) ?_
 try simp only[zP0]
 try dsimp only[aB,asT,aA,aC,Ty.den,Lf.den] at *
 try simp only[zP1]
 obtain⟨l1,l2⟩:rsz x<=190000000/\rsz y<=190000000:=hp
 obtain⟨a,b⟩:=sz8 l1
 obtain⟨c,d⟩:=sz8 l2
 have:=b5b x y
 exact⟨⟨⟨l1,l2⟩,by omega⟩,c6U x y⟩
theorem a0w:aH Tryz.prog 121 (b2C s19 (fun x y=>decide (x=y))):=by
 refine aI ((nil0.ad KD).ad a0u) ⟨[],[],[]⟩ Tryz.func121 rfl (by decide) (fun x=>[]) (fun x hp=>?_)
 obtain⟨x,y,u⟩:=x
 change Rat at x
 change Rat at y
 refine aO (((aG.n (dM x)<=999999999/\aG.m (dM x)<=999999999)/\(asT Bool true=true->asT Bool true=true/\(aG.n (dM y)<=999999999/\aG.m (dM y)<=999999999)/\True)/\(asT Bool true=true->asT Bool true=true)/\(asT Bool true=true->asT Bool true=true/\asT Bool true=true/\s19 x y/\True)/\(asT Bool true=true->asT Bool true=true/\True)/\(asT Bool true=true->asT Bool true=true)/\True)/\True/\(bif bif true then true else false then wG x y==0 else false)=decide (x=y)/\True) (by kernel_rfl) ?_
 try simp only[zP0]
 try dsimp only[aB,asT,aA,aC,Ty.den,Lf.den] at *
 try simp only[zP1]
 obtain⟨l1,l2⟩:rsz x<=190000000/\rsz y<=190000000:=hp
 obtain⟨a,b⟩:=sz8 l1
 obtain⟨c,d⟩:=sz8 l2
 have e:∀ b:Bool,(bif bif true then true else false then b else false)=b:=fun b=>by cases b<;>rfl
 refine⟨⟨⟨ak a (by omega),ak b (by omega)⟩,fun _=>⟨ak c (by omega),ak d (by omega)⟩,fun h=>h,fun _=>⟨l1,l2⟩,fun h=>h,fun h=>h⟩,(e _).trans (b5U x y)⟩
theorem b2Y {P:Program} {f:FuncId} {args res:List Ty} {pre pre':(nest args).den->Prop} {fn:(nest args).den->(nest res).den} {d:∀ x,Dc (pre x)} {d':∀ x,Dc (pre' x)} (h:aH P f (@Ctr.mk args res pre fn d)) (e:∀ x,pre' x->pre x):aH P f (@Ctr.mk args res pre' fn d'):=fun F w vs x a b hp=>h F w vs x a b (e x hp)
theorem uX:aH Tryz.prog 17 (cQI (fun x=>rsz x<=190000000) (fun x=>sgn x.num)):=b2Y a5S fun x h=>ak h (by omega)
def c2k:Ctr:=⟨[tQ,tQ],[tQ,tI],fun x=>s19 x.1 x.2.1/\(show Rat from x.2.1)≠0,fun x=>((show Rat from x.1) / (show Rat from x.2.1),(0:Int),())⟩
theorem a0v:aH Tryz.prog 74 c2k:=by
 refine aI (((nil0.ad KQ).ad KC).ad a7C) ⟨[4,6,7],[],[]⟩ Tryz.func74 rfl (by decide) (fun x=>[]) (fun x hp=>?_)
 obtain⟨x,y,u⟩:=x
 change Rat at x
 change Rat at y
 refine aO (let A₁:=(Rat.num x*aB (Rat.den y));let A₂:=(aB (Rat.den x)*Rat.num y);let A₀:=(newT 14 A₁ A₂);(rsz x<=999999999/\True)/\(rsz y<=999999999/\True)/\((isz (Rat.num x)<=1000000000/\isz (aB (Rat.den y))<=1000000000)/\(isz (aB (Rat.den x))<=1000000000/\isz (Rat.num y)<=1000000000)/\(isz A₁<=390000000/\isz A₂<=390000000)/\True)/\(aG.ok A₀.1=true/\True)/\aG.x A₀.1=x / y/\True/\Prod.fst A₀.2=0/\True) (by kernel_rfl) ?_
 try simp only[zP0]
 try dsimp only[aB,asT,aA,aC,Ty.den,Lf.den] at *
 try simp only[zP1]
 obtain⟨⟨l1,l2⟩,hy⟩:(rsz x<=190000000/\rsz y<=190000000)/\y≠0:=hp
 obtain⟨a,b⟩:=sz8 l1
 obtain⟨c,d⟩:=sz8 l2
 have m1:=JK a d
 have m3:=JK b c
 have e:newT 14 (x.num*y.den) (x.den*y.num)=(dM (x / y),0,()):=by
  unfold newT
  rw[eu (Dl (ER x) (fun h=>hy ((pO y).1 h))),PV]
 rw[e]
 exact⟨by omega,by omega,⟨⟨by omega,by omega⟩,⟨by omega,by omega⟩,by omega,by omega⟩,rfl,rfl,rfl⟩
noncomputable def LR0:Lib:=((((((((((Lib.nil
 ).add 143 (cIQ bP (fun i=>(i:Rat))) DN
 ).add 46 (cVal 999999999) KD
 ).add 76 (cQ2 s19 (·+·)) nK
 ).add 75 (cQ2 s19 (·*·)) sH
 ).add 133 (cQ2 s19 (·-·)) a5R
 ).add 101 (cQ1 (fun x=>rsz x<=190000000) (fun x=>-x)) vX
 ).add 17 (cQI (fun x=>rsz x<=190000000) (fun x=>sgn x.num)) uX
 ).add 47 (b2D s19 wG) a0u
 ).add 121 (b2C s19 (fun x y=>decide (x=y))) a0w
 ).add 74 c2k a0v
theorem c1Q {a b:Bool}:(bif a then true else b)=(a || b):=by cases a<;>rfl
theorem c1P {a b:Bool}:(bif a then b else false)=(a&&b):=by cases a<;>rfl
theorem zP2:(∀ {a b:Bool},(bif a then true else b)=(a || b))/\(∀ {a b:Bool},(bif a then b else false)=(a&&b))/\(∀ {α:Type} {a:α} {l:List α} {f:α->Bool},(a::l).all f=(f a&&l.all f))/\(∀ {α:Type} {f:α->Bool},[].all f=true)/\(∀ b:Bool,(b&&true)=b)/\(∀ b:Bool,((!b)=true)=(b=false))/\(∀ b:Bool,((!b)=false)=(b=true))/\(∀ {α:Type} [BEq α] [LawfulBEq α] {a b:α},(a==b)=true↔a=b)/\(∀ {α:Type} [BEq α] [LawfulBEq α] {a b:α},(a != b)=true↔a≠b)/\(∀ {α:Type} (a b:α),(a≠b)=¬a=b)/\(∀ a b:Bool,((a&&b)=true)=(a=true/\b=true))/\(∀ {x y:Bool},(x&&y)=false↔x=true->y=false)/\(∀ {α:Type} [BEq α] [LawfulBEq α] {a b:α},(a==b)=false↔a≠b)/\(∀ {α:Type} [BEq α] [LawfulBEq α] {a b:α},(a != b)=false↔a=b)/\(∀ {m n:Nat},(m:Int)=n↔m=n)/\(∀ {a:Prop},a->a↔True)/\(∀ α:Type,(α->True)=True)/\(∀ α:Prop,(α->True)=True)/\(∀ p:Prop,(p/\p)=p)/\(∀ p:Prop,(True/\p)=p)/\(∀ p:Prop,(p/\True)=p)/\(∀ a b:Bool,((a || b)=true)=(a=true\/b=true))/\(∀ {x y:Bool},(x || y)=false↔x=false/\y=false)/\(∀ {α:Type} {a:α} {l:List α},(a::l).length=l.length+1)/\(∀ {α:Type},([]:List α).length=0):=⟨c1Q,c1P,List.all_cons,List.all_nil,Bool.and_true,yc,Bool.not_eq_false',jl,bne_iff_ne,ne_eq,ay,Bool.and_eq_false_imp,uo,bne_eq_false_iff_eq,Int.natCast_inj,imp_self,implies_true,implies_true,and_self,Ee,Dk,Bool.or_eq_true,Bool.or_eq_false_iff,List.length_cons,List.length_nil⟩
def iE (q:aG):Bool:=(decide (q.n<=1)&&decide (q.m<=1))&&((decide (q.n=0) || decide (q.g.getD 0 0<100000))&&(decide (q.m=0) || decide (q.h.getD 0 0<=100)))
noncomputable def c4J:Ctr:=⟨[tR],[tB],fun x=>True,fun x=>(iE x.1,())⟩
theorem b2B:aH Tryz.prog 125 c4J:=by
 refine aI Lib.nil ⟨[],[],[]⟩ Tryz.func125 rfl (by decide) (fun x=>[]) (fun x hp=>?_)
 obtain⟨q,u⟩:=x
 change aG at q
 refine aO (let A₁:=(aG.g q).length;let aN:=((aB A₁==0)==false);let aU:=(decide (aB A₁ > 1)==false);let bJ:=(aG.h q).length;let dA:=(aB (List.getD (aG.g q) 0 0)<100000);let A₀:=(bif aB A₁==0 then true else decide dA);let A₂:=(A₀==true&&(aB bJ==0)==false);let aX:=((A₀==true)=true->(A₀==true)=true/\True);let dF:=(aU=true->aU=true/\True);let dL:=(aN=true->aN=true/\True);let dP:=(A₂=true->A₂=true/\True);(dF/\dF/\(decide (aB A₁ > 1)=false->aU=true)/\True)/\ifB (bif decide (aB A₁ > 1) then true else decide (aB bJ > 1)) (True/\false=iE q/\True) (((aN=true->aN=true/\asT Int 0<=0/\0<aB A₁/\True)/\dL/\dL/\((aB A₁==0)=false->aN=true)/\aX/\aX/\aX/\(A₂=true->A₂=true/\asT Int 0<=0/\0<aB bJ/\True)/\dP/\dP/\((A₀==true)=true->(A₀==true)=true/\((aB bJ==0)=false->A₂=true)/\True)/\(A₀=true->(A₀==true)=true)/\True)/\True/\(bif bif aB A₁==0 then true else decide dA then bif aB bJ==0 then true else decide (aB (List.getD (aG.h q) 0 0)<=100) else false)=iE q/\True)) (by kernel_rfl) ?_
 try simp only[zP0]
 try dsimp only[aB,asT,aA,aC,Ty.den,Lf.den] at *
 try simp only[zP1]
 try simp only[zP2]
 have h01:∀ n:Nat,(¬ (n:Int) > 1)->decide ((n:Int) > 1)=false:=fun n h=>je h
 have hd:∀ n:Nat,decide ((n:Int) > 1)=!decide (n<=1):=fun n=>by
  by_cases h:n<=1
  ·rw[jf h,je (by omega)];rfl
  ·rw[je h,jf (by omega)];rfl
 have hz:∀ n:Nat,(((n:Nat):Int)==0)=decide (n=0):=fun n=>by
  by_cases h:n=0
  ·rw[h];rfl
  ·rw[je h];exact uo.mpr (by omega)
 refine⟨h01 _,fun h=>?_,fun h=>⟨⟨fun a=>⟨a,by omega,by omega⟩,fun a=>⟨a,by omega,by omega⟩,fun a=>⟨a,fun b=>⟨a,b⟩⟩⟩,?_⟩⟩
 ·rw[hd,hd] at h
  unfold iE
  have:(decide (q.n<=1)&&decide (q.m<=1))=false:=by
   rcases h with h|h
   ·rw[show decide (q.n<=1)=false by simpa using h];rfl
   ·rw[show decide (q.m<=1)=false by simpa using h,Bool.and_false]
  rw[this];rfl
 ·rw[hd,hd] at h
  unfold iE
  rw[show decide (q.n<=1)=true by simpa using h.1,show decide (q.m<=1)=true by simpa using h.2,hz,hz]
  rw[show decide (((q.g.getD 0 0:Nat):Int)<100000)=decide (q.g.getD 0 0<100000) from Ap.mpr (by omega),show decide (((q.h.getD 0 0:Nat):Int)<=100)=decide (q.h.getD 0 0<=100) from Ap.mpr (by omega)]
  cases (decide (q.g.length=0) || decide (q.g.getD 0 0<100000))<;>rfl
noncomputable def c5R:Ctr:=⟨[tR],[tB],fun x=>True,fun x=>(!iE x.1,())⟩
theorem a6b:aH Tryz.prog 124 c5R:=by
 refine aI (nil0.ad b2B) ⟨[],[],[]⟩ Tryz.func124 rfl (by decide) (fun x=>[]) (fun x hp=>?_)
 obtain⟨q,u⟩:=x
 change aG at q
 refine aO ((True/\True)/\True/\(!iE q)=!iE q/\True) (by kernel_rfl) ?_
 try simp only[zP0]
 try dsimp only[aB,asT,aA,aC,Ty.den,Lf.den] at *
 try simp only[zP1]
 try simp only[zP2]
noncomputable def c2r:Ctr:=⟨[.list tR,.clo 124 .unit],[tI],fun x=>(show List (aG) from x.1).length<=1000000/\∀ q ∈ (show List (aG) from x.1),(fun _=>True) q,fun x=>(oC (fun q=>!iE q) (show List (aG) from x.1),())⟩
theorem a9V:aH Tryz.prog 211 c2r:=by
 refine aI (nil0.ad a6b) ⟨[],[],[]⟩ Tryz.func211 rfl (by decide) (fun x=>[.inv {k:Nat // k<=(show List (aG) from x.1).length/\((show List (aG) from x.1).take k).any (fun q=>!iE q)=false} (fun k=>[(8,.val tI (k.1:Int))]) (fun k=>[]) (fun k=>(show List (aG) from x.1).length-k.1) ⟨0,by omega,rfl⟩ (fun _=>[])]) (fun x hp=>?_)
 obtain⟨x,c,u⟩:=x
 change List (aG) at x
 change Unit at c
 refine aO ((asT Int 0=0/\True)/\∀ (i:{ k:Nat // k<=List.length x/\(List.any (List.take k x) fun(q:aG)=>!iE q)=false }),asT Bool true=true/\ifB (decide (aB (aA i)<aB x.length)) ((0<=aB (aA i)/\aB (aA i)<aB x.length/\True/\True)/\ifB (!iE (List.getD x (aB (aA i)).toNat bF)) (True/\aB (aA i)=oC (fun(q:aG)=>!iE q) x/\True) (∃ (i':{ k:Nat // k<=List.length x/\(List.any (List.take k x) fun(q:aG)=>!iE q)=false }),List.length x-aA i'<List.length x-aA i/\IntKind.wrap IntKind.i64 (aB (aA i)+1)=aB (aA i')/\True)) (True/\-1=oC (fun(q:aG)=>!iE q) x/\True)) (by kernel_rfl) ?_
 try simp only[zP0]
 try dsimp only[aB,asT,aA,aC,Ty.den,Lf.den] at *
 try simp only[zP1]
 try simp only[zP2]
 have hp:x.length<=1000000/\∀ q ∈ x,(fun _=>True) q:=hp
 obtain⟨hl,hb⟩:=hp
 refine fun i=>⟨fun h1=>⟨(by first|exact⟨by omega,h1,cZ hb (by omega)⟩|exact⟨by omega,h1⟩),fun h2=>?_,fun h2=>⟨⟨i.1+1,by omega,?_⟩,by simp only;omega,?_⟩⟩,fun h1=>?_⟩
 ·exact(wQ (d:=bF) (by omega) i.2.2 (by first|exact h2|rw[h2];rfl)).symm
 ·rw[uD (d:=bF) (by omega),i.2.2,h2];rfl
 ·rw[aJ (by omega) (by omega)];rfl
 ·have h3:=i.2.2
  rw[jc (by omega)] at h3
  exact(CV h3).symm
noncomputable def c2a:Ctr:=⟨[.list tR,.clo 124 .unit],[tB],fun x=>(show List (aG) from x.1).length<=1000000/\∀ q ∈ (show List (aG) from x.1),(fun _=>True) q,fun x=>((show List (aG) from x.1).any (fun q=>!iE q),())⟩
theorem a8H:aH Tryz.prog 123 c2a:=by
 refine aI ((nil0.ad a6b).ad a9V) ⟨[],[],[]⟩ Tryz.func123 rfl (by decide) (fun x=>[]) (fun x hp=>?_)
 obtain⟨x,c,u⟩:=x
 change List (aG) at x
 change Unit at c
 refine aO (((List.length x<=1000000/\∀ (q:aG),q ∈ x->True)/\True)/\True/\(decide (oC (fun(q:aG)=>!iE q) x ≥ 0)=List.any x fun(q:aG)=>!iE q)/\True) (by kernel_rfl) ?_
 exact⟨⟨hp,trivial⟩,trivial,wR _ _,trivial⟩
noncomputable def c5T:Ctr:=⟨[.list tR],[tB],fun x=>(show LR from x.1).length<=1000000,fun x=>((show LR from x.1).all iE,())⟩
theorem b5m:aH Tryz.prog 44 c5T:=by
 refine aI (nil0.ad a8H) ⟨[],[],[]⟩ Tryz.func44 rfl (by decide) (fun x=>[]) (fun x hp=>?_)
 obtain⟨x,u⟩:=x
 change List aG at x
 refine aO (((List.length x<=1000000/\∀ (q:aG),q ∈ x->True)/\True)/\True/\(!List.any x fun(q:aG)=>!iE q)=List.all x iE/\True) (by kernel_rfl) ?_
 try simp only[zP0]
 try dsimp only[aB,asT,aA,aC,Ty.den,Lf.den] at *
 try simp only[zP1]
 try simp only[zP2]
 refine⟨hp,?_⟩
 rw[Bool.eq_iff_iff];simp
def rY (r:LR):Bool:=decide (r.length > 4) || !r.all iE
def UL (f:MR):Bool:=decide (f.length<=4)&&!f.any rY
noncomputable def c5O:Ctr:=⟨[.list tR],[tB],fun x=>True,fun x=>(rY x.1,())⟩
theorem a5Z:aH Tryz.prog 83 c5O:=by
 refine aI (nil0.ad b5m) ⟨[],[],[]⟩ Tryz.func83 rfl (by decide) (fun x=>[]) (fun x hp=>?_)
 obtain⟨r,u⟩:=x
 change List aG at r
 refine aO (let A₁:=(aB r.length > 4);let A₀:=(decide A₁==false);((A₀=true->A₀=true/\List.length r<=1000000/\True)/\(A₀=true->A₀=true/\True)/\(decide A₁=false->A₀=true)/\True)/\True/\(bif decide A₁ then true else !List.all r iE)=rY r/\True) (by kernel_rfl) ?_
 try simp only[zP0]
 try dsimp only[aB,asT,aA,aC,Ty.den,Lf.den] at *
 try simp only[zP1]
 try simp only[zP2]
 have e:decide ((r.length:Int) > 4)=decide (r.length > 4):=Ap.mpr (by omega)
 refine⟨⟨fun h=>⟨h,by have:=yg h;omega⟩,fun h=>je h⟩,?_⟩
 rw[e];rfl
noncomputable def c2p:Ctr:=⟨[.list (.list tR),.clo 83 .unit],[tI],fun x=>(show List (List aG) from x.1).length<=1000000/\∀ q ∈ (show List (List aG) from x.1),(fun _=>True) q,fun x=>(oC rY (show List (List aG) from x.1),())⟩
theorem a9U:aH Tryz.prog 166 c2p:=by
 refine aI (nil0.ad a5Z) ⟨[],[],[]⟩ Tryz.func166 rfl (by decide) (fun x=>[.inv {k:Nat // k<=(show List (List aG) from x.1).length/\((show List (List aG) from x.1).take k).any rY=false} (fun k=>[(8,.val tI (k.1:Int))]) (fun k=>[]) (fun k=>(show List (List aG) from x.1).length-k.1) ⟨0,by omega,rfl⟩ (fun _=>[])]) (fun x hp=>?_)
 obtain⟨x,c,u⟩:=x
 change List (List aG) at x
 change Unit at c
 refine aO ((asT Int 0=0/\True)/\∀ (i:{ k:Nat // k<=List.length x/\List.any (List.take k x) rY=false }),asT Bool true=true/\ifB (decide (aB (aA i)<aB x.length)) ((0<=aB (aA i)/\aB (aA i)<aB x.length/\True/\True)/\ifB (rY (List.getD x (aB (aA i)).toNat (aC aG))) (True/\aB (aA i)=oC rY x/\True) (∃ (i':{ k:Nat // k<=List.length x/\List.any (List.take k x) rY=false }),List.length x-aA i'<List.length x-aA i/\IntKind.wrap IntKind.i64 (aB (aA i)+1)=aB (aA i')/\True)) (True/\-1=oC rY x/\True)) (by kernel_rfl) ?_
 try simp only[zP0]
 try dsimp only[aB,asT,aA,aC,Ty.den,Lf.den] at *
 try simp only[zP1]
 try simp only[zP2]
 have hp:x.length<=1000000/\∀ q ∈ x,(fun _=>True) q:=hp
 obtain⟨hl,hb⟩:=hp
 refine fun i=>⟨fun h1=>⟨(by first|exact⟨by omega,h1,cZ hb (by omega)⟩|exact⟨by omega,h1⟩),fun h2=>?_,fun h2=>⟨⟨i.1+1,by omega,?_⟩,by simp only;omega,?_⟩⟩,fun h1=>?_⟩
 ·exact(wQ (d:=[]) (by omega) i.2.2 (by first|exact h2|rw[h2];rfl)).symm
 ·rw[uD (d:=[]) (by omega),i.2.2,h2];rfl
 ·rw[aJ (by omega) (by omega)];rfl
 ·have h3:=i.2.2
  rw[jc (by omega)] at h3
  exact(CV h3).symm
noncomputable def c1Z:Ctr:=⟨[.list (.list tR),.clo 83 .unit],[tB],fun x=>(show List (List aG) from x.1).length<=1000000/\∀ q ∈ (show List (List aG) from x.1),(fun _=>True) q,fun x=>((show List (List aG) from x.1).any rY,())⟩
theorem a8G:aH Tryz.prog 82 c1Z:=by
 refine aI ((nil0.ad a5Z).ad a9U) ⟨[],[],[]⟩ Tryz.func82 rfl (by decide) (fun x=>[]) (fun x hp=>?_)
 obtain⟨x,c,u⟩:=x
 change List (List aG) at x
 change Unit at c
 refine aO (((List.length x<=1000000/\∀ (q:List aG),q ∈ x->True)/\True)/\True/\decide (oC rY x ≥ 0)=List.any x rY/\True) (by kernel_rfl) ?_
 exact⟨⟨hp,trivial⟩,trivial,wR _ _,trivial⟩
noncomputable def c5Q:Ctr:=⟨[tMR],[tB],fun x=>True,fun x=>(UL x.1,())⟩
theorem b5l:aH Tryz.prog 20 c5Q:=by
 refine aI (nil0.ad a8G) ⟨[],[],[]⟩ Tryz.func20 rfl (by decide) (fun x=>[]) (fun x hp=>?_)
 obtain⟨f,u⟩:=x
 change List (List aG) at f
 refine aO (let A₁:=(aB f.length<=4);let A₀:=(decide A₁==true);((A₀=true->A₀=true/\(List.length f<=1000000/\∀ (q:List aG),q ∈ f->True)/\True)/\(A₀=true->A₀=true/\True)/\(decide A₁=true->A₀=true)/\True)/\True/\(bif decide A₁ then !List.any f rY else false)=UL f/\True) (by kernel_rfl) ?_
 try simp only[zP0]
 try dsimp only[aB,asT,aA,aC,Ty.den,Lf.den] at *
 try simp only[zP1]
 try simp only[zP2]
 have e:decide ((f.length:Int)<=4)=decide (f.length<=4):=Ap.mpr (by omega)
 refine⟨⟨fun h=>⟨h,by have:=og h;omega⟩,fun h=>jf h⟩,?_⟩
 rw[e];rfl
end Go.Proofs.YtbkocjmmbkifjaaGreat
