/-
  Lemmas for the theorem vrecovers28_holds, part 23 of 35.
-/
import Derived.Test.YtbkocjmmbkifjaaGreatQr22
namespace Go.Proofs.YtbkocjmmbkifjaaGreat
open Go Go.RowKit
set_option maxRecDepth 100000
set_option maxHeartbeats 1000000
set_option linter.unusedVariables false
set_option linter.unusedSimpArgs false
theorem a8W {f:FuncId} {pre:LN->LN->Prop} [∀ x y,Dc (pre x y)] {g:LN->LN->LN} (h:∀ (s t:Value) (a b:LN) (w:World),Rd w s a->Rd w t b->pre a b->Calls Tryz.prog f #[s,t] w (a8O (g a b) w)):aI Tryz.prog f (cGG pre g):=by
 intro F w vs x hF hvs hp
 obtain⟨v,vs',rfl,h1,u,vs'',rfl,h2,h3⟩:=hvs
 have h3:vs''=[]:=h3
 subst h3
 refine(h v u x.1 x.2.1 w (rD h1) (rD h2) hp).mono ?_
 rintro e w' ⟨r,rfl,hr,_,hb⟩
 exact⟨r,rfl,KJ hr,hb⟩
noncomputable def c5p:Ctr:=⟨[tB,tG],[tZ],fun x=>Low x.2.1/\(show LN from x.2.1).length<=2000000001,fun x=>(sg x.1 (val x.2.1),())⟩
theorem MO:aI Tryz.prog 115 c5p:=by
 intro F w vs x hF hvs hp
 obtain⟨v,vs',rfl,h1,u,vs'',rfl,h2,h3⟩:=hvs
 have h3:vs''=[]:=h3
 subst h3
 rw[a3m h1]
 refine(gX x.1 u x.2.1 w (rD h2) hp.1 hp.2).mono ?_
 rintro e w' ⟨r,rfl,hr,hb⟩
 exact⟨r,rfl,YS hr,hb⟩
theorem yN:aI Tryz.prog 164 (cZ1 fun x=>x):=by
 intro F w vs x hF hvs hp
 obtain⟨v,vs',rfl,h1,h3⟩:=hvs
 have h3:vs'=[]:=h3
 subst h3
 refine(a4q v x.1 w (QS h1) hp).mono ?_
 rintro e w' ⟨r,rfl,hr,hb⟩
 exact⟨r,rfl,YS hr,hb⟩
noncomputable def c5z:Ctr:=⟨[tG,tG],[tG,tG],fun x=>Canon x.1/\Canon x.2.1/\(show LN from x.1).length<=1000000000/\(show LN from x.2.1)≠[],fun x=>(dig (val x.1 / val x.2.1),dig (val x.1%val x.2.1),())⟩
theorem a4l:aI Tryz.prog 215 c5z:=by
 intro F w vs x hF hvs hp
 obtain⟨v,vs',rfl,h1,u,vs'',rfl,h2,h3⟩:=hvs
 have h3:vs''=[]:=h3
 subst h3
 refine(FY v u x.1 x.2.1 w (rD h1) (rD h2) hp.1 hp.2.1 hp.2.2.1 hp.2.2.2).mono ?_
 rintro e w' ⟨r,s,rfl,hr,hs,hb⟩
 exact⟨_,rfl,⟨[_,_],rfl,_,_,rfl,KJ hr,_,_,rfl,KJ hs,rfl⟩,hb⟩
noncomputable def c5P:Ctr:=⟨[tG,tG],[tI],fun x=>Canon x.1/\Canon x.2.1/\(show LN from x.1).length<=2000000000,fun x=>(bZ (val x.1) (val x.2.1),())⟩
theorem a8q:aI Tryz.prog 240 c5P:=by
 intro F w vs x hF hvs hp
 obtain⟨v,vs',rfl,h1,u,vs'',rfl,h2,h3⟩:=hvs
 have h3:vs''=[]:=h3
 subst h3
 refine(qL v u x.1 x.2.1 w (rD h1) (rD h2) hp.1 hp.2.1 hp.2.2).mono ?_
 rintro e w' ⟨rfl,hb⟩
 exact⟨_,rfl,OD _,hb⟩
theorem c4G:aI Tryz.prog 239 (cGG (fun a b=>Low a/\Low b/\a.length<=1000000000/\b.length<=1000000000) (fun a b=>dig (val a+val b))):=(a8W fun s t a b w hs ht h=>YG s t a b w hs ht h.1 h.2.1 h.2.2.1 h.2.2.2)
theorem c4H:aI Tryz.prog 241 (cGG (fun a b=>Low a/\Low b/\a.length<=1000000002/\b.length<=a.length/\val b<=val a) (fun a b=>dig (val a-val b))):=(a8W fun s t a b w hs ht h=>uT s t a b w hs ht h.1 h.2.1 h.2.2.1 h.2.2.2.1 h.2.2.2.2)
theorem b3z:aI Tryz.prog 33 cIZ:=(a3q fun x w h0 h1=>yJ x w h0 h1)
theorem a1f:aI Tryz.prog 106 (cZ1 fun x=>-x):=by
 refine aJ ((nil0.ad yN).ad MO) ⟨[2,1],[],[]⟩ Tryz.func106 rfl (by decide) (fun x=>[]) (fun x hp=>?_)
 obtain⟨x,u⟩:=x
 change Int at x
 refine aT ((isz x<=1000000000/\True)/\((Low (dig (Int.natAbs x))/\List.length (dig (Int.natAbs x))<=2000000001)/\True)/\True/\sg (!decide (x<0)) (val (dig (Int.natAbs x)))=-x/\True) (by kernel_rfl) ?_
 have hZ:(⟨false,0,[],[]⟩:aH)=bC:=rfl
 try simp only[aC,aj,ah]
 try dsimp only[aB,asT,aA,aF,Ty.den,Lf.den] at *
 try simp only[hZ,Int.toNat_natCast,aC,aj,ah,jg,jf,gy,bg]
 try simp only[bT,bP,List.all_cons,List.all_nil,jh,dw,ig,je,jy,ne_eq,au,bn,dh,eu,jd,oh,jo,oq,jg,jf,iw,bf,List.length_cons,List.length_nil]
 have hp:isz x<=1000000000:=hp
 refine⟨hp,⟨bH _,by rw[c3C];omega⟩,?_⟩
 rw[aU]
 unfold sg
 by_cases h:x<0<;>simp[h]<;>omega
theorem KQ:aI Tryz.prog 77 (c5S 1000000000 sgn):=by
 refine aJ (nil0.ad yN) ⟨[1],[],[]⟩ Tryz.func77 rfl (by decide) (fun x=>[]) (fun x hp=>?_)
 obtain⟨x,u⟩:=x
 change Int at x
 refine aT ((isz x<=1000000000/\True)/\ifB (aB (dig (Int.natAbs x)).length==0) (True/\0=sgn x/\True) (ifB (decide (x<0)) (True/\-1=sgn x/\True) (True/\1=sgn x/\True))) (by kernel_rfl) ?_
 have hZ:(⟨false,0,[],[]⟩:aH)=bC:=rfl
 try simp only[aC,aj,ah]
 try dsimp only[aB,asT,aA,aF,Ty.den,Lf.den] at *
 try simp only[hZ,Int.toNat_natCast,aC,aj,ah,jg,jf,gy,bg]
 try simp only[bT,bP,List.all_cons,List.all_nil,jh,dw,ig,je,jy,ne_eq,au,bn,dh,eu,jd,oh,jo,oq,jg,jf,iw,bf,List.length_cons,List.length_nil]
 rw[a1z]
 refine⟨hp,fun h=>?_,fun h=>⟨fun h1=>(uf h1).symm,fun h1=>?_⟩⟩
 ·rw[show x=0 by have:=tu h;omega];rfl
 ·have:=ru h
  exact(uy (by omega)).symm
theorem a6S:aI Tryz.prog 163 (cZ2 fun x y=>x+y):=by
 refine aJ (((((nil0.ad yN).ad MO).ad c4G).ad c4H).ad a8q) ⟨[4,2,3],[],[]⟩ Tryz.func163 rfl (by decide) (fun x=>[]) (fun x hp=>?_)
 obtain⟨x,y,u⟩:=x
 change Int at x
 change Int at y
 refine aT (let A₀:=(dig (val (dig (Int.natAbs x))+val (dig (Int.natAbs y))));let A₁:=(dig (val (dig (Int.natAbs x))-val (dig (Int.natAbs y))));let A₂:=(dig (val (dig (Int.natAbs y))-val (dig (Int.natAbs x))));(isz x<=1000000000/\isz y<=1000000000/\True)/\ifB (decide (x<0)==decide (y<0)) (((Low (dig (Int.natAbs x))/\Low (dig (Int.natAbs y))/\List.length (dig (Int.natAbs x))<=1000000000/\List.length (dig (Int.natAbs y))<=1000000000)/\(Low A₀/\List.length A₀<=2000000001)/\True)/\True/\sg (decide (x<0)) (val A₀)=x+y/\True) (((Canon (dig (Int.natAbs x))/\Canon (dig (Int.natAbs y))/\List.length (dig (Int.natAbs x))<=2000000000)/\True)/\ifB (decide (bZ (aB (val (dig (Int.natAbs x)))) (aB (val (dig (Int.natAbs y)))) ≥ 0)) (((Low (dig (Int.natAbs x))/\Low (dig (Int.natAbs y))/\List.length (dig (Int.natAbs x))<=1000000002/\List.length (dig (Int.natAbs y))<=List.length (dig (Int.natAbs x))/\val (dig (Int.natAbs y))<=val (dig (Int.natAbs x)))/\(Low A₁/\List.length A₁<=2000000001)/\True)/\True/\sg (decide (x<0)) (val A₁)=x+y/\True) (((Low (dig (Int.natAbs y))/\Low (dig (Int.natAbs x))/\List.length (dig (Int.natAbs y))<=1000000002/\List.length (dig (Int.natAbs x))<=List.length (dig (Int.natAbs y))/\val (dig (Int.natAbs x))<=val (dig (Int.natAbs y)))/\(Low A₂/\List.length A₂<=2000000001)/\True)/\True/\sg (decide (y<0)) (val A₂)=x+y/\True))) (by kernel_rfl) ?_
 have hZ:(⟨false,0,[],[]⟩:aH)=bC:=rfl
 try simp only[aC,aj,ah]
 try dsimp only[aB,asT,aA,aF,Ty.den,Lf.den] at *
 try simp only[hZ,Int.toNat_natCast,aC,aj,ah,jg,jf,gy,bg]
 try simp only[bT,bP,List.all_cons,List.all_nil,jh,dw,ig,je,jy,ne_eq,au,bn,dh,eu,jd,oh,jo,oq,jg,jf,iw,bf,List.length_cons,List.length_nil]
 obtain⟨l1,l2⟩:isz x<=1000000000/\isz y<=1000000000:=hp
 have d1:(dig x.natAbs).length<=1000000000:=l1
 have d2:(dig y.natAbs).length<=1000000000:=l2
 have d3:=a0x x.natAbs y.natAbs
 unfold nsz at d3
 have d4:=aS (Nat.sub_le x.natAbs y.natAbs)
 have d5:=aS (Nat.sub_le y.natAbs x.natAbs)
 have e:x+y=sg (decide (x<0)) x.natAbs+sg (decide (y<0)) y.natAbs:=by rw[sgf,sgf]
 simp only[aU]
 rw[e]
 refine⟨⟨l1,l2⟩,fun h=>⟨⟨⟨bH _,bH _,l1,l2⟩,bH _,by omega⟩,c4v h⟩,fun h=>⟨⟨dB _,dB _,by omega⟩,fun h3=>?_,fun h3=>?_⟩⟩
 ·have h4:=a5b h3
  have:=aS h4
  exact⟨⟨⟨bH _,bH _,by omega,this,h4⟩,bH _,by omega⟩,c4w h h4⟩
 ·have h4:=a5c h3
  have:=aS h4
  exact⟨⟨⟨bH _,bH _,by omega,this,h4⟩,bH _,by omega⟩,c4x h h4⟩
theorem a6U:aI Tryz.prog 214 (cZ2 fun x y=>x-y):=by
 refine aJ ((nil0.ad a6S).ad a1f) ⟨[4],[],[]⟩ Tryz.func214 rfl (by decide) (fun x=>[]) (fun x hp=>?_)
 obtain⟨x,y,u⟩:=x
 change Int at x
 change Int at y
 refine aT ((isz y<=1000000000/\(isz x<=1000000000/\isz (-y)<=1000000000)/\True)/\True/\x+-y=x-y/\True) (by kernel_rfl) ?_
 have hZ:(⟨false,0,[],[]⟩:aH)=bC:=rfl
 try simp only[aC,aj,ah]
 try dsimp only[aB,asT,aA,aF,Ty.den,Lf.den] at *
 try simp only[hZ,Int.toNat_natCast,aC,aj,ah,jg,jf,gy,bg]
 try simp only[bT,bP,List.all_cons,List.all_nil,jh,dw,ig,je,jy,ne_eq,au,bn,dh,eu,jd,oh,jo,oq,jg,jf,iw,bf,List.length_cons,List.length_nil]
 obtain⟨l1,l2⟩:isz x<=1000000000/\isz y<=1000000000:=hp
 exact⟨⟨l2,l1,by rw[jS];exact l2⟩,Int.sub_eq_add_neg.symm⟩
theorem a6T:aI Tryz.prog 161 (cZ2 fun x y=>x*y):=(a9a fun v u x y w h1 h2 l1 l2=>b2q v u x y w h1 h2 l1 l2)
theorem b6A:aI Tryz.prog 200 (c2V 400000000):=by
 refine aJ ((((((nil0.ad yN).ad MO).ad a4l).ad b3z).ad a6U).ad a6T) ⟨[4,5,9,2,3],[],[]⟩ Tryz.func200 rfl (by decide) (fun x=>[]) (fun x hp=>?_)
 obtain⟨x,y,u⟩:=x
 change Int at x
 change Int at y
 refine aT (let A₀:=(dig (val (dig (Int.natAbs x)) / val (dig (Int.natAbs y))));let A₁:=(decide (x<0) != decide (y<0));let A₂:=((A₁==true)=true->(A₁==true)=true/\True);(isz x<=1000000000/\isz y<=1000000000/\True)/\ifB (aB (dig (Int.natAbs y)).length==0) (True/\0=Int.fdiv x y/\True/\0=Int.fmod x y/\True/\asT Int 14=0/\True) (((Canon (dig (Int.natAbs x))/\Canon (dig (Int.natAbs y))/\List.length (dig (Int.natAbs x))<=1000000000/\dig (Int.natAbs y)≠aF Nat)/\True)/\((Low A₀/\List.length A₀<=2000000001)/\True)/\(A₂/\A₂/\(A₁=true->(A₁==true)=true)/\True)/\ifB (bif decide (x<0) != decide (y<0) then decide (aB (dig (val (dig (Int.natAbs x))%val (dig (Int.natAbs y)))).length > 0) else false) ((bU 1/\(isz (sg A₁ (val A₀))<=1000000000/\isz 1<=1000000000)/\True)/\((isz (sg A₁ (val A₀)-1)<=1000000000/\isz y<=1000000000)/\(isz x<=1000000000/\isz ((sg A₁ (val A₀)-1)*y)<=1000000000)/\True)/\True/\sg A₁ (val A₀)-1=Int.fdiv x y/\True/\x-(sg A₁ (val A₀)-1)*y=Int.fmod x y/\True/\asT Int 0=0/\True) (((isz (sg A₁ (val A₀))<=1000000000/\isz y<=1000000000)/\(isz x<=1000000000/\isz (sg A₁ (val A₀)*y)<=1000000000)/\True)/\True/\sg A₁ (val A₀)=Int.fdiv x y/\True/\x-sg A₁ (val A₀)*y=Int.fmod x y/\True/\asT Int 0=0/\True))) (by kernel_rfl) ?_
 have hZ:(⟨false,0,[],[]⟩:aH)=bC:=rfl
 try simp only[aC,aj,ah]
 try dsimp only[aB,asT,aA,aF,Ty.den,Lf.den] at *
 try simp only[hZ,Int.toNat_natCast,aC,aj,ah,jg,jf,gy,bg]
 try simp only[bT,bP,List.all_cons,List.all_nil,jh,dw,ig,je,jy,ne_eq,au,bn,dh,eu,jd,oh,jo,oq,jg,jf,iw,bf,List.length_cons,List.length_nil]
 obtain⟨l1,l2,hy⟩:isz x<=400000000/\isz y<=400000000/\y≠0:=hp
 have n0:0<y.natAbs:=by omega
 simp only[aU,a9C,a1z]
 have sz:∀ b,isz (sg b (x.natAbs / y.natAbs:Nat))<=400000000:=fun b=>b0H l1 _ _ rfl
 have lq:(dig (x.natAbs / y.natAbs)).length<=400000000:=jl (aS (Nat.div_le_self _ _)) l1
 have sz1:∀ b,isz (sg b (x.natAbs / y.natAbs:Nat)-1)<=400000001:=fun b=>jl (PN _ _) (by rw[show isz 1=1 by decide +kernel];have:=sz b;omega)
 refine⟨⟨by omega,by omega⟩,fun h=>absurd (tu h) (by omega),fun _=>⟨⟨dB _,dB _,by rw[c3C];omega,fun e=>by have:=gY.1 e;omega⟩,⟨bH _,by omega⟩,⟨fun h=>h,fun h=>h,fun h=>by rw[h];rfl⟩,fun h=>?_,fun h=>?_⟩⟩
 ·cases hs:decide (x<0) != decide (y<0)
  ·rw[hs] at h;cases h
  ·rw[hs] at h
   have hr:x.natAbs%y.natAbs≠0:=tu h
   obtain⟨a,b⟩:=WM (decide (x<0)) (decide (y<0)) x.natAbs y.natAbs n0 hs hr
   rw[sgf,sgf] at a b
   have e:sg true (x.natAbs / y.natAbs:Nat)-1=x.fdiv y:=by rw[a];unfold sg;simp;omega
   have f:=a5q x y e
   have s1:=sz true
   have s2:=sz1 true
   have s3:=gK (sg true (x.natAbs / y.natAbs:Nat)-1) y
   exact⟨⟨⟨by omega,by omega⟩,by omega,by decide +kernel⟩,⟨⟨by omega,by omega⟩,by omega,by omega⟩,f⟩
 ·have key:∀ q:Int,isz q<=400000000->q=x.fdiv y->((isz q<=1000000000/\isz y<=1000000000)/\isz x<=1000000000/\isz (q*y)<=1000000000)/\q=x.fdiv y/\x-q*y=x.fmod y:=fun q hq e=>by
   have:=gK q y
   exact⟨⟨⟨by omega,by omega⟩,by omega,by omega⟩,a5q x y e⟩
  cases hs:decide (x<0) != decide (y<0)
  ·have hs:decide (x<0)=decide (y<0):=by simpa using hs
   obtain⟨a,b⟩:=WO (decide (y<0)) x.natAbs y.natAbs n0
   rw[sgf,<-hs,sgf] at a
   exact key _ (sz false) a.symm
  ·have hr:x.natAbs%y.natAbs=0:=Decidable.byContradiction fun e=>by rw[hs,um e] at h;cases h
   obtain⟨a,b⟩:=RS (decide (x<0)) (decide (y<0)) x.natAbs y.natAbs n0 hs hr
   rw[sgf,sgf] at a
   exact key _ (sz true) a.symm
set_option maxHeartbeats 4000000
theorem c2r (w:World) (r q:Nat):Rd (w.alloc (.cells #[.int .u32 (r:Nat),.int .u32 (q:Nat)] 148)) (.slice (some ⟨w.heap.size,0,none⟩) 2 2) [r,q] :=
 Rd.dM (l:=[r,q]) (World.ownsRow_lit (size:=1) w #[.int .u32 (r:Nat),.int .u32 (q:Nat)] 2 (ay _) (by simp[maxLen]) (by simp))
theorem b2p (v u:Value) (x y:Int) (w:World) (hv:Raw w v x) (hu:Raw w u y) (hl:isz x<=1000000000) (hl2:isz y<=1000000000) :
  Calls Tryz.prog 131 #[v,u] w (uZ ((Int.gcd x y:Nat):Int) w):=by
 obtain⟨b,p,n,c,rfl⟩:=hv.form
 obtain⟨d,o,m,e,rfl⟩:=hu.form
 have hlx:(dig x.natAbs).length<=1000000000:=hl
 have hly:(dig y.natAbs).length<=1000000000:=hl2
 have hfi:=iZ
 have k0:=iZ
 have kS:Below w.heap.size w w:=jk _ _
 go_enter Tryz.func131,Tryz.ntmps131
 go_wp2_with fail
 obtain⟨hA1,l0,m0,n0⟩:=bx3 w rfl [.bool b,.slice p n c] 45 [.bool d,.slice o m e] 45 [.bool false,.slice none 0 0] 45
 have b7F:=(iC.mk (l0.drew).bs2 (m0.drew).bs2)
 have tk1:True:=trivial
 have tk2:True:=trivial
 go_region_held3 (iC (BS2 w.heap.size (.bool b) (.slice p n c)) (BS2 (w.heap.size+1) (.bool d) (.slice o m e))) (first|with_reducible exact b7F|with_reducible exact qP.go (iC.hk BS2.hk BS2.hk) (by assumption) (by assumption)|(simp;done))
  (first
   | (((have:=tk1);clear tk1;have a0:=(hv.below hA1).drew;go_at_call 164;(with_reducible refine(gV _ (x) _ a0 (by omega)).mono ?_);rintro e w1 ⟨v1,rfl,hi1,hb1⟩;obtain⟨g1,p1,n1,c1,rfl⟩:=hi1.form;obtain rfl:n1=(dig x.natAbs).length:=hi1.len))
   | (((have:=tk2);clear tk2;have a0k:=((hu.below hA1).drew.below hb1);have d0:=a0k;go_at_call 164;(with_reducible refine(gV _ (y) _ d0 (by omega)).mono ?_);rintro e w2 ⟨v2,rfl,hi2,hb2⟩;obtain⟨g2,p2,n2,c2,rfl⟩:=hi2.form;obtain rfl:n2=(dig y.natAbs).length:=hi2.len)))
 have o0:=(hi1.below hb2)
 have a0z:=((n0.drew.to hb1).to hb2)
 have j0:=(Below.tr (Below.tr (Below.tr kS hA1).drew hb1) hb2)
 go_wp2_with fail
 clear hl hl2
 go_loopg [5,6,7,8,17,18,19,20,21,22,23,24,25,26,27,28,29,30,31,32,33,34,35,36,37] (val (dig y.natAbs)) (fun k a b _ _ _ _ _ _ _ _ _ _ _ _ _ _ _ _ _ _ _ _ _ _ _ wr=>∃ (l1 l2:List Nat) (pa pb:Option Addr) (ca cb:Nat),a=.slice pa l1.length ca/\b=.slice pb l2.length cb/\Rd wr (.slice pa l1.length ca) l1/\Rd wr (.slice pb l2.length cb) l2/\Canon l1/\Canon l2/\l1.length<=1000000000/\l2.length<=1000000000/\Hid (Nat.gcd (val l1) (val l2)=Int.gcd x y)/\Hid (k=val l2)/\Bx wr (w.heap.size+1+1) [.bool false,.slice none 0 0]/\Below w.heap.size w wr)
 case atStart=>exact⟨_,_,_,_,_,_,rfl,rfl,o0.rd,hi2.rd,dB _,dB _,hlx,hly,a7t x y,rfl,a0z,j0⟩
 case round =>
  obtain⟨l1,l2,pa,pb,ca,cb,rfl,rfl,ha,hb,ca1,cb1,la,lb,hg,hk,hq,hB⟩:=hrel
  have hzB:=hB.size
  have cl1:Low l1:=ca1.1
  have cl2:Low l2:=cb1.1
  by_cases hne:l2=[]
  ·subst hne
   have HX:Hid (sg false (val l1)=((Int.gcd x y:Nat):Int)):=gcd_zero hg.out
   go_wp2_with fail
   have b0:=ha
   (with_reducible refine(gX _ _ _ _ b0 cl1 (by omega)).mono ?_)
   rintro e w1 ⟨v1,rfl,hi1,hb1⟩
   obtain⟨g1,p1,n1,c1,rfl⟩:=hi1.form
   have a8b:=(hq.to hb1)
   obtain⟨e0,h0,g0,i0⟩:=a8b.cf2
   have b0i:=(Below.tr hB hb1)
   go_wp2_with fail
   exact wz (v:=.agg #[.bool g1,.slice p1 n1 c1]) (by simp[results,Tryz.results131,go_sem,e0,h0,g0,i0]) rfl ⟨_,rfl,kZ (hi1.bM a8b rfl rfl (.bool g1) (.slice p1 n1 c1)) HX.out,(Below.bM b0i (b:=w.heap.size+1+1) (by omega) (.bool g1) (.slice p1 n1 c1))⟩
  ·have hl0:0<l2.length:=yu.2 hne
   have hlz:((l2.length:Int)==0)=false:=by simp;omega
   have HLE:Hid ((dig (val l1%val l2)).length<=1000000000):=by
    unfold Hid
    have:=aS (Nat.le_of_lt (Au (val l1) (cb1.pos hne)))
    rw[dO cb1] at this
    omega
   by_cases h1:2<l1.length
   ·skip
    go_wp2_with fail
    have a0:=ha
    have b0:=hb
    (with_reducible refine(FY _ _ _ _ _ a0 b0 ca1 cb1 la hne).mono ?_)
    rintro e w1 ⟨s1,t1,rfl,hs1,ht1,hb1⟩
    obtain⟨p1,c1,rfl,b8i,c3Z⟩:=hs1.form
    obtain⟨o1,d1,rfl,hlo1,c6j⟩:=ht1.form
    have b8c:=(hb.below hb1)
    have a8b:=(hq.to hb1)
    have b0i:=(Below.tr hB hb1)
    go_wp2_with fail
    go_roundg (val (dig (val l1%val l2)))
    case measure=>rw[hk.out,aU];exact Au _ (cb1.pos hne)
    case rel=>exact⟨_,_,_,_,_,_,rfl,rfl,b8c,ht1,cb1,dB _,lb,HLE.out,by unfold Hid;rw[aU];exact RZ hg.out,rfl,a8b,b0i⟩
   ·by_cases h2:2<l2.length
    ·skip
     go_wp2_with fail
     have a0:=ha
     have b0:=hb
     (with_reducible refine(FY _ _ _ _ _ a0 b0 ca1 cb1 la hne).mono ?_)
     rintro e w1 ⟨s1,t1,rfl,hs1,ht1,hb1⟩
     obtain⟨p1,c1,rfl,b8i,c3Z⟩:=hs1.form
     obtain⟨o1,d1,rfl,hlo1,c6j⟩:=ht1.form
     have b8c:=(hb.below hb1)
     have a8b:=(hq.to hb1)
     have b0i:=(Below.tr hB hb1)
     go_wp2_with fail
     go_roundg (val (dig (val l1%val l2)))
     case measure=>rw[hk.out,aU];exact Au _ (cb1.pos hne)
     case rel=>exact⟨_,_,_,_,_,_,rfl,rfl,b8c,ht1,cb1,dB _,lb,HLE.out,by unfold Hid;rw[aU];exact RZ hg.out,rfl,a8b,b0i⟩
    ·skip
     go_wp2_with fail
     have a0:=ha
     (with_reducible refine(YF _ _ _ a0 cl1 (by omega)).mono ?_)
     rintro e w' ⟨rfl,rfl⟩
     go_wp2_with fail
     have d0:=hb
     (with_reducible refine(YF _ _ _ d0 cl2 (by omega)).mono ?_)
     rintro e w' ⟨rfl,rfl⟩
     go_wp2_with fail
     have hM:=WU ca1 (by omega)
     have hK:=WU cb1 (by omega)
     clear ha hb
     go_loopw [9,10,47,48,49,50,51,52] (fun m n _ _ _ _ _ _ wr=>∃ M K:Nat,m=.int .u64 (M:Nat)/\n=.int .u64 (K:Nat)/\M<=999999999999999999/\K<=999999999999999999/\Hid (Nat.gcd M K=Int.gcd x y)/\Bx wr (w.heap.size+1+1) [.bool false,.slice none 0 0]/\Below w.heap.size w wr) (fun _ n _ _ _ _ _ _ _=>(intOf n).toNat)
     case atStart=>exact⟨_,_,rfl,rfl,hM,hK,hg,hq,hB⟩
     case round =>
      obtain⟨M,K,rfl,rfl,hM,hK,hg2,hq2,hB2⟩:=hrel
      by_cases hk0:0<K
      ·obtain⟨R,hR⟩:∃ R,M%K=R:=⟨_,rfl⟩
       have c3K:R<K:=by rw[<-hR];exact Au _ hk0
       have i2:(M:Int)%K=R:=by rw[<-hR];simp
       have i3:(M:Int).tmod K=R:=by rw[Ef (by omega)];exact i2
       have w2':IntKind.u64.wrap (R:Int)=R:=wrap_u64 (by omega)
       have hdz:((K:Int)==0)=false:=by simp;omega
       have hdn:¬ K=0:=by omega
       have HG:Hid (Nat.gcd K R=Int.gcd x y):=by unfold Hid;rw[<-hR];exact RZ hg2.out
       have b4l:=fun w=>UA (n:=M) (d:=K) (v:=R) (by omega) hM i2 w2' w
       clear hR
       go_wp2_with fail
       go_quiet (fail)
       go_wp2_with fail
       go_roundw
       case rel=>exact⟨K,R,rfl,rfl,hK,by omega,HG,hq2.drewN _,Below.qZ hB2 _⟩
       case measure=>simp[intOf];omega
      ·obtain rfl:K=0:=by omega
       obtain⟨r,hr⟩:∃ r,M%1000000000=r:=⟨_,rfl⟩
       obtain⟨q,hq'⟩:∃ q,M / 1000000000=q:=⟨_,rfl⟩
       have HX:Hid (sg false (val [r,q])=((Int.gcd x y:Nat):Int)):=by
        have:=hg2.out
        unfold Hid
        rw[<-this,Nat.gcd_zero_right]
        have e:val [r,q]=M:=by simp[cO,val,bK];omega
        rw[e];rfl
       have i1:(M:Int)%1000000000=r:=by omega
       have i2:(M:Int) / 1000000000=q:=by omega
       have hr9:r<=999999999:=by omega
       have hq9:q<=999999999:=by omega
       have hlow:Low [r,q]:=Low.cons.2 ⟨by rw[bK];omega,Low.cons.2 ⟨by rw[bK];omega,Low.nil⟩⟩
       have hR:=c2r wr r q
       have c6V:=hB2.size
       clear hr hq'
       go_wp2_with fail
       refine(gX false _ _ _ hR hlow (by simp)).mono ?_
       rw[HX.out]
       rintro e2 w7 ⟨v2,rfl,hi2,hb7⟩
       obtain⟨g2,p2,n2,c2,rfl⟩:=hi2.form
       have q7:=(hq2.alloc (.cells #[.int .u32 (r:Nat),.int .u32 (q:Nat)] 148)).to hb7
       have r0:=q7.c0
       have r1:=q7.c1
       have f0:=q7.f0
       have f1:=q7.f1
       have hB7:=Below.tr (Below.al hB2 (.cells #[.int .u32 (r:Nat),.int .u32 (q:Nat)] 148)) hb7
       go_wp2_with fail
       exact wz (v:=.agg #[.bool g2,.slice p2 n2 c2]) (by simp[results,Tryz.results131,go_sem,r0,r1]) rfl ⟨_,rfl,dK.bM hi2 q7 rfl rfl _ _,Below.bM hB7 (by omega) _ _⟩
theorem vK {x y:Int} (h:y ∣ x):x.fdiv y=x / y:=by
 rw[Int.fdiv_eq_ediv,jq (.inr h),Int.sub_zero]
theorem a8j {n d:Int} (hd:0<d):n.fdiv ((Int.gcd n d:Nat):Int)=(Rat.divInt n d).num/\d.fdiv ((Int.gcd n d:Nat):Int)=(Rat.divInt n d).den:=by
 rw[oJ hd,oI hd]
 exact⟨vK (Int.gcd_dvd_left _ _),vK (Int.gcd_dvd_right _ _)⟩
theorem a8i {n d:Int} (hd:d<0):n.fdiv (-((Int.gcd n d:Nat):Int))=(Rat.divInt n d).num/\d.fdiv (-((Int.gcd n d:Nat):Int))=(Rat.divInt n d).den:=by
 rw[RD hd,QY hd]
 exact⟨vK (Int.neg_dvd.2 (Int.gcd_dvd_left _ _)),vK (Int.neg_dvd.2 (Int.gcd_dvd_right _ _))⟩
set_option maxHeartbeats 1000000
theorem c6E (x y:Int):sgn (x-y)=bZ x y:=by
 unfold bZ sgn
 rcases Az x y with h|h|h
 ·rw[jq h,uf (by omega)]
 ·rw[ji (by omega),ji (by omega),h,Int.sub_self];rfl
 ·rw[ji (by omega),jq h,uy (by omega)]
theorem c6F (x y:Rat):sgn (x-y).num=KX x y:=by
 unfold sgn KX
 rw[b2f]
 have a:(x-y<0)=(x<y):=propext ⟨fun h=>by grind,fun h=>by grind⟩
 have b:(0<x-y)=(y<x):=propext ⟨fun h=>by grind,fun h=>by grind⟩
 simp only[a,b]
theorem c3z (x y:Rat):(KX x y==0)=decide (x=y):=by
 unfold KX
 by_cases h1:x<y
 ·rw[jq h1,lg (fun e=>by subst e;exact absurd h1 (by grind))];rfl
 ·by_cases h2:y<x
  ·rw[ji h1,jq h2,lg (fun e=>by subst e;exact absurd h2 (by grind))];rfl
  ·rw[ji h1,ji h2,um (by grind)];rfl
theorem c4y {x:Int}:(sgn x==0)=decide (x=0):=c2i
theorem b7A:aI Tryz.prog 131 (cZ2 fun x y=>((Int.gcd x y:Nat):Int)):=(a9a fun v u x y w h1 h2 l1 l2=>b2p v u x y w h1 h2 l1 l2)
theorem c2w:aI Tryz.prog 129 cIV:=(a8Y fun v ok x w h=>yM v ok x w h)
def c3x (K:Nat) (g:Int->Int->Int):Ctr:=⟨[tZ,tZ],[tI],fun x=>isz x.1<=K/\isz x.2.1<=K,fun x=>(g x.1 x.2.1,())⟩
theorem b6z:aI Tryz.prog 130 (c3x 999999999 bZ):=by
 refine aJ ((nil0.ad KQ).ad a6U) ⟨[],[],[]⟩ Tryz.func130 rfl (by decide) (fun x=>[]) (fun x hp=>?_)
 obtain⟨x,y,u⟩:=x
 change Int at x
 change Int at y
 refine aT (((isz x<=1000000000/\isz y<=1000000000)/\isz (x-y)<=1000000000/\True)/\True/\sgn (x-y)=bZ x y/\True) (by kernel_rfl) ?_
 have hZ:(⟨false,0,[],[]⟩:aH)=bC:=rfl
 try simp only[aC,aj,ah]
 try dsimp only[aB,asT,aA,aF,Ty.den,Lf.den] at *
 try simp only[hZ,Int.toNat_natCast,aC,aj,ah,jg,jf,gy,bg]
 try simp only[bT,bP,List.all_cons,List.all_nil,jh,dw,ig,je,jy,ne_eq,au,bn,dh,eu,jd,oh,jo,oq,jg,jf,iw,bf,List.length_cons,List.length_nil]
 obtain⟨l1,l2⟩:isz x<=999999999/\isz y<=999999999:=hp
 have:=PN x y
 exact⟨⟨⟨by omega,by omega⟩,by omega⟩,c6E x y⟩
theorem a0M:aI Tryz.prog 132 cIZ:=by
 refine aJ (nil0.ad b3z) ⟨[2],[],[]⟩ Tryz.func132 rfl (by decide) (fun x=>[]) (fun x hp=>?_)
 obtain⟨n,u⟩:=x
 change Int at n
 refine aT ((bU n/\True)/\True/\n=n/\True) (by kernel_rfl) ?_
 have hZ:(⟨false,0,[],[]⟩:aH)=bC:=rfl
 try simp only[aC,aj,ah]
 try dsimp only[aB,asT,aA,aF,Ty.den,Lf.den] at *
 try simp only[hZ,Int.toNat_natCast,aC,aj,ah,jg,jf,gy,bg]
 try simp only[bT,bP,List.all_cons,List.all_nil,jh,dw,ig,je,jy,ne_eq,au,bn,dh,eu,jd,oh,jo,oq,jg,jf,iw,bf,List.length_cons,List.length_nil]
 exact hp
noncomputable def c5F:Ctr:=⟨[tZ,tZ],[tQ],fun x=>isz x.1<=400000000/\isz x.2.1<=400000000/\(show Int from x.2.1)≠0,fun x=>(Rat.divInt x.1 x.2.1,())⟩
theorem a0G:aI Tryz.prog 162 c5F:=by
 refine aJ ((((nil0.ad b7A).ad a1f).ad KQ).ad b6A) ⟨[4,5,6,7,9,10],[],[]⟩ Tryz.func162 rfl (by decide) (fun x=>[]) (fun x hp=>?_)
 obtain⟨x,y,u⟩:=x
 change Int at x
 change Int at y
 refine aT (((isz x<=1000000000/\isz y<=1000000000)/\True)/\(isz y<=1000000000/\True)/\ifB (decide (sgn y<0)) ((isz (aB (Int.gcd x y))<=1000000000/\True)/\((isz x<=400000000/\isz (-aB (Int.gcd x y))<=400000000/\-aB (Int.gcd x y)≠0)/\True)/\((isz y<=400000000/\isz (-aB (Int.gcd x y))<=400000000/\-aB (Int.gcd x y)≠0)/\True)/\(0<Int.fdiv y (-aB (Int.gcd x y))/\Int.gcd (Int.fdiv x (-aB (Int.gcd x y))) (Int.fdiv y (-aB (Int.gcd x y)))=1/\True)/\Rat.divInt (Int.fdiv x (-aB (Int.gcd x y))) (Int.fdiv y (-aB (Int.gcd x y)))=Rat.divInt x y/\True) (((isz x<=400000000/\isz (aB (Int.gcd x y))<=400000000/\aB (Int.gcd x y)≠0)/\True)/\((isz y<=400000000/\isz (aB (Int.gcd x y))<=400000000/\aB (Int.gcd x y)≠0)/\True)/\(0<Int.fdiv y (aB (Int.gcd x y))/\Int.gcd (Int.fdiv x (aB (Int.gcd x y))) (Int.fdiv y (aB (Int.gcd x y)))=1/\True)/\Rat.divInt (Int.fdiv x (aB (Int.gcd x y))) (Int.fdiv y (aB (Int.gcd x y)))=Rat.divInt x y/\True)) (by kernel_rfl) ?_
 have hZ:(⟨false,0,[],[]⟩:aH)=bC:=rfl
 try simp only[aC,aj,ah]
 try dsimp only[aB,asT,aA,aF,Ty.den,Lf.den] at *
 try simp only[hZ,Int.toNat_natCast,aC,aj,ah,jg,jf,gy,bg]
 try simp only[bT,bP,List.all_cons,List.all_nil,jh,dw,ig,je,jy,ne_eq,au,bn,dh,eu,jd,oh,jo,oq,jg,jf,iw,bf,List.length_cons,List.length_nil]
 obtain⟨l1,l2,hy⟩:isz x<=400000000/\isz y<=400000000/\y≠0:=hp
 have g1:isz ((Int.gcd x y:Nat):Int)<=400000000:=lC hy l2
 have g2:((Int.gcd x y:Nat):Int)≠0:=gcd_ne hy
 have g3:isz (-((Int.gcd x y:Nat):Int))<=400000000:=by rw[jS];exact g1
 refine⟨⟨by omega,by omega⟩,by omega,fun h=>⟨by omega,⟨l1,g3,by omega⟩,⟨l2,g3,by omega⟩,?_⟩,fun h=>⟨⟨l1,g1,g2⟩,⟨l2,g1,g2⟩,?_⟩⟩
 ·have:=rd8 (a8i (n:=x) (Int.sign_neg_iff.1 h))
  exact⟨⟨this.1,this.2.1⟩,this.2.2⟩
 ·have h0:¬ y<0:=fun e=>h (Int.sign_neg_iff.2 e)
  have:=rd8 (a8j (n:=x) (show 0<y by omega))
  exact⟨⟨this.1,this.2.1⟩,this.2.2⟩
theorem KC:aI Tryz.prog 143 (cIQ bU (fun i=>(i:Rat))):=by
 refine aJ (nil0.ad a0M) ⟨[2],[],[]⟩ Tryz.func143 rfl (by decide) (fun x=>[]) (fun x hp=>?_)
 obtain⟨n,u⟩:=x
 change Int at n
 refine aT ((bU n/\bU 1/\True)/\(asT Int 0<1/\Int.gcd n 1=1/\True)/\Rat.divInt n 1=aV n/\True) (by kernel_rfl) ?_
 have hZ:(⟨false,0,[],[]⟩:aH)=bC:=rfl
 try simp only[aC,aj,ah]
 try dsimp only[aB,asT,aA,aF,Ty.den,Lf.den] at *
 try simp only[hZ,Int.toNat_natCast,aC,aj,ah,jg,jf,gy,bg]
 try simp only[bT,bP,List.all_cons,List.all_nil,jh,dw,ig,je,jy,ne_eq,au,bn,dh,eu,jd,oh,jo,oq,jg,jf,iw,bf,List.length_cons,List.length_nil]
 exact⟨⟨hp,by omega,by omega⟩,⟨by omega,Int.gcd_one_right _⟩,by rw[show (1:Int)=((1:Nat):Int) from rfl,Rat.divInt_ofNat];exact Rat.mkRat_one n⟩
theorem b6b:aI Tryz.prog 46 (b7K 999999999):=by
 refine aJ (((((nil0.ad b7A).ad KQ).ad c2w).ad b6z).ad a0M) ⟨[],[],[]⟩ Tryz.func46 rfl (by decide) (fun x=>[]) (fun x hp=>?_)
 obtain⟨x,u⟩:=x
 change gZ × gZ × Unit at x
 refine aT (let A₁:=(asT gZ x.2.1);let A₂:=(asT gZ x.1);let A₀:=(bif !gZ.ok A₂ then true else !gZ.ok A₁);let aK:=((!gZ.ok A₂)==false);let aQ:=((A₀==false)=true->(A₀==false)=true/\True);let dF:=(aB (Int.gcd (gZ.x A₂) (gZ.x A₁)));let dL:=(aK=true->aK=true/\True);(True/\dL/\(aK=true->aK=true/\True/\True)/\dL/\((!gZ.ok A₂)=false->aK=true)/\aQ/\((A₀==false)=true->(A₀==false)=true/\gZ.ok A₁=true/\isz (gZ.x A₁)<=1000000000/\True)/\aQ/\(A₀=false->(A₀==false)=true)/\True)/\ifB (bif bif !gZ.ok A₂ then true else !gZ.ok A₁ then true else decide (sgn (gZ.x A₁)<=0)) (True/\false=a3e A₂ A₁/\True) ((gZ.ok A₂=true/\gZ.ok A₁=true/\(isz (gZ.x A₂)<=1000000000/\isz (gZ.x A₁)<=1000000000)/\bU 1/\(isz dF<=999999999/\isz 1<=999999999)/\True)/\True/\(bZ dF 1==0)=a3e A₂ A₁/\True)) (by kernel_rfl) ?_
 have hZ:(⟨false,0,[],[]⟩:aH)=bC:=rfl
 try simp only[aC,aj,ah]
 try dsimp only[aB,asT,aA,aF,Ty.den,Lf.den] at *
 try simp only[hZ,Int.toNat_natCast,aC,aj,ah,jg,jf,gy,bg]
 try simp only[bT,bP,List.all_cons,List.all_nil,jh,dw,ig,je,jy,ne_eq,au,bn,dh,eu,jd,oh,jo,oq,jg,jf,iw,bf,List.length_cons,List.length_nil]
 obtain⟨⟨o1,n,g⟩,⟨o2,d,h⟩,u⟩:=x
 obtain⟨l1,l2⟩:isz n<=999999999/\isz d<=999999999:=hp
 have e:(sgn d<=0)=¬ 0<d:=propext (by unfold sgn;rw[<-Int.sign_pos_iff];omega)
 simp only[e,c3y,a3e] at *
 cases o1<;>cases o2<;>simp<;>try omega
 by_cases hd:0<d
 ·have:isz ((Int.gcd n d:Nat):Int)<=999999999:=lC (by omega) l2
  simp[hd,c4l]
  exact⟨by omega,fun h=>absurd hd (by omega),⟨by omega,by omega⟩,⟨by omega,by omega⟩,this⟩
 ·simp[hd];omega
theorem a0L:aI Tryz.prog 46 (cVal 999999999):=b3t b6b
theorem KA:aI Tryz.prog 78 (cQ1 (fun x=>rsz x<=999999999) (fun x=>x)):=by
 refine aJ ((nil0.ad KC).ad a0L) ⟨[2],[],[]⟩ Tryz.func78 rfl (by decide) (fun x=>[]) (fun x hp=>?_)
 obtain⟨x,u⟩:=x
 change Rat at x
 refine aT (((aH.n (dP x)<=999999999/\aH.m (dP x)<=999999999)/\True)/\True/\x=x/\True) (by kernel_rfl) ?_
 have hZ:(⟨false,0,[],[]⟩:aH)=bC:=rfl
 try simp only[aC,aj,ah]
 try dsimp only[aB,asT,aA,aF,Ty.den,Lf.den] at *
 try simp only[hZ,Int.toNat_natCast,aC,aj,ah,jg,jf,gy,bg]
 try simp only[bT,bP,List.all_cons,List.all_nil,jh,dw,ig,je,jy,ne_eq,au,bn,dh,eu,jd,oh,jo,oq,jg,jf,iw,bf,List.length_cons,List.length_nil]
 exact sz8 (show rsz x<=999999999 from hp)
noncomputable def c3j:Ctr:=⟨[tZ,tZ],[tR,tI],fun x=>isz x.1<=390000000/\isz x.2.1<=390000000,fun x=>newT 14 x.1 x.2.1⟩
theorem YD:aI Tryz.prog 160 c3j:=by
 refine aJ ((nil0.ad KQ).ad a0G) ⟨[4],[],[]⟩ Tryz.func160 rfl (by decide) (fun x=>[]) (fun x hp=>?_)
 obtain⟨x,y,u⟩:=x
 change Int at x
 change Int at y
 refine aT ((isz y<=1000000000/\True)/\ifB (sgn y==0) (True/\bC=Prod.fst (newT 14 x y)/\True/\14=Prod.fst (newT 14 x y).2/\True) (((isz x<=400000000/\isz y<=400000000/\y≠0)/\True)/\True/\dP (Rat.divInt x y)=Prod.fst (newT 14 x y)/\True/\0=Prod.fst (newT 14 x y).2/\True)) (by kernel_rfl) ?_
 have hZ:(⟨false,0,[],[]⟩:aH)=bC:=rfl
 try simp only[aC,aj,ah]
 try dsimp only[aB,asT,aA,aF,Ty.den,Lf.den] at *
 try simp only[hZ,Int.toNat_natCast,aC,aj,ah,jg,jf,gy,bg]
 try simp only[bT,bP,List.all_cons,List.all_nil,jh,dw,ig,je,jy,ne_eq,au,bn,dh,eu,jd,oh,jo,oq,jg,jf,iw,bf,List.length_cons,List.length_nil]
 obtain⟨l1,l2⟩:isz x<=390000000/\isz y<=390000000:=hp
 rw[c4y]
 refine⟨by omega,fun h=>?_,fun h=>?_⟩
 ·unfold newT;rw[jq (tu h)];exact⟨rfl,rfl⟩
 ·unfold newT;rw[ji (ru h)];exact⟨⟨by omega,by omega,ru h⟩,rfl,rfl⟩
theorem a6w:aI Tryz.prog 17 (cQI (fun x=>rsz x<=900000000) (fun x=>sgn x.num)):=by
 refine aJ ((nil0.ad KQ).ad KA) ⟨[],[],[]⟩ Tryz.func17 rfl (by decide) (fun x=>[]) (fun x hp=>?_)
 obtain⟨x,u⟩:=x
 change Rat at x
 refine aT ((rsz x<=999999999/\isz (Rat.num x)<=1000000000/\True)/\True/\sgn (Rat.num x)=sgn (Rat.num x)/\True) (by kernel_rfl) ?_
 have hZ:(⟨false,0,[],[]⟩:aH)=bC:=rfl
 try simp only[aC,aj,ah]
 try dsimp only[aB,asT,aA,aF,Ty.den,Lf.den] at *
 try simp only[hZ,Int.toNat_natCast,aC,aj,ah,jg,jf,gy,bg]
 try simp only[bT,bP,List.all_cons,List.all_nil,jh,dw,ig,je,jy,ne_eq,au,bn,dh,eu,jd,oh,jo,oq,jg,jf,iw,bf,List.length_cons,List.length_nil]
 have hp:rsz x<=900000000:=hp
 have:=(sz8 hp).1
 exact⟨by omega,by omega⟩
theorem a6s:aI Tryz.prog 101 (cQ1 (fun x=>rsz x<=190000000) (fun x=>-x)):=by
 refine aJ ((nil0.ad a1f).ad KA) ⟨[2,3],[],[]⟩ Tryz.func101 rfl (by decide) (fun x=>[]) (fun x hp=>?_)
 obtain⟨x,u⟩:=x
 change Rat at x
 refine aT ((rsz x<=999999999/\True)/\(isz (Rat.num x)<=1000000000/\True)/\(0<aB (Rat.den x)/\Int.gcd (-Rat.num x) (aB (Rat.den x))=1/\True)/\Rat.divInt (-Rat.num x) (aB (Rat.den x))=-x/\True) (by kernel_rfl) ?_
 have hZ:(⟨false,0,[],[]⟩:aH)=bC:=rfl
 try simp only[aC,aj,ah]
 try dsimp only[aB,asT,aA,aF,Ty.den,Lf.den] at *
 try simp only[hZ,Int.toNat_natCast,aC,aj,ah,jg,jf,gy,bg]
 try simp only[bT,bP,List.all_cons,List.all_nil,jh,dw,ig,je,jy,ne_eq,au,bn,dh,eu,jd,oh,jo,oq,jg,jf,iw,bf,List.length_cons,List.length_nil]
 have hp:rsz x<=190000000:=hp
 obtain⟨a,b⟩:=sz8 hp
 exact⟨by omega,by omega,⟨b3W x,by have:=JU (-x);rwa [BP,BO] at this⟩,b1A x⟩
theorem a0A:aI Tryz.prog 76 (cQ2 s19 (·+·)):=by
 refine aJ ((((nil0.ad a6T).ad a6S).ad a0G).ad KA) ⟨[4,5,6],[],[]⟩ Tryz.func76 rfl (by decide) (fun x=>[]) (fun x hp=>?_)
 obtain⟨x,y,u⟩:=x
 change Rat at x
 change Rat at y
 refine aT ((rsz x<=999999999/\True)/\(rsz y<=999999999/\True)/\((isz (Rat.num x)<=1000000000/\isz (aB (Rat.den y))<=1000000000)/\(isz (Rat.num y)<=1000000000/\isz (aB (Rat.den x))<=1000000000)/\(isz (Rat.num x*aB (Rat.den y))<=1000000000/\isz (Rat.num y*aB (Rat.den x))<=1000000000)/\(isz (aB (Rat.den x))<=1000000000/\isz (aB (Rat.den y))<=1000000000)/\(isz (Rat.num x*aB (Rat.den y)+Rat.num y*aB (Rat.den x))<=400000000/\isz (aB (Rat.den x)*aB (Rat.den y))<=400000000/\aB (Rat.den x)*aB (Rat.den y)≠0)/\True)/\True/\Rat.divInt (Rat.num x*aB (Rat.den y)+Rat.num y*aB (Rat.den x)) (aB (Rat.den x)*aB (Rat.den y))=x+y/\True) (by kernel_rfl) ?_
 have hZ:(⟨false,0,[],[]⟩:aH)=bC:=rfl
 try simp only[aC,aj,ah]
 try dsimp only[aB,asT,aA,aF,Ty.den,Lf.den] at *
 try simp only[hZ,Int.toNat_natCast,aC,aj,ah,jg,jf,gy,bg]
 try simp only[bT,bP,List.all_cons,List.all_nil,jh,dw,ig,je,jy,ne_eq,au,bn,dh,eu,jd,oh,jo,oq,jg,jf,iw,bf,List.length_cons,List.length_nil]
 obtain⟨l1,l2⟩:rsz x<=190000000/\rsz y<=190000000:=hp
 obtain⟨a,b⟩:=sz8 l1
 obtain⟨c,d⟩:=sz8 l2
 have m1:=JH a d
 have m2:=JH c b
 have m3:=JH b d
 have m4:=yA (x.num*y.den) (y.num*x.den)
 exact⟨by omega,by omega,⟨⟨by omega,by omega⟩,⟨by omega,by omega⟩,⟨by omega,by omega⟩,⟨by omega,by omega⟩,by omega,by omega,Ed (EY x) (EY y)⟩,a0B x y⟩
theorem a6r:aI Tryz.prog 75 (cQ2 s19 (·*·)):=by
 refine aJ (((nil0.ad a6T).ad a0G).ad KA) ⟨[4,5,6],[],[]⟩ Tryz.func75 rfl (by decide) (fun x=>[]) (fun x hp=>?_)
 obtain⟨x,y,u⟩:=x
 change Rat at x
 change Rat at y
 refine aT ((rsz x<=999999999/\True)/\(rsz y<=999999999/\True)/\((isz (Rat.num x)<=1000000000/\isz (Rat.num y)<=1000000000)/\(isz (aB (Rat.den x))<=1000000000/\isz (aB (Rat.den y))<=1000000000)/\(isz (Rat.num x*Rat.num y)<=400000000/\isz (aB (Rat.den x)*aB (Rat.den y))<=400000000/\aB (Rat.den x)*aB (Rat.den y)≠0)/\True)/\True/\Rat.divInt (Rat.num x*Rat.num y) (aB (Rat.den x)*aB (Rat.den y))=x*y/\True) (by kernel_rfl) ?_
 have hZ:(⟨false,0,[],[]⟩:aH)=bC:=rfl
 try simp only[aC,aj,ah]
 try dsimp only[aB,asT,aA,aF,Ty.den,Lf.den] at *
 try simp only[hZ,Int.toNat_natCast,aC,aj,ah,jg,jf,gy,bg]
 try simp only[bT,bP,List.all_cons,List.all_nil,jh,dw,ig,je,jy,ne_eq,au,bn,dh,eu,jd,oh,jo,oq,jg,jf,iw,bf,List.length_cons,List.length_nil]
 obtain⟨l1,l2⟩:rsz x<=190000000/\rsz y<=190000000:=hp
 obtain⟨a,b⟩:=sz8 l1
 obtain⟨c,d⟩:=sz8 l2
 have m1:=JH a c
 have m3:=JH b d
 exact⟨by omega,by omega,⟨⟨by omega,by omega⟩,⟨by omega,by omega⟩,by omega,by omega,Ed (EY x) (EY y)⟩,a0D x y⟩
theorem b5S:aI Tryz.prog 112 a8X:=by
 refine aJ ((nil0.ad a0M).ad YD) ⟨[4],[],[]⟩ Tryz.func112 rfl (by decide) (fun x=>[]) (fun x hp=>?_)
 obtain⟨x,y,u⟩:=x
 change Int at x
 change Int at y
 refine aT ((bU x/\bU y/\(isz x<=390000000/\isz y<=390000000)/\True)/\(aH.ok (newT 14 x y).1=true/\True)/\aH.x (newT 14 x y).1=Rat.divInt x y/\True/\Prod.fst (newT 14 x y).2=0/\True) (by kernel_rfl) ?_
 have hZ:(⟨false,0,[],[]⟩:aH)=bC:=rfl
 try simp only[aC,aj,ah]
 try dsimp only[aB,asT,aA,aF,Ty.den,Lf.den] at *
 try simp only[hZ,Int.toNat_natCast,aC,aj,ah,jg,jf,gy,bg]
 try simp only[bT,bP,List.all_cons,List.all_nil,jh,dw,ig,je,jy,ne_eq,au,bn,dh,eu,jd,oh,jo,oq,jg,jf,iw,bf,List.length_cons,List.length_nil]
 obtain⟨h1,h2,h3⟩:bU x/\bU y/\y≠0:=hp
 rw[show newT 14 x y=(dP (Rat.divInt x y),0,()) from ji h3]
 exact⟨⟨h1,h2,jl (a0p h1) (by omega),jl (a0p h2) (by omega)⟩,rfl,rfl,rfl⟩
theorem a6v:aI Tryz.prog 133 (cQ2 s19 (·-·)):=by
 refine aJ ((nil0.ad a6s).ad a0A) ⟨[4],[],[]⟩ Tryz.func133 rfl (by decide) (fun x=>[]) (fun x hp=>?_)
 obtain⟨x,y,u⟩:=x
 change Rat at x
 change Rat at y
 refine aT ((rsz y<=190000000/\s19 x (-y)/\True)/\True/\x+-y=x-y/\True) (by kernel_rfl) ?_
 have hZ:(⟨false,0,[],[]⟩:aH)=bC:=rfl
 try simp only[aC,aj,ah]
 try dsimp only[aB,asT,aA,aF,Ty.den,Lf.den] at *
 try simp only[hZ,Int.toNat_natCast,aC,aj,ah,jg,jf,gy,bg]
 try simp only[bT,bP,List.all_cons,List.all_nil,jh,dw,ig,je,jy,ne_eq,au,bn,dh,eu,jd,oh,jo,oq,jg,jf,iw,bf,List.length_cons,List.length_nil]
 obtain⟨l1,l2⟩:rsz x<=190000000/\rsz y<=190000000:=hp
 obtain⟨a,b⟩:=sz8 l1
 obtain⟨c,d⟩:=sz8 l2
 exact⟨⟨l2,l1,by rw[QG];exact l2⟩,(Rat.sub_eq_add_neg x y).symm⟩
theorem a6m:aI Tryz.prog 47 (b3E s19 KX):=by
 refine aJ ((nil0.ad a6w).ad a6v) ⟨[],[],[]⟩ Tryz.func47 rfl (by decide) (fun x=>[]) (fun x hp=>?_)
 obtain⟨x,y,u⟩:=x
 change Rat at x
 change Rat at y
 refine aT ((s19 x y/\rsz (x-y)<=900000000/\True)/\True/\sgn (Rat.num (x-y))=KX x y/\True) (by kernel_rfl) ?_
 have hZ:(⟨false,0,[],[]⟩:aH)=bC:=rfl
 try simp only[aC,aj,ah]
 try dsimp only[aB,asT,aA,aF,Ty.den,Lf.den] at *
 try simp only[hZ,Int.toNat_natCast,aC,aj,ah,jg,jf,gy,bg]
 try simp only[bT,bP,List.all_cons,List.all_nil,jh,dw,ig,je,jy,ne_eq,au,bn,dh,eu,jd,oh,jo,oq,jg,jf,iw,bf,List.length_cons,List.length_nil]
 obtain⟨l1,l2⟩:rsz x<=190000000/\rsz y<=190000000:=hp
 obtain⟨a,b⟩:=sz8 l1
 obtain⟨c,d⟩:=sz8 l2
 have:=b5Z x y
 exact⟨⟨⟨l1,l2⟩,by omega⟩,c6F x y⟩
theorem a0H:aI Tryz.prog 121 (b7J s19 (fun x y=>decide (x=y))):=by
 refine aJ ((nil0.ad a0L).ad a6m) ⟨[],[],[]⟩ Tryz.func121 rfl (by decide) (fun x=>[]) (fun x hp=>?_)
 obtain⟨x,y,u⟩:=x
 change Rat at x
 change Rat at y
 refine aT (((aH.n (dP x)<=999999999/\aH.m (dP x)<=999999999)/\(asT Bool true=true->asT Bool true=true/\(aH.n (dP y)<=999999999/\aH.m (dP y)<=999999999)/\True)/\(asT Bool true=true->asT Bool true=true)/\(asT Bool true=true->asT Bool true=true/\asT Bool true=true/\s19 x y/\True)/\(asT Bool true=true->asT Bool true=true/\True)/\(asT Bool true=true->asT Bool true=true)/\True)/\True/\(bif bif true then true else false then KX x y==0 else false)=decide (x=y)/\True) (by kernel_rfl) ?_
 have hZ:(⟨false,0,[],[]⟩:aH)=bC:=rfl
 try simp only[aC,aj,ah]
 try dsimp only[aB,asT,aA,aF,Ty.den,Lf.den] at *
 try simp only[hZ,Int.toNat_natCast,aC,aj,ah,jg,jf,gy,bg]
 try simp only[bT,bP,List.all_cons,List.all_nil,jh,dw,ig,je,jy,ne_eq,au,bn,dh,eu,jd,oh,jo,oq,jg,jf,iw,bf,List.length_cons,List.length_nil]
 obtain⟨l1,l2⟩:rsz x<=190000000/\rsz y<=190000000:=hp
 obtain⟨a,b⟩:=sz8 l1
 obtain⟨c,d⟩:=sz8 l2
 have e:∀ b:Bool,(bif bif true then true else false then b else false)=b:=fun b=>by cases b<;>rfl
 refine⟨⟨⟨jl a (by omega),jl b (by omega)⟩,fun _=>⟨jl c (by omega),jl d (by omega)⟩,fun h=>h,fun _=>⟨l1,l2⟩,fun h=>h,fun h=>h⟩,(e _).trans (c3z x y)⟩
theorem b3U {P:Program} {f:FuncId} {args res:List Ty} {pre pre':(nest args).den->Prop} {fn:(nest args).den->(nest res).den} {d:∀ x,Dc (pre x)} {d':∀ x,Dc (pre' x)} (h:aI P f (@Ctr.mk args res pre fn d)) (e:∀ x,pre' x->pre x):aI P f (@Ctr.mk args res pre' fn d'):=fun F w vs x a b hp=>h F w vs x a b (e x hp)
theorem b2D:aI Tryz.prog 17 (cQI (fun x=>rsz x<=190000000) (fun x=>sgn x.num)):=b3U a6w fun x h=>jl h (by omega)
def c2X:Ctr:=⟨[tQ,tQ],[tQ,tI],fun x=>s19 x.1 x.2.1/\(show Rat from x.2.1)≠0,fun x=>((show Rat from x.1) / (show Rat from x.2.1),(0:Int),())⟩
theorem b5M:aI Tryz.prog 74 c2X:=by
 refine aJ (((nil0.ad a6T).ad KA).ad YD) ⟨[4,6,7],[],[]⟩ Tryz.func74 rfl (by decide) (fun x=>[]) (fun x hp=>?_)
 obtain⟨x,y,u⟩:=x
 change Rat at x
 change Rat at y
 refine aT (let A₁:=(Rat.num x*aB (Rat.den y));let A₂:=(aB (Rat.den x)*Rat.num y);let A₀:=(newT 14 A₁ A₂);(rsz x<=999999999/\True)/\(rsz y<=999999999/\True)/\((isz (Rat.num x)<=1000000000/\isz (aB (Rat.den y))<=1000000000)/\(isz (aB (Rat.den x))<=1000000000/\isz (Rat.num y)<=1000000000)/\(isz A₁<=390000000/\isz A₂<=390000000)/\True)/\(aH.ok A₀.1=true/\True)/\aH.x A₀.1=x / y/\True/\Prod.fst A₀.2=0/\True) (by kernel_rfl) ?_
 have hZ:(⟨false,0,[],[]⟩:aH)=bC:=rfl
 try simp only[aC,aj,ah]
 try dsimp only[aB,asT,aA,aF,Ty.den,Lf.den] at *
 try simp only[hZ,Int.toNat_natCast,aC,aj,ah,jg,jf,gy,bg]
 try simp only[bT,bP,List.all_cons,List.all_nil,jh,dw,ig,je,jy,ne_eq,au,bn,dh,eu,jd,oh,jo,oq,jg,jf,iw,bf,List.length_cons,List.length_nil]
 obtain⟨⟨l1,l2⟩,hy⟩:(rsz x<=190000000/\rsz y<=190000000)/\y≠0:=hp
 obtain⟨a,b⟩:=sz8 l1
 obtain⟨c,d⟩:=sz8 l2
 have m1:=JH a d
 have m3:=JH b c
 have e:newT 14 (x.num*y.den) (x.den*y.num)=(dP (x / y),0,()):=by
  unfold newT
  rw[ji (Ed (EY x) (fun h=>hy ((sJ y).1 h))),a0C]
 rw[e]
 exact⟨by omega,by omega,⟨⟨by omega,by omega⟩,⟨by omega,by omega⟩,by omega,by omega⟩,rfl,rfl,rfl⟩
noncomputable def LR0:Lib:=((((((((((Lib.nil
 ).add 143 (cIQ bU (fun i=>(i:Rat))) KC
 ).add 46 (cVal 999999999) a0L
 ).add 76 (cQ2 s19 (·+·)) a0A
 ).add 75 (cQ2 s19 (·*·)) a6r
 ).add 133 (cQ2 s19 (·-·)) a6v
 ).add 101 (cQ1 (fun x=>rsz x<=190000000) (fun x=>-x)) a6s
 ).add 17 (cQI (fun x=>rsz x<=190000000) (fun x=>sgn x.num)) b2D
 ).add 47 (b3E s19 KX) a6m
 ).add 121 (b7J s19 (fun x y=>decide (x=y))) a0H
 ).add 74 c2X b5M
theorem bT {a b:Bool}:(bif a then true else b)=(a || b):=by cases a<;>rfl
theorem bP {a b:Bool}:(bif a then b else false)=(a&&b):=by cases a<;>rfl
end Go.Proofs.YtbkocjmmbkifjaaGreat
