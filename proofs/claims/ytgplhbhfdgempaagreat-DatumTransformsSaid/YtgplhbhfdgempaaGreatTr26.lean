/-
  Lemmas for the theorem vtransforms_holds, part 26 of 39.
-/
import Derived.Test.YtgplhbhfdgempaaGreatTr25
namespace Go.Proofs.YtgplhbhfdgempaaGreat
open Go Go.RowKit
set_option maxRecDepth 100000
set_option maxHeartbeats 1000000
set_option linter.unusedVariables false
set_option linter.unusedSimpArgs false
theorem b4y {a b:MQ} (ha:okM a) (hb:okM b):jC [liftM a,liftM b]=0:=a5r fun m hm=>by
 rcases um.mp hm with rfl|hm
 ·exact ha.chk
 ·rw[oz.mp hm];exact hb.chk
theorem a8l {a b:MQ} (ha:okM a) (hb:okM b):∀ m ∈ [liftM a,liftM b],iH m:=fun m hm=>by
 rcases um.mp hm with rfl|hm
 ·exact ha.short
 ·rw[oz.mp hm];exact hb.short
theorem b1a {R C n:Nat} {f:Mt} (hn:n<=C):(red R (FN (aY R C f)) n).2=(red R f n).2/\∀ i,i<R->∀ c,c<C->(red R (FN (aY R C f)) n).1 i c=(red R f n).1 i c:=xZ (fun i hi c hc=>RZ hi hc) n hn
theorem UG {R C n:Nat} {f:Mt} (r1:1<=R) (r2:R<=1000) (c1:1<=C) (c2:C<=1000) (hn:n<=C) (H:zA R C f n):a4D (aY R C f) (n:Int):=by
 have hw:wdM (aY R C f)=C:=by show ((aY R C f).getD 0 []).length=C;rw[jG (by omega)];simp
 unfold a4D
 rw[aS,hw]
 refine⟨lJ fun i hi j hj=>(RZ hi hj).symm,r1,r2,c1,c2,by omega,by omega,fun t ht i hi c hc=>?_⟩
 rw[(b1a (by have:t<=n:=ht;omega)).2 i hi c hc]
 exact H t ht i hi c hc
def b5x:Ctr:=⟨[tI],[tM,tI],fun x=>1<=(show Int from x.1)/\(show Int from x.1)<=64,fun x=>(idM (show Int from x.1).toNat,(0:Int),())⟩
theorem a7v:aW Tryz.prog 99 b5x:=by
 refine bH ((((((((((nil0.an jP).an jR).an jQ).ad EM).an xR).an xK).an xQ).an xM).an xP).an xO) ⟨[],[],[]⟩ Tryz.func99 rfl (by decide) (fun x=>[]) (fun x hp=>?_)
 obtain⟨n,u⟩:=x
 change Int at n
 refine bM ((((decide (n<1)==false)=true->(decide (n<1)==false)=true/\True)/\(decide (n<1)=false->(decide (n<1)==false)=true)/\True)/\ifB (bif decide (n<1) then true else decide (n > 64)) (True/\aC (List Rat)=idM n.toNat/\True/\asT Int 2=0/\True) ((CX TUn a7J (n,n,(),())/\True)/\(dS (fun(x:Ty.den (Ty.list (Ty.lf Lf.dF)))=>bY (dS (fun(x:Ty.den (Ty.lf Lf.dF))=>bY ((aF.ok x=true)::aC Prop)) x::aC Prop)) (aY n.toNat n.toNat (gUn ()))/\True)/\List.map (fun(xs:Ty.den (Ty.list (Ty.lf Lf.dF)))=>List.map (fun(x:Ty.den (Ty.lf Lf.dF))=>aF.x x) xs) (aY n.toNat n.toNat (gUn ()))=idM n.toNat/\True/\asT Int 0=0/\True)) (by kernel_rfl) ?_
 have h:1<=n/\n<=64:=hp
 have e:n=(n.toNat:Int):=by omega
 exact⟨⟨fun h=>⟨h,trivial⟩,fun h=>by rw[h];rfl,trivial⟩,ifF (by rw[jy (by omega),jy (by omega)];rfl) ⟨⟨⟨n.toNat,n.toNat,e,e,by omega,by omega,fun i j _ _=>⟨qh _,qh _⟩⟩,trivial⟩,⟨tN _ _ _,trivial⟩,zN _ _ _,trivial,rfl,trivial⟩⟩
def c0w:Ctr:=⟨[tM,tM],[tI],fun x=>okM x.1/\okM x.2.1/\(show MQ from x.1).length=(show MQ from x.2.1).length/\wdM (show MQ from x.1)=wdM (show MQ from x.2.1),fun x=>((0:Int),())⟩
theorem a1u:aW Tryz.prog 113 c0w:=by
 refine bH (nil0.ad OI) ⟨[],[],[]⟩ Tryz.func113 rfl (by decide) (fun x=>[]) (fun x hp=>?_)
 obtain⟨a,b,u⟩:=x
 change List (List Rat) at a
 change List (List Rat) at b
 refine bM (let aQ:=(a::b::aC (List (List Rat)));let dA:=(aB a.length != aB b.length);let A₀:=(dA==false);let bJ:=(A₀=true->A₀=true/\True);let dJ:=(Ty.list (Ty.lf Lf.rat));let A₁:=(fun(xs:Ty.den (Ty.list dJ))=>List.map (fun(xs:Ty.den dJ)=>List.map (fun(x:Ty.den (Ty.lf Lf.rat))=>eU x) xs) xs);let A₂:=(fun(x:Ty.den dJ)=>bY (dS (fun(x:Ty.den (Ty.lf Lf.rat))=>bY (aC Prop)) x::aC Prop));(((dS A₂ a/\True)/\(dS A₂ b/\True)/\True)/\(List.length (List.map A₁ aQ)<=1000000/\∀ (a_1:List (List aF)),a_1 ∈ List.map A₁ aQ->iH a_1)/\True)/\ifB (jC (List.map A₁ aQ) != 0) (True/\jC (List.map A₁ aQ)=0/\True) (((A₀=true->A₀=true/\asT Int 0<=0/\0<aB a.length/\True)/\bJ/\bJ/\(A₀=true->A₀=true/\asT Int 0<=0/\0<aB b.length/\True)/\bJ/\bJ/\(A₀=true->A₀=true/\A₀=true/\True)/\(dA=false->A₀=true)/\True)/\ifB (bif aB a.length != aB b.length then true else aB (List.getD a 0 (aC Rat)).length != aB (List.getD b 0 (aC Rat)).length) (True/\asT Int 4=0/\True) (True/\asT Int 0=0/\True))) (by kernel_rfl) ?_
 have hp:okM a/\okM b/\a.length=b.length/\wdM a=wdM b:=hp
 obtain⟨ha,hb,hl,hw⟩:=hp
 have e:((a.length:Int) != (b.length:Int))=false:=by rw[hl];simp
 refine⟨⟨⟨⟨tH a,trivial⟩,⟨tH b,trivial⟩,trivial⟩,⟨by show 2<=1000000;omega,a8l ha hb⟩,trivial⟩,ifF (IW (b4y ha hb)) ⟨?_,ifF ?_ ⟨trivial,rfl,trivial⟩⟩⟩
 ·dsimp only[aB,asT]
  rw[e]
  exact⟨fun _=>⟨rfl,xg 0,ha.poz,trivial⟩,fun h=>⟨h,trivial⟩,fun h=>⟨h,trivial⟩,fun _=>⟨rfl,xg 0,hb.poz,trivial⟩,fun h=>⟨h,trivial⟩,fun h=>⟨h,trivial⟩,fun h=>⟨h,h,trivial⟩,fun _=>rfl,trivial⟩
 ·dsimp only[aB]
  rw[e]
  show ((wdM a:Int) != (wdM b:Int))=false
  rw[hw];simp
def c0r:Ctr:=⟨[tM,tM],[tM,tI],fun x=>okM x.1/\okM x.2.1/\(show MQ from x.1).length=(show MQ from x.2.1).length/\wdM (show MQ from x.1)=wdM (show MQ from x.2.1),fun x=>(OY x.1 x.2.1,(0:Int),())⟩
def c1f:Ctr:=⟨[tM,tM],[tM,tI],fun x=>okM x.1/\okM x.2.1/\(show MQ from x.1).length=(show MQ from x.2.1).length/\wdM (show MQ from x.1)=wdM (show MQ from x.2.1),fun x=>(VB x.1 x.2.1,(0:Int),())⟩
def c3Z:AO:=.mk LKm [tM,tM] (fun x=>okM x.1/\okM x.2.1/\(show MQ from x.1).length=(show MQ from x.2.1).length) (fun x=>aY (show MQ from x.1).length (wdM (show MQ from x.1)+wdM (show MQ from x.2.1)) (gG (wdM (show MQ from x.1)) (ent x.1) (ent x.2.1)))
def GY (x:LQ'):MQ:=tab x.length 1 fun i _=>lv x i
def c3b:Ctr:=⟨[.list tQ],[tM],fun x=>1<=(show LQ' from x.1).length/\(show LQ' from x.1).length<=64,fun x=>(GY x.1,())⟩
theorem a8x:aW Tryz.prog 67 c0r:=by
 refine bH (((((((((((nil0.an jP).an jR).an jQ).ad WX).an xR).an xK).an xQ).an xM).an xP).an xO).ad a1u) ⟨[],[],[]⟩ Tryz.func67 rfl (by decide) (fun x=>[]) (fun x hp=>?_)
 obtain⟨a,b,u⟩:=x
 change List (List Rat) at a
 change List (List Rat) at b
 refine bM (((okM a/\okM b/\List.length a=List.length b/\wdM a=wdM b)/\True)/\(asT Int 0<=0/\0<aB a.length/\CX TAd b3G (aB a.length,aB (List.getD a 0 (aC Rat)).length,(a,b,()),())/\True)/\(dS (fun(x:Ty.den (Ty.list (Ty.lf Lf.dF)))=>bY (dS (fun(x:Ty.den (Ty.lf Lf.dF))=>bY ((aF.ok x=true)::aC Prop)) x::aC Prop)) (aY (aB a.length).toNat (aB (List.getD a 0 (aC Rat)).length).toNat (gAd (a,b,())))/\True)/\List.map (fun(xs:Ty.den (Ty.list (Ty.lf Lf.dF)))=>List.map (fun(x:Ty.den (Ty.lf Lf.dF))=>aF.x x) xs) (aY (aB a.length).toNat (aB (List.getD a 0 (aC Rat)).length).toNat (gAd (a,b,())))=OY a b/\True/\asT Int 0=0/\True) (by kernel_rfl) ?_
 have hp':okM a/\okM b/\a.length=b.length/\wdM a=wdM b:=hp
 obtain⟨ha,hb,hl,hw⟩:=hp'
 refine⟨⟨hp,trivial⟩,⟨xg 0,ha.poz,⟨a.length,wdM a,rfl,rfl,by have:=ha.r64;omega,by have:=ha.c64;omega,fun i j hi hj=>?_⟩,trivial⟩,⟨tN _ _ _,trivial⟩,zN _ _ _,trivial,rfl,trivial⟩
 have hj:j<wdM a:=hj
 have hi:i<a.length:=hi
 have h1:=ha.2 i hi j hj
 have h2:=hb.2 i (by omega) j (by omega)
 exact⟨⟨qh i,hi,by show i<b.length;omega,qh j,by show j<(a.getD i []).length;rw[ha.row hi];exact hj,by show j<(b.getD i []).length;rw[hb.row (by omega)];omega⟩,by show rsz (ent a i j)<=_;omega,by show rsz (ent b i j)<=_;omega⟩
theorem b1S:aW Tryz.prog 100 c1f:=by
 refine bH (((((((((((nil0.an jP).an jR).an jQ).ad XD).an xR).an xK).an xQ).an xM).an xP).an xO).ad a1u) ⟨[],[],[]⟩ Tryz.func100 rfl (by decide) (fun x=>[]) (fun x hp=>?_)
 obtain⟨a,b,u⟩:=x
 change List (List Rat) at a
 change List (List Rat) at b
 refine bM (((okM a/\okM b/\List.length a=List.length b/\wdM a=wdM b)/\True)/\(asT Int 0<=0/\0<aB a.length/\CX TSb b3M (aB a.length,aB (List.getD a 0 (aC Rat)).length,(a,b,()),())/\True)/\(dS (fun(x:Ty.den (Ty.list (Ty.lf Lf.dF)))=>bY (dS (fun(x:Ty.den (Ty.lf Lf.dF))=>bY ((aF.ok x=true)::aC Prop)) x::aC Prop)) (aY (aB a.length).toNat (aB (List.getD a 0 (aC Rat)).length).toNat (gSb (a,b,())))/\True)/\List.map (fun(xs:Ty.den (Ty.list (Ty.lf Lf.dF)))=>List.map (fun(x:Ty.den (Ty.lf Lf.dF))=>aF.x x) xs) (aY (aB a.length).toNat (aB (List.getD a 0 (aC Rat)).length).toNat (gSb (a,b,())))=VB a b/\True/\asT Int 0=0/\True) (by kernel_rfl) ?_
 have hp':okM a/\okM b/\a.length=b.length/\wdM a=wdM b:=hp
 obtain⟨ha,hb,hl,hw⟩:=hp'
 refine⟨⟨hp,trivial⟩,⟨xg 0,ha.poz,⟨a.length,wdM a,rfl,rfl,by have:=ha.r64;omega,by have:=ha.c64;omega,fun i j hi hj=>?_⟩,trivial⟩,⟨tN _ _ _,trivial⟩,zN _ _ _,trivial,rfl,trivial⟩
 have hj:j<wdM a:=hj
 have hi:i<a.length:=hi
 have h1:=ha.2 i hi j hj
 have h2:=hb.2 i (by omega) j (by omega)
 exact⟨⟨qh i,hi,by show i<b.length;omega,qh j,by show j<(a.getD i []).length;rw[ha.row hi];exact hj,by show j<(b.getD i []).length;rw[hb.row (by omega)];omega⟩,by show rsz (ent a i j)<=_;omega,by show rsz (ent b i j)<=_;omega⟩
theorem b4F:NOk Tryz.prog 103 c3Z:=by
 refine qB ((((((((((nil0.an jP).an jR).an jQ).ad WY).an xR).an xK).an xQ).an xM).an xP).an xO) ⟨[],[],[]⟩ Tryz.func103 rfl (by decide) (fun x=>[]) (fun x hp=>?_)
 obtain⟨a,b,u⟩:=x
 change List (List Rat) at a
 change List (List Rat) at b
 refine bM ((asT Int 0<=0/\0<aB a.length/\asT Int 0<=0/\0<aB b.length/\CX TBe b3H (aB a.length,IntKind.wrap IntKind.i64 (aB (List.getD a 0 (aC Rat)).length+aB (List.getD b 0 (aC Rat)).length),(a,b,()),())/\True)/\aY a.length (wdM a+wdM b) (gG (wdM a) (ent a) (ent b))=aY (aB a.length).toNat (IntKind.wrap IntKind.i64 (aB (List.getD a 0 (aC Rat)).length+aB (List.getD b 0 (aC Rat)).length)).toNat (gBe (a,b,()))) (by kernel_rfl) ?_
 have hp:okM a/\okM b/\a.length=b.length:=hp
 obtain⟨ha,hb,hl⟩:=hp
 have q1:=ha.c64
 have q2:=hb.c64
 have q3:=ha.r64
 have e:IntKind.wrap .i64 ((wdM a:Int)+(wdM b:Int))=((wdM a+wdM b:Nat):Int):=by rw[aZ (by omega) (by omega)];rfl
 dsimp only[aB,asT,aA,aC]
 rw[show (a.getD 0 []).length=wdM a from rfl,show (b.getD 0 []).length=wdM b from rfl,e]
 refine⟨⟨xg 0,ha.poz,xg 0,hb.poz,⟨a.length,wdM a+wdM b,rfl,rfl,by omega,by omega,fun i j hi hj=>?_⟩,trivial⟩,rfl⟩
 exact⟨qh i,hi,by show i<b.length;omega,qh j,by show a.length<=1000;omega,ha.row hi,by show j<wdM a+(b.getD i []).length;rw[hb.row (by omega)];exact hj,by omega⟩
theorem b2G:aW Tryz.prog 104 c3b:=by
 refine bH ((((((((((nil0.an jP).an jR).an jQ).ad WZ).an xR).an xK).an xQ).an xM).an xP).an xO) ⟨[],[],[]⟩ Tryz.func104 rfl (by decide) (fun x=>[]) (fun x hp=>?_)
 obtain⟨a,u⟩:=x
 change List Rat at a
 refine bM ((CX TCl b3I (aB a.length,1,(a,()),())/\True)/\(dS (fun(x:Ty.den (Ty.list (Ty.lf Lf.dF)))=>bY (dS (fun(x:Ty.den (Ty.lf Lf.dF))=>bY ((aF.ok x=true)::aC Prop)) x::aC Prop)) (aY (aB a.length).toNat 1 (gCl (a,())))/\True)/\List.map (fun(xs:Ty.den (Ty.list (Ty.lf Lf.dF)))=>List.map (fun(x:Ty.den (Ty.lf Lf.dF))=>aF.x x) xs) (aY (aB a.length).toNat 1 (gCl (a,())))=GY a/\True) (by kernel_rfl) ?_
 have hp:1<=a.length/\a.length<=64:=hp
 exact⟨⟨⟨a.length,1,rfl,rfl,by omega,by omega,fun i j hi _=>⟨qh i,hi⟩⟩,trivial⟩,⟨tN _ _ _,trivial⟩,zN _ _ _,trivial⟩
def c3f:Ctr:=⟨[tM],[tM,.list tI,tI],fun x=>okE x.1,fun x=>(wY x.1,bV (kH x.1),(0:Int),())⟩
theorem a5x:aW Tryz.prog 90 c3f:=by
 refine bH (((nil0.ad oQ).an a8X).an b1b) ⟨[],[],[]⟩ Tryz.func90 rfl (by decide) (fun x=>[]) (fun x hp=>?_)
 obtain⟨a,u⟩:=x
 change List (List Rat) at a
 refine bM (let A₀:=(aY a.length (wdM a) (ent a));let A₁:=(List.map (fun(xs:Ty.den (Ty.list (Ty.lf Lf.rat)))=>List.map (fun(x:Ty.den (Ty.lf Lf.rat))=>eU x) xs) a);let A₂:=(aB (rowAt A₀ 0).length);let aQ:=(aY A₀.length (wdM A₀) (rdm A₀ A₂.toNat));(dS (fun(x:Ty.den (Ty.list (Ty.lf Lf.rat)))=>bY (dS (fun(x:Ty.den (Ty.lf Lf.rat))=>bY (aC Prop)) x::aC Prop)) a/\iH A₁/\True)/\ifB (dK A₁ != 0) (True/\aC (List Rat)=wY a/\True/\aC Int=bV (kH a)/\True/\dK A₁=0/\True) ((okM a/\True)/\(asT Int 0<=0/\0<aB (aH none A₀)/\0<aH none A₀/\a4D A₀ A₂/\True)/\(dS (fun(x:Ty.den (Ty.list (Ty.lf Lf.dF)))=>bY (dS (fun(x:Ty.den (Ty.lf Lf.dF))=>bY ((aF.ok x=true)::aC Prop)) x::aC Prop)) aQ/\True)/\List.map (fun(xs:Ty.den (Ty.list (Ty.lf Lf.dF)))=>List.map (fun(x:Ty.den (Ty.lf Lf.dF))=>aF.x x) xs) aQ=wY a/\True/\bV (rdp A₀ A₂.toNat)=bV (kH a)/\True/\asT Int 0=0/\True)) (by kernel_rfl) ?_
 have hE:okE a:=hp
 have ha:=hE.1
 have hr:((aY a.length (wdM a) (ent a)).getD 0 []).length=wdM a:=by rw[jG ha.pos];simp
 have hw:wdM (aY a.length (wdM a) (ent a))=wdM a:=hr
 have hc:=b1a (R:=a.length) (f:=ent a) (aj (wdM a))
 dsimp only[aB,asT,aA,aC] at *
 refine⟨⟨tH a,ha.short,trivial⟩,ifF (IW ha.chk) ⟨⟨ha,trivial⟩,?_⟩⟩
 simp only[aH,rowAt,aS,hr,hw,Int.toNat_natCast]
 refine⟨⟨xg 0,ha.poz,ha.pos,UG ha.pos (by have:=ha.r64;omega) ha.c1 (by have:=ha.c64;omega) (aj _) hE.2,trivial⟩,⟨tN _ _ _,trivial⟩,(zN _ _ _).trans ?_,trivial,?_,trivial,trivial,trivial⟩
 ·show tab _ _ (red (aY a.length (wdM a) (ent a)).length _ _).1=_
  rw[aS]
  exact fB fun i hi j hj=>hc.2 i hi j hj
 ·show bV (red (aY a.length (wdM a) (ent a)).length _ _).2=_
  rw[aS,hc.1];rfl
def c1c:Ctr:=⟨[tM],[tI,tI],fun x=>okE x.1,fun x=>((rkM x.1:Int),(0:Int),())⟩
theorem b0U:aW Tryz.prog 97 c1c:=by
 refine bH (nil0.ad a5x) ⟨[],[],[]⟩ Tryz.func97 rfl (by decide) (fun x=>[]) (fun x hp=>?_)
 obtain⟨a,u⟩:=x
 change List (List Rat) at a
 refine bM ((okE a/\True)/\True/\aB (bV (kH a)).length=aB (rkM a)/\True/\asT Int 0=0/\True) (by kernel_rfl) ?_
 have hE:okE a:=hp
 exact⟨⟨hE,trivial⟩,trivial,by rw[pY];rfl,trivial,rfl,trivial⟩
theorem c2u:aW Tryz.prog 93 (cQ1 s4 (fun x=>-x)):=(b5y fun v x w a h=>a2B v true x w a.raw (a.qn (jg h (by omega))))
abbrev LI':Type:=List Int
def c3i:Ctr:=⟨[.list tI,tI],[tI],fun x=>(show LI' from x.1).length<=1000000,fun x=>(AQ (fun q:Int=>q==(show Int from x.2.1)) (show LI' from x.1),())⟩
theorem b3g:aW Tryz.prog 138 c3i:=by
 refine bH nil0 ⟨[],[],[]⟩ Tryz.func138 rfl (by decide) (fun x=>[.inv {k:Nat // k<=(show LI' from x.1).length/\((show LI' from x.1).take k).any (fun q:Int=>q==(show Int from x.2.1))=false} (fun k=>[(8,.val tI (k.1:Int))]) (fun k=>[]) (fun k=>(show LI' from x.1).length-k.1) ⟨0,by omega,rfl⟩ (fun _=>[])]) (fun x hp=>?_)
 obtain⟨x,v,u⟩:=x
 change List Int at x
 change Int at v
 refine bM ((asT Int 0=0/\True)/\∀ (i:{ k:Nat // k<=List.length x/\(List.any (List.take k x) fun(q:Int)=>q==v)=false }),asT Bool true=true/\ifB (decide (aB (aA i)<aB x.length)) ((0<=aB (aA i)/\aB (aA i)<aB x.length/\True)/\ifB (v==List.getD x (aB (aA i)).toNat 0) (True/\aB (aA i)=AQ (fun(q:Int)=>q==v) x/\True) (∃ (i':{ k:Nat // k<=List.length x/\(List.any (List.take k x) fun(q:Int)=>q==v)=false }),List.length x-aA i'<List.length x-aA i/\IntKind.wrap IntKind.i64 (aB (aA i)+1)=aB (aA i')/\True)) (True/\-1=AQ (fun(q:Int)=>q==v) x/\True)) (by kernel_rfl) ?_
 have hZ:(⟨false,0,[],[]⟩:aF)=cO:=rfl
 dsimp only[aB,asT,aA,aC,Ty.den,Lf.den] at *
 simp only[hZ,Int.toNat_natCast,aU,ay,au,ni,mg,aH,nameAt,aV,aS,bF,rowAt,iy,iq]
 have hp:x.length<=1000000:=hp
 refine fun i=>⟨fun h1=>⟨⟨by omega,h1⟩,fun h2=>?_,fun h2=>⟨⟨i.1+1,by omega,?_⟩,by simp only;omega,by rw[aZ (by omega) (by omega)];rfl⟩⟩,fun h1=>?_⟩
 ·have e:v=x.getD i.1 0:=eq_of_beq h2
  exact(SC (d:=0) (by omega) i.2.2 (by show (x.getD i.1 0==v)=true;rw[<-e];exact beq_self_eq_true v)).symm
 ·have e:(x.getD i.1 0==v)=false:=by rw[jv] at h2 ⊢;exact fun e=>h2 e.symm
  rw[lQ (d:=0) (by omega),i.2.2,e];rfl
 ·have h3:=i.2.2
  rw[jd (by omega)] at h3
  exact(a0j h3).symm
def c3h:Ctr:=⟨[.list tI,tI],[tB],fun x=>(show LI' from x.1).length<=1000000,fun x=>((show LI' from x.1).any (fun q:Int=>q==(show Int from x.2.1)),())⟩
theorem b2S:aW Tryz.prog 91 c3h:=by
 refine bH (nil0.ad b3g) ⟨[],[],[]⟩ Tryz.func91 rfl (by decide) (fun x=>[]) (fun x hp=>?_)
 obtain⟨x,v,u⟩:=x
 change List Int at x
 change Int at v
 refine bM ((List.length x<=1000000/\True)/\True/\(decide (AQ (fun(q:Int)=>q==v) x ≥ 0)=List.any x fun(q:Int)=>q==v)/\True) (by kernel_rfl) ?_
 have hZ:(⟨false,0,[],[]⟩:aF)=cO:=rfl
 dsimp only[aB,asT,aA,aC,Ty.den,Lf.den] at *
 simp only[hZ,Int.toNat_natCast,aU,ay,au,ni,mg,aH,nameAt,aV,aS,bF,rowAt,iy,iq]
 exact⟨hp,SE _ _⟩
def b6x (a:MQ) (j:Nat):LR:=(List.range (wdM a)).map fun c=>eU (PE (DF a (wdM a)).1 (kH a) j c)
def KN (a:MQ) (j c:Nat):LR:=(List.range (wdM a)).map fun d=>if d<c then eU (idm d j) else cO
def FU (a:MQ) (j t:Nat):LR:=(List.range (wdM a)).map fun d=>eU (if d ∈ (kH a).take t then-(DF a (wdM a)).1 ((kH a).idxOf d) j else idm d j)
def sD (a:MQ) (j:Nat):MR:=(frees j (kH a)).map (b6x a)
theorem a7F (a:MQ) (j:Nat):KN a j 0=List.replicate (wdM a) cO:=by
 unfold KN;apply Ac<;>simp
theorem b0C (a:MQ) (j c:Nat):(KN a j c).set c (eU (gUn () c j))=KN a j (c+1):=by
 unfold KN;rw[map_set]
 refine jl fun d _=>?_
 by_cases e:d=c
 ·rw[gy e,gy (by omega),e];rfl
 ·rw[ig e]
  by_cases e2:d<c
  ·rw[gy e2,gy (by omega)]
  ·rw[ig e2,ig (by omega)]
theorem b0B (a:MQ) (j:Nat):KN a j (wdM a)=FU a j 0:=by
 unfold KN FU
 refine jl fun d hd=>?_
 rw[gy (uy.mp hd)];simp
theorem b0E {a:MQ} {j t:Nat} (hd:(kH a).Nodup) (ht:t<(kH a).length):(FU a j t).set (kH a)[t] (eU (- (DF a (wdM a)).1 t j))=FU a j (t+1):=by
 unfold FU;rw[map_set]
 refine jl fun d _=>?_
 by_cases e:d=(kH a)[t]
 ·rw[gy e,gy ((yB ht).mpr (.inr e)),e,xG hd ht]
 ·rw[ig e]
  by_cases e2:d ∈ (kH a).take t
  ·rw[gy e2,gy ((yB ht).mpr (.inl e2))]
  ·rw[ig e2,ig (fun h=>((yB ht).mp h).elim e2 e)]
theorem b0D (a:MQ) {j:Nat} (hj:j ∉ kH a):FU a j (kH a).length=b6x a j:=by
 unfold FU b6x
 refine jl fun d _=>?_
 rw[List.take_length]
 unfold PE
 by_cases e:d=j
 ·rw[ig (by rw[e];exact hj),gy e];show eU (if d=j then 1 else 0)=_;rw[gy e]
 ·rw[ig e]
  by_cases e2:d ∈ kH a
  ·rw[gy e2,gy e2]
  ·rw[ig e2,ig e2];show eU (if d=j then 1 else 0)=_;rw[ig e]
def c0W:Ctr:=⟨[tM],[tM,tI],fun x=>okE x.1,fun x=>(sF x.1,(0:Int),())⟩
theorem a7G:aW Tryz.prog 51 c0W:=by
 refine bH ((((nil0.ad EM).ad a5x).ad c2u).ad b2S) ⟨[],[],[]⟩ Tryz.func51 rfl (by decide) (fun x=>[.inv {j:Nat // j<=wdM (show MQ from x.1)} (fun j=>[(26,.val tI (j.1:Int)),(7,.own 71 0)]++[(8,.any),(9,.any),(10,.any),(11,.any),(12,.any),(27,.any),(28,.any),(29,.any),(30,.any),(31,.any),(32,.any),(33,.any),(34,.any),(35,.any),(36,.any),(37,.any),(38,.any),(39,.any),(40,.any),(41,.any),(42,.any),(43,.any),(44,.any),(45,.any),(46,.any),(47,.any),(48,.any),(49,.any),(50,.any),(51,.any),(52,.any),(53,.any),(54,.any),(55,.any),(56,.any),(57,.any),(58,.any),(59,.any),(60,.any),(61,.any),(62,.any),(63,.any),(64,.any),(65,.any),(66,.any),(67,.any),(68,.any),(69,.any),(70,.any),(71,.any),(72,.any)]) (fun j=>[(71,.row 32 (.list tR) (sD (show MQ from x.1) j.1) 0)]) (fun j=>wdM (show MQ from x.1)-j.1) ⟨0,by omega⟩ (fun j=>[
  .inv {c:Nat // c<=wdM (show MQ from x.1)} (fun c=>[(39,.val tI (c.1:Int))]) (fun c=>[(71,.row 32 (.list tR) (sD (show MQ from x.1) j.1) 0),(36,.row 64 tR (KN (show MQ from x.1) j.1 c.1) 0)]) (fun c=>wdM (show MQ from x.1)-c.1) ⟨0,by omega⟩ (fun _=>[]),
  .inv {t:Nat // t<=(kH (show MQ from x.1)).length} (fun t=>[(51,.val tI (t.1:Int))]) (fun t=>[(71,.row 32 (.list tR) (sD (show MQ from x.1) j.1) 0),(36,.row 64 tR (FU (show MQ from x.1) j.1 t.1) 0)]) (fun t=>(kH (show MQ from x.1)).length-t.1) ⟨0,by omega⟩ (fun _=>[])])]) (fun x hp=>?_)
 obtain⟨a,u⟩:=x
 change List (List Rat) at a
 refine bM (let A₀:=(List.getD (wY a) 0 (aC Rat)).length;let A₁:=(wY a).length;let A₂:=(bV (kH a)).length;(okE a/\True)/\(asT Int 0<=0/\0<aB A₁/\True)/\(asT Int 0=0/\(True/\asT (List (List aF)) (aC (List aF))=aC (List aF))/\(asT (List (List aF)) (aC (List aF))=aC (List aF)/\0=0/\asT Bool true=true)/\True)/\∀ (i:{ j:Nat // j<=wdM a }),let aQ:=(aB (aA i)).toNat;asT Bool true=true/\ifB (decide (aB (aA i)<aB A₀)) ((List.length (bV (kH a))<=1000000/\True)/\ifB (List.any (bV (kH a)) fun(q:Int)=>q==aB (aA i)) (∃ (i':{ j:Nat // j<=wdM a }),wdM a-aA i'<wdM a-aA i/\IntKind.wrap IntKind.i64 (aB (aA i)+1)=aB (aA i')/\sD a (aA i)=sD a (aA i')/\True) ((asT Int 0<=0/\0<aB A₁/\aB A₀=aB A₀/\0<=aB A₀/\aB A₀<=1000000000/\True)/\(asT Int 0=0/\sD a (aA i)=sD a (aA i)/\List.replicate (aB A₀).toNat cO=KN a (aA i) 0/\True)/\∀ (i_1:{ c:Nat // c<=wdM a }),let bJ:=(KN a (aA i) (aA i_1));let dA:=(aB (aA i_1)).toNat;asT Bool true=true/\ifB (decide (aB (aA i_1)<aB (List.replicate (aB A₀).toNat cO).length)) ((a7J () (aB (aA i_1)) (aB (aA i))/\0<=aB (aA i_1)/\aB (aA i_1)<aB bJ.length/\Int.toNat (aB (aA i_1))<List.length bJ/\True)/\∃ (i':{ c:Nat // c<=wdM a }),wdM a-aA i'<wdM a-aA i_1/\IntKind.wrap IntKind.i64 (aB (aA i_1)+1)=aB (aA i')/\sD a (aA i)=sD a (aA i)/\List.set bJ dA (eU (gUn () dA aQ))=KN a (aA i) (aA i')/\True) ((asT Int 0=0/\sD a (aA i)=sD a (aA i)/\KN a (aA i) (aA i_1)=FU a (aA i) 0/\True)/\∀ (i_2:{ t:Nat // t<=List.length (kH a) }),let dJ:=(aB (aA i_2)).toNat;let dU:=(List.getD (wY a) dJ (aC Rat));let fP:=(FU a (aA i) (aA i_2));let gQ:=(List.getD (bV (kH a)) dJ 0);asT Bool true=true/\ifB (decide (aB (aA i_2)<aB A₂)) ((0<=aB (aA i_2)/\aB (aA i_2)<aB A₂/\True)/\(0<=aB (aA i_2)/\aB (aA i_2)<aB A₁/\0<=aB (aA i)/\aB (aA i)<aB dU.length/\s4 (List.getD dU aQ 0)/\0<=List.getD (bV (kH a)) dJ 0/\List.getD (bV (kH a)) dJ 0<aB fP.length/\Int.toNat gQ<List.length fP/\True)/\∃ (i':{ t:Nat // t<=List.length (kH a) }),List.length (kH a)-aA i'<List.length (kH a)-aA i_2/\IntKind.wrap IntKind.i64 (aB (aA i_2)+1)=aB (aA i')/\sD a (aA i)=sD a (aA i)/\List.set fP gQ.toNat (eU (-List.getD dU aQ 0))=FU a (aA i) (aA i')/\True) ((List.length (sD a (aA i))+List.length (FU a (aA i) (aA i_2)::aC (List aF))<=1000000000/\True)/\∃ (i':{ j:Nat // j<=wdM a }),wdM a-aA i'<wdM a-aA i/\IntKind.wrap IntKind.i64 (aB (aA i)+1)=aB (aA i')/\sD a (aA i)++FU a (aA i) (aA i_2)::aC (List aF)=sD a (aA i')/\True)))) ((dS (fun(x:Ty.den (Ty.list (Ty.lf Lf.dF)))=>bY (dS (fun(x:Ty.den (Ty.lf Lf.dF))=>bY ((aF.ok x=true)::aC Prop)) x::aC Prop)) (sD a (aA i))/\True)/\List.map (fun(xs:Ty.den (Ty.list (Ty.lf Lf.dF)))=>List.map (fun(x:Ty.den (Ty.lf Lf.dF))=>aF.x x) xs) (sD a (aA i))=sF a/\True/\asT Int 0=0/\True)) (by kernel_rfl) ?_
 have hZ:(⟨false,0,[],[]⟩:aF)=cO:=rfl
 dsimp only[aB,asT,aA,aC,Ty.den,Lf.den] at *
 simp only[hZ,Int.toNat_natCast,aU,ay,au,ni,mg,aH,nameAt,aV,aS,bF,rowAt,iy,iq]
 have hE:okE a:=hp
 have ha:=hE.1
 have q1:=ha.r64
 have q2:=ha.c64
 have q3:=ha.pos
 have E:Ech a.length (ent a) (wdM a) (DF a (wdM a)).1 (kH a):=iL a.length (ent a) (wdM a)
 have hle:=E.le
 have l1:(wY a).length=a.length:=bF
 have l2:∀ i,i<a.length->(List.getD (wY a) i []).length=wdM a:=fun i hi=>by unfold wY;rw[iT hi];simp
 have l3:∀ i,i<a.length->∀ c,c<wdM a->(List.getD (wY a) i []).getD c 0=(DF a (wdM a)).1 i c:=fun i hi c hc=>by unfold wY;rw[iT hi,gX hc]
 simp only[l1,l2 0 q3,pY]
 refine⟨hE,⟨xg 0,by omega⟩,fun j=>⟨fun h1=>⟨by omega,fun h2=>?_,fun h2=>⟨⟨xg 0,by omega,by omega,by omega⟩,?_,fun c=>⟨fun h3=>?_,fun h3=>⟨?_,fun t=>⟨fun h4=>?_,fun h4=>?_⟩⟩⟩⟩⟩,fun h1=>?_⟩⟩
 ·rw[a2i] at h2
  have h2:=ql h2
  refine⟨⟨j.1+1,by omega⟩,by simp only;omega,by rw[aZ (by omega) (by omega)];rfl,?_⟩
  show sD a j.1=sD a (j.1+1)
  unfold sD;rw[a9p h2]
 ·exact(a7F a j.1).symm
 ·rw[Aa] at h3
  have hc:c.1<wdM a:=by omega
  have l4:(KN a j.1 c.1).length=wdM a:=by simp[KN]
  rw[l4]
  exact⟨⟨⟨qh _,qh _⟩,by omega,by omega,hc⟩,⟨c.1+1,by omega⟩,by simp only;omega,by rw[aZ (by omega) (by omega)];rfl,b0C a j.1 c.1⟩
 ·rw[Aa] at h3
  have hc:c.1=wdM a:=by have:=c.2;omega
  rw[hc];exact b0B a j.1
 ·have ht:t.1<(kH a).length:=by omega
  have hm:=oh ht
  have hp:=E.lt _ hm
  have e1:(bV (kH a)).getD t.1 0=((kH a)[t.1]:Int):=by unfold bV;simp[bf,ht]
  have l4:(FU a j.1 t.1).length=wdM a:=by simp[FU]
  have hj:j.1<wdM a:=by omega
  rw[l2 t.1 (by omega),l3 t.1 (by omega) j.1 hj,e1,l4,Int.toNat_natCast]
  have z:=hE.2 (wdM a) (aj _) t.1 (by omega) j.1 hj
  refine⟨⟨by omega,by omega⟩,⟨by omega,by omega,by omega,by omega,by show rsz ((DF a (wdM a)).1 t.1 j.1)<=_;unfold DF;omega,by omega,by omega,hp⟩,⟨t.1+1,by omega⟩,by simp only;omega,by rw[aZ (by omega) (by omega)];rfl,b0E E.nd ht⟩
 ·have ht:t.1=(kH a).length:=by have:=t.2;omega
  rw[a2i] at h2
  have h2:=Ai h2
  have hfl:(frees j.1 (kH a)).length<=j.1:=by unfold frees;have:=List.length_filter_le (fun c=>decide (c ∉ kH a)) (List.range j.1);simpa using this
  refine⟨by unfold sD;rw[qw];simp;omega,⟨j.1+1,by omega⟩,by simp only;omega,by rw[aZ (by omega) (by omega)];rfl,?_⟩
  show sD a j.1++[FU a j.1 t.1]=sD a (j.1+1)
  unfold sD
  rw[a7o h2,List.map_append,ht,b0D a h2];rfl
 ·have hj:j.1=wdM a:=by have:=j.2;omega
  rw[hj]
  refine⟨kP.mpr fun r hr=>⟨kP.mpr fun q hq=>?_,trivial⟩,?_⟩
  ·obtain⟨s,_,rfl⟩:=ru.mp hr
   obtain⟨c,_,rfl⟩:=yV hq
   exact⟨rfl,trivial⟩
  ·unfold sD sF
   rw[Ec]
   exact jl fun s _=>a2x _ _
def c0O:Ctr:=⟨[.ref tM],[tI],fun x=>0<(show MQ from x.1).length,fun x=>((wdM (show MQ from x.1):Int),())⟩
def c0P:Ctr:=⟨[.ref tM],[tI],fun x=>True,fun x=>(((show MQ from x.1).length:Int),())⟩
theorem a2o:aW Tryz.prog 106 c0O:=by
 refine bH nil0 ⟨[],[],[]⟩ Tryz.func106 rfl (by decide) (fun x=>[]) (fun x hp=>?_)
 obtain⟨a,u⟩:=x
 change List (List Rat) at a
 refine bM ((asT Int 0<=0/\0<aB a.length/\True)/\True/\aB (List.getD a 0 (aC Rat)).length=aB (wdM a)/\True) (by kernel_rfl) ?_
 have hZ:(⟨false,0,[],[]⟩:aF)=cO:=rfl
 dsimp only[aB,asT,aA,aC,Ty.den,Lf.den] at *
 simp only[hZ,Int.toNat_natCast,aU,ay,au,ni,mg,aH,nameAt,aV,aS,bF,rowAt,iy,iq]
 have hp:0<a.length:=hp
 exact⟨xg 0,by omega⟩
theorem a2q:aW Tryz.prog 102 c0P:=by
 refine bH nil0 ⟨[],[],[]⟩ Tryz.func102 rfl (by decide) (fun x=>[]) (fun x hp=>?_)
 obtain⟨a,u⟩:=x
 change List (List Rat) at a
 refine bM (True/\aB a.length=aB a.length/\True) (by kernel_rfl) ?_
 have hZ:(⟨false,0,[],[]⟩:aF)=cO:=rfl
 dsimp only[aB,asT,aA,aC,Ty.den,Lf.den] at *
 simp only[hZ,Int.toNat_natCast,aU,ay,au,ni,mg,aH,nameAt,aV,aS,bF,rowAt,iy,iq]
def c0R:Ctr:=⟨[tM,.list tQ,.clo 106 (.pair (.ref tM) .unit)],[tI],fun x=>okM x.1/\(∀ q ∈ (show LQ' from x.2.1),rsz q<=100000000)/\(show MQ from x.2.2.1.1)=(show MQ from x.1)/\(show LQ' from x.2.1).length=wdM (show MQ from x.1),fun x=>((0:Int),())⟩
def c0S:Ctr:=⟨[tM,.list tQ,.clo 102 (.pair (.ref tM) .unit)],[tI],fun x=>okM x.1/\(∀ q ∈ (show LQ' from x.2.1),rsz q<=100000000)/\(show MQ from x.2.2.1.1)=(show MQ from x.1)/\(show LQ' from x.2.1).length=(show MQ from x.1).length,fun x=>((0:Int),())⟩
theorem a2u:aW Tryz.prog 101 c0R:=by
 refine bH ((((nil0.ad mM).ad oQ).ad mM).ad a2o) ⟨[],[],[]⟩ Tryz.func101 rfl (by decide) (fun x=>[]) (fun x hp=>?_)
 obtain⟨a,x,⟨b,v⟩,u⟩:=x
 change List (List Rat) at a
 change List Rat at x
 change List (List Rat) at b
 refine bM (let A₁:=(fun(x:Ty.den (Ty.lf Lf.rat))=>eU x);let A₀:=(List.map (fun(xs:Ty.den (Ty.list (Ty.lf Lf.rat)))=>List.map A₁ xs) a);(dS (fun(x:Ty.den (Ty.list (Ty.lf Lf.rat)))=>bY (dS (fun(x:Ty.den (Ty.lf Lf.rat))=>bY (aC Prop)) x::aC Prop)) a/\iH A₀/\True)/\ifB (dK A₀ != 0) (True/\dK A₀=0/\True) ((dS (fun(x:Ty.den (Ty.lf Lf.rat))=>bY (aC Prop)) x/\(List.length (List.map A₁ x)<=1000000/\∀ (q:aF),q ∈ List.map A₁ x->sU q)/\True)/\ifB (!!List.any (List.map A₁ x) fun(q:aF)=>!aF.ok q) (True/\asT Int 1=0/\True) ((0<List.length b/\True)/\ifB (aB x.length != aB (wdM b)) (True/\asT Int 4=0/\True) (True/\asT Int 0=0/\True)))) (by kernel_rfl) ?_
 have hZ:(⟨false,0,[],[]⟩:aF)=cO:=rfl
 dsimp only[aB,asT,aA,aC,Ty.den,Lf.den] at *
 simp only[hZ,Int.toNat_natCast,aU,ay,au,ni,mg,aH,nameAt,aV,aS,bF,rowAt,iy,iq]
 have hp:okM a/\(∀ q ∈ x,rsz q<=100000000)/\b=a/\x.length=wdM a:=hp
 obtain⟨ha,sx,rfl,hx⟩:=hp
 have q1:=ha.r64
 have q2:=ha.c64
 have e1:=IW ha.chk
 have e2:(List.map (fun x=>eU x) x).any (fun q=>!q.ok)=false:=Ag.mpr fun q hq=>by
  obtain⟨y,_,rfl⟩:=ru.mp hq;simp[eU]
 refine⟨⟨tH b,ha.short⟩,fun h=>absurd (h.symm.trans e1) (by decide),fun h=>⟨⟨ZN x,by rw[qw];omega,fun q hq=>?_⟩,fun h2=>?_,fun h2=>⟨ha.pos,fun h3=>by rw[hx] at h3;simp at h3,fun _=>trivial⟩⟩⟩
 ·obtain⟨y,hy,rfl⟩:=ru.mp hq
  have:=sx y hy
  have ⟨h3,h4⟩:=EZ y
  exact⟨by omega,by omega⟩
 ·rw[e2] at h2;cases h2
theorem a2v:aW Tryz.prog 101 c0S:=by
 refine bH ((((nil0.ad mM).ad oQ).ad mM).ad a2q) ⟨[],[],[]⟩ Tryz.func101 rfl (by decide) (fun x=>[]) (fun x hp=>?_)
 obtain⟨a,x,⟨b,v⟩,u⟩:=x
 change List (List Rat) at a
 change List Rat at x
 change List (List Rat) at b
 refine bM (let A₁:=(fun(x:Ty.den (Ty.lf Lf.rat))=>eU x);let A₀:=(List.map (fun(xs:Ty.den (Ty.list (Ty.lf Lf.rat)))=>List.map A₁ xs) a);(dS (fun(x:Ty.den (Ty.list (Ty.lf Lf.rat)))=>bY (dS (fun(x:Ty.den (Ty.lf Lf.rat))=>bY (aC Prop)) x::aC Prop)) a/\iH A₀/\True)/\ifB (dK A₀ != 0) (True/\dK A₀=0/\True) ((dS (fun(x:Ty.den (Ty.lf Lf.rat))=>bY (aC Prop)) x/\(List.length (List.map A₁ x)<=1000000/\∀ (q:aF),q ∈ List.map A₁ x->sU q)/\True)/\ifB (!!List.any (List.map A₁ x) fun(q:aF)=>!aF.ok q) (True/\asT Int 1=0/\True) ((True/\True)/\ifB (aB x.length != aB b.length) (True/\asT Int 4=0/\True) (True/\asT Int 0=0/\True)))) (by kernel_rfl) ?_
 have hZ:(⟨false,0,[],[]⟩:aF)=cO:=rfl
 dsimp only[aB,asT,aA,aC,Ty.den,Lf.den] at *
 simp only[hZ,Int.toNat_natCast,aU,ay,au,ni,mg,aH,nameAt,aV,aS,bF,rowAt,iy,iq]
 have hp:okM a/\(∀ q ∈ x,rsz q<=100000000)/\b=a/\x.length=a.length:=hp
 obtain⟨ha,sx,rfl,hx⟩:=hp
 have q1:=ha.r64
 have q2:=ha.c64
 have e1:=IW ha.chk
 have e2:(List.map (fun x=>eU x) x).any (fun q=>!q.ok)=false:=Ag.mpr fun q hq=>by
  obtain⟨y,_,rfl⟩:=ru.mp hq;simp[eU]
 refine⟨⟨tH b,ha.short⟩,fun h=>absurd (h.symm.trans e1) (by decide),fun h=>⟨⟨ZN x,by rw[qw];omega,fun q hq=>?_⟩,fun h2=>?_,fun h2=>⟨fun h3=>by rw[hx] at h3;simp at h3,fun _=>trivial⟩⟩⟩
 ·obtain⟨y,hy,rfl⟩:=ru.mp hq
  have:=sx y hy
  have ⟨h3,h4⟩:=EZ y
  exact⟨by omega,by omega⟩
 ·rw[e2] at h2;cases h2
def c2V:Ctr:=⟨[tM,.list tQ],[.list tQ],fun x=>okM x.1/\szM x.1 1000000/\(show LQ' from x.2.1).length=wdM (show MQ from x.1)/\∀ q ∈ (show LQ' from x.2.1),rsz q<=1000000,fun x=>(mvL x.1 x.2.1,())⟩
theorem b2r:aW Tryz.prog 107 c2V:=by
 refine bH (nil0.ad a1G) ⟨[],[],[]⟩ Tryz.func107 rfl (by decide) (fun x=>[.inv {k:Nat // k<=(show MQ from x.1).length} (fun k=>[(10,.val tI (k.1:Int)),(5,.own 19 0)]++[(18,.any),(19,.any)]) (fun k=>[(19,.row 64 tQ ((List.range k.1).map (mv (wdM (show MQ from x.1)) (ent (show MQ from x.1)) (lv x.2.1))) 0)]) (fun k=>(show MQ from x.1).length-k.1) ⟨0,by omega⟩ (fun _=>[])]) (fun x hp=>?_)
 obtain⟨a,x,u⟩:=x
 change List (List Rat) at a
 change List Rat at x
 refine bM (let A₀:=(mv (wdM a) (ent a) (lv x));(asT Int 0=0/\(True/\asT (List Rat) (aC Rat)=aC Rat)/\(asT (List Rat) (aC Rat)=aC Rat/\0=0/\asT Bool true=true)/\True)/\∀ (i:{ k:Nat // k<=List.length a }),let A₁:=(List.getD a (aB (aA i)).toNat (aC Rat));asT Bool true=true/\ifB (decide (aB (aA i)<aB a.length)) ((0<=aB (aA i)/\aB (aA i)<aB a.length/\True)/\(a1H A₁ x/\List.length (List.map A₀ (List.range (aA i)))+List.length (GZ A₁ x A₁.length::aC Rat)<=1000000000/\True)/\∃ (i':{ k:Nat // k<=List.length a }),List.length a-aA i'<List.length a-aA i/\IntKind.wrap IntKind.i64 (aB (aA i)+1)=aB (aA i')/\List.map A₀ (List.range (aA i))++GZ A₁ x A₁.length::aC Rat=List.map A₀ (List.range (aA i'))/\True) (True/\List.map A₀ (List.range (aA i))=mvL a x/\True)) (by kernel_rfl) ?_
 have hZ:(⟨false,0,[],[]⟩:aF)=cO:=rfl
 dsimp only[aB,asT,aA,aC,Ty.den,Lf.den] at *
 simp only[hZ,Int.toNat_natCast,aU,ay,au,ni,mg,aH,nameAt,aV,aS,bF,rowAt,iy,iq]
 have hp:okM a/\szM a 1000000/\x.length=wdM a/\∀ q ∈ x,rsz q<=1000000:=hp
 obtain⟨ha,sa,hx,sx⟩:=hp
 have q1:=ha.r64
 have q2:=ha.c64
 refine fun i=>⟨fun h1=>?_,fun h1=>?_⟩
 ·have hi:i.1<a.length:=by omega
  have hr:=ha.row hi
  refine⟨⟨by omega,h1⟩,⟨⟨by rw[hr,hx],by rw[hr];exact q2,fun c hc=>⟨sa i.1 hi c (by omega),eX sx (by omega)⟩⟩,by simp;omega⟩,⟨i.1+1,by omega⟩,by simp only;omega,by rw[aZ (by omega) (by omega)];rfl,?_⟩
  rw[Bv,List.map_append,hr];rfl
 ·have hi:i.1=a.length:=by have:=i.2;omega
  rw[hi];rfl
def c0s:Ctr:=⟨[tM,.list tQ],[.list tQ,tI],fun x=>okM x.1/\szM x.1 1000000/\(show LQ' from x.2.1).length=wdM (show MQ from x.1)/\∀ q ∈ (show LQ' from x.2.1),rsz q<=1000000,fun x=>(mvL x.1 x.2.1,(0:Int),())⟩
theorem a1r:aW Tryz.prog 62 c0s:=by
 refine bH ((((nil0.ad a2o).ad a2u).ad a2v).ad b2r) ⟨[],[],[]⟩ Tryz.func62 rfl (by decide) (fun x=>[]) (fun x hp=>?_)
 obtain⟨a,x,u⟩:=x
 change List (List Rat) at a
 change List Rat at x
 refine bM (((okM a/\(∀ (q:Rat),q ∈ x->rsz q<=100000000)/\a=a/\List.length x=wdM a)/\True)/\((okM a/\szM a 1000000/\List.length x=wdM a/\∀ (q:Rat),q ∈ x->rsz q<=1000000)/\True)/\True/\mvL a x=mvL a x/\True/\asT Int 0=0/\True) (by kernel_rfl) ?_
 have hZ:(⟨false,0,[],[]⟩:aF)=cO:=rfl
 dsimp only[aB,asT,aA,aC,Ty.den,Lf.den] at *
 simp only[hZ,Int.toNat_natCast,aU,ay,au,ni,mg,aH,nameAt,aV,aS,bF,rowAt,iy,iq]
 have hp:okM a/\szM a 1000000/\x.length=wdM a/\∀ q ∈ x,rsz q<=1000000:=hp
 obtain⟨ha,sa,hx,sx⟩:=hp
 exact⟨⟨ha,fun q hq=>jg (sx q hq) (by omega),hx⟩,ha,sa,hx,sx⟩
def sS (a:MQ):MQ × Int × Unit:=if jF a=true then (lZ a,0,()) else ([],14,())
def c3j:Ctr:=⟨[tM],[tM,tI],fun x=>okM x.1/\wdM (show MQ from x.1)=(show MQ from x.1).length/\zA (show MQ from x.1).length ((show MQ from x.1).length+(show MQ from x.1).length) (gG (show MQ from x.1).length (ent x.1) idm) (show MQ from x.1).length,fun x=>sS x.1⟩
theorem a5K:aW Tryz.prog 68 c3j:=by
 refine bH ((((((((((((((nil0.an jP).an jR).an jQ).ad a4R).ad EM).ad XB).an b1b).an xR).an xK).an xQ).an xM).an xP).an xO).an b4F) ⟨[5,6],[6],[]⟩ Tryz.func68 rfl (by decide) (fun x=>[]) (fun x hp=>?_)
 obtain⟨a,u⟩:=x
 change List (List Rat) at a
 refine bM (let A₂:=(aB a.length).toNat;let bJ:=(fun(x:Ty.den (Ty.list (Ty.lf Lf.dF)))=>bY (dS (fun(x:Ty.den (Ty.lf Lf.dF))=>bY ((aF.ok x=true)::aC Prop)) x::aC Prop));let dA:=(fun(xs:Ty.den (Ty.list (Ty.lf Lf.dF)))=>List.map (fun(x:Ty.den (Ty.lf Lf.dF))=>aF.x x) xs);let dJ:=(rowsOf none (aY A₂ A₂ (gUn ())));let A₁:=(List.map dA dJ);let A₀:=(aY a.length (wdM a+wdM A₁) (gG (wdM a) (ent a) (ent A₁)));let aQ:=(rowsOf none (aY A₀.length (wdM A₀) (rdm A₀ A₂)),aB a.length,());(okM a/\True)/\ifB (sqC a != 0) (True/\aC (List Rat)=Prod.fst (sS a)/\True/\sqC a=Prod.fst (sS a).2/\True) ((CX TUn a7J (aB a.length,aB a.length,(),())/\dS bJ dJ/\(okM a/\okM A₁/\List.length a=List.length A₁)/\True)/\(a4D A₀ (aB a.length)/\True)/\ifB (decide (aB (bV (rdp A₀ A₂)).length<aB a.length)) (True/\aC (List Rat)=Prod.fst (sS a)/\True/\14=Prod.fst (sS a).2/\True) ((CX TIn b3K (aB a.length,aB a.length,aQ,())/\True)/\(dS bJ (aY A₂ A₂ (gIn aQ))/\True)/\List.map dA (aY A₂ A₂ (gIn aQ))=Prod.fst (sS a)/\True/\0=Prod.fst (sS a).2/\True))) (by kernel_rfl) ?_
 have hZ:(⟨false,0,[],[]⟩:aF)=cO:=rfl
 dsimp only[aB,asT,aA,aC,Ty.den,Lf.den] at *
 simp only[hZ,Int.toNat_natCast,aU,ay,au,ni,mg,aH,nameAt,aV,aS,bF,rowAt,iy,iq]
 have hp:okM a/\wdM a=a.length/\zA a.length (a.length+a.length) (gG a.length (ent a) idm) a.length:=hp
 obtain⟨ha,hw,hok⟩:=hp
 have q1:=ha.r64
 have q3:=ha.pos
 have eI:List.map (fun xs=>List.map (fun x=>aF.x x) xs) (rowsOf none (aY a.length a.length (gUn ())))=idM a.length:=zN _ _ _
 have hI:isM (idM a.length) a.length a.length:=yS q3 q1
 have hIk:okM (idM a.length):=(QL q3).ok hI (by omega)
 have eB:aY a.length (a.length+a.length) (gG a.length (ent a) (ent (idM a.length)))=aY a.length (a.length+a.length) (gG a.length (ent a) idm):=lJ fun i hi j hj=>by
  unfold gG;split
  ·rfl
  ·exact lG hi (by omega)
 have hB:wdM (aY a.length (a.length+a.length) (gG a.length (ent a) idm))=a.length+a.length:=by
  show ((aY a.length (a.length+a.length) (gG a.length (ent a) idm)).getD 0 []).length=_
  rw[jG q3];simp
 have hX:=b1a (R:=a.length) (C:=a.length+a.length) (n:=a.length) (f:=gG a.length (ent a) idm) (by omega)
 have hP:=UG (R:=a.length) (C:=a.length+a.length) (n:=a.length) (f:=gG a.length (ent a) idm) q3 (by omega) (by omega) (by omega) (by omega) hok
 have hsq:sqC a=0:=gy hw.symm
 simp only[eI,hI.wd,hw,eB,hB,hI.len,hsq]
 have hp2:(rdp (aY a.length (a.length+a.length) (gG a.length (ent a) idm)) a.length)=(CS a).2:=by
  show (red (aY _ _ _).length _ _).2=_
  rw[aS];exact hX.1
 have hm2:∀ i,i<a.length->∀ c,c<a.length+a.length->rdm (aY a.length (a.length+a.length) (gG a.length (ent a) idm)) a.length i c=(CS a).1 i c:=fun i hi c hc=>by
  show (red (aY _ _ _).length _ _).1 i c=_
  rw[aS];exact hX.2 i hi c hc
 rw[hp2]
 refine⟨ha,fun h=>(by cases h),fun _=>⟨⟨⟨a.length,a.length,rfl,rfl,by omega,by omega,fun i j _ _=>⟨qh i,qh j⟩⟩,tN _ _ _,ha,hIk,trivial⟩,hP,fun h=>?_,fun h=>?_⟩⟩
 ·try simp only[ay] at h
  rw[pY] at h
  have hr:jF a=false:=jy (by omega)
  have e:sS a=([],14,()):=by unfold sS;rw[hr];rfl
  rw[e];exact⟨rfl,rfl⟩
 ·try simp only[au] at h
  rw[pY] at h
  have hle:(CS a).2.length<=a.length:=(iL a.length (gG a.length (ent a) idm) a.length).le
  have hr:jF a=true:=pz (by omega)
  have e:sS a=(lZ a,0,()):=by unfold sS;rw[hr];rfl
  rw[e]
  have hrow:∀ i,i<a.length->(rowsOf none (aY a.length (a.length+a.length) (rdm (aY a.length (a.length+a.length) (gG a.length (ent a) idm)) a.length))).getD i []=(List.range (a.length+a.length)).map (fun c=>eU (rdm (aY a.length (a.length+a.length) (gG a.length (ent a) idm)) a.length i c)):=fun i hi=>jG hi
  refine⟨⟨a.length,a.length,rfl,rfl,by omega,by omega,fun i j hi hj=>?_⟩,tN _ _ _,(zN _ _ _).trans (fB fun i hi j hj=>?_),rfl⟩
  ·have hi:i<a.length:=hi
   have hj:j<a.length:=hj
   refine⟨qh i,by show i<(aY _ _ _).length;rw[aS];exact hi,qh j,by omega,qh _,by show (a.length:Int)<=1000;omega,?_,?_⟩
   ·show a.length+j<((rowsOf none (aY a.length (a.length+a.length) (rdm (aY a.length (a.length+a.length) (gG a.length (ent a) idm)) a.length))).getD i []).length
    rw[hrow i hi];simp;omega
   ·show (((rowsOf none (aY a.length (a.length+a.length) (rdm (aY a.length (a.length+a.length) (gG a.length (ent a) idm)) a.length))).getD i []).getD (a.length+j) cO).ok=true
    rw[hrow i hi,gX (by omega)];rfl
  ·show FN (aY a.length (a.length+a.length) (rdm (aY a.length (a.length+a.length) (gG a.length (ent a) idm)) a.length)) i (a.length+j)=(CS a).1 i (a.length+j)
   rw[RZ hi (by omega)]
   exact hm2 i hi _ (by omega)
theorem qA {n:Nat} {a a' b b':Mt} {i j:Nat} (h1:∀ k,k<n->a i k=a' i k) (h2:∀ k,k<n->b k j=b' k j):mm n a b i j=mm n a' b' i j:=iG n fun k hk=>by rw[h1 k hk,h2 k hk]
theorem Gau.congr {N f:Nat} {n g n' g':Mt} (H:Gau N f n g) (h1:∀ i,i<N->∀ j,j<N->n' i j=n i j) (h2:∀ i,i<N->∀ j,j<f->g' i j=g i j):Gau N f n' g' :=
 ⟨fun i hi j hj=>by rw[h1 i hi j hj,h1 j hj i hi];exact H.sym i hi j hj,fun i hi j hj=>by rw[<-H.ng i hi j hj];exact qA (fun k hk=>h1 i hi k hk) (fun k hk=>h2 k hk j hj),
  by rw[(xZ (C:=f) h2 f (aj _)).1];exact H.rank,by rw[(xZ (C:=N) h1 N (aj _)).1];exact H.dim⟩
theorem BA.congr {n:Nat} {a x a' x':Mt} (H:BA n a x) (h1:∀ i,i<n->∀ j,j<n->a' i j=a i j) (h2:∀ i,i<n->∀ j,j<n->x' i j=x i j):BA n a' x' :=
 ⟨fun i hi j hj=>by rw[<-H.r i hi j hj];exact qA (fun k hk=>h1 i hi k hk) (fun k hk=>h2 k hk j hj),fun i hi j hj=>by rw[<-H.l i hi j hj];exact qA (fun k hk=>h2 i hi k hk) (fun k hk=>h1 k hk j hj)⟩
theorem isM.WE {a b:MQ} {R n C:Nat} (h:isM a R n) (g:isM b n C) {i j:Nat} (hi:i<R) (hj:j<C):ent (mulM a b) i j=mm n (ent a) (ent b) i j:=by
 unfold mulM;rw[h.len,g.wd,g.len];exact lG hi hj
theorem isM.b9N {a:MQ} {R C:Nat} (h:isM a R C) {i j:Nat} (hi:i<C) (hj:j<R):ent (trM a) i j=ent a j i:=by
 unfold trM;rw[h.len,h.wd];exact lG hi hj
theorem isM.c2Q {a b:MQ} {R C:Nat} (h:isM a R C) {i j:Nat} (hi:i<R) (hj:j<C):ent (OY a b) i j=ent a i j+ent b i j:=by
 unfold OY;rw[h.len,h.wd];exact lG hi hj
theorem isM.c4i {a b:MQ} {R C:Nat} (h:isM a R C) {i j:Nat} (hi:i<R) (hj:j<C):ent (VB a b) i j=ent a i j-ent b i j:=by
 unfold VB;rw[h.len,h.wd];exact lG hi hj
theorem isM.rk {a:MQ} {R C:Nat} (h:isM a R C):rkM a=(red R (ent a) C).2.length:=by unfold rkM DF;rw[h.len,h.wd]
theorem a8q {a:MQ} {R C:Nat} (h:isM a R C):a3z a=true↔∀ i,i<R->∀ j,j<C->ent a i j=0:=by unfold a3z;rw[h.len,h.wd,ay]
theorem b1W {a:MQ} {R C:Nat} (h:isM a R C):VD a=true↔∀ i,i<R->∀ j,j<R->ent a i j=ent a j i:=by unfold VD;rw[h.len,ay]
theorem a9v {n g:MQ} {N c:Nat} (hn:isM n N N) (hg:isM g N c):BZ n g=true↔Gau N c (ent n) (ent g):=by
 unfold BZ
 rw[ak,ak,ak,ay,ay,b1W hn,a8q (hn.mul hg),hg.rk,hn.rk,hg.wd,hn.len]
 constructor
 ·rintro⟨⟨⟨h1,h2⟩,h3⟩,h4⟩
  exact⟨h1,fun i hi j hj=>by rw[<-hn.WE hg hi hj];exact h2 i hi j hj,h3,by rw[h3] at h4;exact h4⟩
 ·rintro⟨h1,h2,h3,h4⟩
  exact⟨⟨⟨h1,fun i hi j hj=>by rw[hn.WE hg hi hj];exact h2 i hi j hj⟩,h3⟩,by rw[h3];exact h4⟩
theorem a4e {α:Type} (l:List Nat) (g:Nat->α):l.map g=(List.range l.length).map (fun s=>g (l.getD s 0)):=by
 apply Ac
 ·simp
 ·intro i h1 h2
  have h1:i<l.length:=by simpa using h1
  simp[bf,h1]
theorem YA {n:MQ} {N:Nat} (hn:isM n N N):sF n=tab (frees N (red N (ent n) N).2).length N (tr (b5c N (ent n))):=by
 unfold sF DF;rw[hn.len,hn.wd,a4e];rfl
theorem a9q {n:Nat} {p:List Nat} (hd:p.Nodup) (hl:∀ j ∈ p,j<n):(frees n p).length<=n:=by have:=EO hd hl;omega
def bgM (g b:MQ):MQ:=mulM (trM b) g
def sM (g b:MQ):MQ:=VB (idM g.length) (mulM g (mulM (lZ (bgM g b)) (trM b)))
theorem ZT {g b:MQ} {N c:Nat} (hg:isM g N c) (hb:isM b N c):isM (bgM g b) c c:=hb.trp.mul hg
theorem c0q {g b:MQ} {N c:Nat} (hg:isM g N c) (hb:isM b N c) {i j:Nat} (hi:i<c) (hj:j<c):ent (bgM g b) i j=bg N (ent b) (ent g) i j:=by
 unfold bgM bg;rw[hb.trp.WE hg hi hj];exact qA (fun k hk=>hb.b9N hi hk) (fun _ _=>rfl)
theorem a2O {a:MQ} {n:Nat} (h:isM a n n):jF a=true↔∀ x,(∀ i,i<n->mv n (ent a) x i=0)->∀ c,c<n->x c=0:=by
 unfold jF CS;rw[h.len,ay];exact a5L idm
theorem b0a {a:MQ} {n:Nat} (h:isM a n n) (hr:jF a=true):BA n (ent a) (ent (lZ a)):=by
 unfold jF CS at hr;rw[h.len,ay] at hr
 refine(inv_of hr).congr (fun _ _ _ _=>rfl) fun i hi j hj=>?_
 unfold lZ CS;rw[h.len];exact lG hi hj
theorem b5s {g b:MQ} {N c:Nat} (hg:isM g N c) (hb:isM b N c) (hr:jF (bgM g b)=true):BA c (bg N (ent b) (ent g)) (ent (lZ (bgM g b))) :=
 (b0a (ZT hg hb) hr).congr (fun i hi j hj=>(c0q hg hb hi hj).symm) (fun _ _ _ _=>rfl)
theorem a0V {g b:MQ} {N c:Nat} (hg:isM g N c):isM (sM g b) N N:=by
 unfold sM;rw[hg.len];exact(yS hg.2.2.1 hg.2.2.2.1).sub
theorem c4h {g b:MQ} {N c:Nat} (hg:isM g N c) (hb:isM b N c) {i j:Nat} (hi:i<N) (hj:j<N):ent (sM g b) i j=a0Y c (ent g) (ent b) (ent (lZ (bgM g b))) i j:=by
 have hw:=(ZT hg hb).inv
 unfold sM;rw[hg.len,(yS hg.2.2.1 hg.2.2.2.1).c4i hi hj,hg.WE (hw.mul hb.trp) hi hj]
 show ent (idM N) i j-_=idm i j-_
 rw[show ent (idM N) i j=idm i j from lG hi hj]
 congr 1
 refine qA (fun _ _=>rfl) fun k hk=>?_
 rw[hw.WE hb.trp hk hj]
 exact qA (fun _ _=>rfl) fun l hl=>hb.b9N hl hj
theorem QB (a:MQ) (x:List Rat):(mvL a x).length=a.length:=by simp[mvL]
theorem b5b {a:MQ} {R C:Nat} (h:isM a R C) {x:List Rat} {i:Nat} (hi:i<R):lv (mvL a x) i=mv C (ent a) (lv x) i:=by
 unfold mvL;rw[h.len,h.wd];exact gX hi
theorem b1s {g b:MQ} {N c:Nat} (hg:isM g N c) (hb:isM b N c) {x:List Rat} {i:Nat} (hi:i<N):lv (mvL (sM g b) x) i=mv N (a0Y c (ent g) (ent b) (ent (lZ (bgM g b)))) (lv x) i:=by
 rw[b5b (a0V hg) hi];exact TV fun k hk=>c4h hg hb hi hk
theorem b1H {a:MQ} {R C:Nat} (h:isM a R C) (x:List Rat):(a1c a x).length=C:=by unfold a1c;rw[h.wd];simp
theorem b3s {x y:List Rat} {n:Nat} (h1:x.length=n) (h2:y.length=n) (h:∀ i,i<n->lv x i=lv y i):x=y:=by
 apply Ac
 ·rw[h1,h2]
 ·intro i h3 h4
  have:=h i (by omega)
  simpa [lv,bf,h3,h4] using this
end Go.Proofs.YtgplhbhfdgempaaGreat
