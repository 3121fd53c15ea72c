/-
  Lemmas for the statements about datums, part 26 of 37.
-/
import Derived.Test.YtgplhbhfdgempaaGreatDb25
namespace Go.Proofs.YtgplhbhfdgempaaGreat
open Go Go.RowKit
set_option maxRecDepth 100000
set_option maxHeartbeats 1000000
set_option linter.unusedVariables false
set_option linter.unusedSimpArgs false
theorem b5X {a b:MQ} (ha:okM a) (hb:okM b):gW [liftM a,liftM b]=0:=a6K fun m hm=>by
 rcases oq.mp hm with rfl|hm
 ·exact ha.chk
 ·rw[lN.mp hm];exact hb.chk
theorem a9P {a b:MQ} (ha:okM a) (hb:okM b):∀ m ∈ [liftM a,liftM b],iM m:=fun m hm=>by
 rcases oq.mp hm with rfl|hm
 ·exact ha.short
 ·rw[lN.mp hm];exact hb.short
theorem b2H {R C n:Nat} {f:Mt} (hn:n<=C):(red R (IV (bK R C f)) n).2=(red R f n).2/\∀ i,i<R->∀ c,c<C->(red R (IV (bK R C f)) n).1 i c=(red R f n).1 i c:=zC (fun i hi c hc=>UY hi hc) n hn
theorem XA {R C n:Nat} {f:Mt} (r1:1<=R) (r2:R<=1000) (c1:1<=C) (c2:C<=1000) (hn:n<=C) (H:AQ R C f n):a5R (bK R C f) (n:Int):=by
 have hw:wdM (bK R C f)=C:=by show ((bK R C f).getD 0 []).length=C;rw[jT (by omega)];simp
 unfold a5R
 rw[aN,hw]
 refine⟨mF fun i hi j hj=>(UY hi hj).symm,r1,r2,c1,c2,by omega,by omega,fun t ht i hi c hc=>?_⟩
 rw[(b2H (by have:t<=n:=ht;omega)).2 i hi c hc]
 exact H t ht i hi c hc
def b6S:Ctr:=⟨[tI],[tM,tI],fun x=>1<=(show Int from x.1)/\(show Int from x.1)<=64,fun x=>(idM (show Int from x.1).toNat,(0:Int),())⟩
theorem a8Y:aY Tryz.prog 99 b6S:=by
 refine bH ((((((((((nil0.an kF).an kH).an kG).ad GK).an yV).an yQ).an yU).an yR).an yT).an yS) ⟨[],[],[]⟩ Tryz.func99 rfl (by decide) (fun x=>[]) (fun x hp=>?_)
 obtain⟨n,u⟩:=x
 change Int at n
 refine bP ((((decide (n<1)==false)=true->(decide (n<1)==false)=true/\True)/\(decide (n<1)=false->(decide (n<1)==false)=true)/\True)/\ifB (bif decide (n<1) then true else decide (n > 64)) (True/\aC (List Rat)=idM n.toNat/\True/\asT Int 2=0/\True) ((ET TUn a9n (n,n,(),())/\True)/\(bY (fun(x:Ty.den (Ty.list (Ty.lf Lf.aU)))=>aW (bY (fun(x:Ty.den (Ty.lf Lf.aU))=>aW ((aF.ok x=true)::aC Prop)) x::aC Prop)) (bK n.toNat n.toNat (gUn ()))/\True)/\List.map (fun(xs:Ty.den (Ty.list (Ty.lf Lf.aU)))=>List.map (fun(x:Ty.den (Ty.lf Lf.aU))=>aF.x x) xs) (bK n.toNat n.toNat (gUn ()))=idM n.toNat/\True/\asT Int 0=0/\True)) (by kernel_rfl) ?_
 have h:1<=n/\n<=64:=hp
 have e:n=(n.toNat:Int):=by omega
 exact⟨⟨fun h=>⟨h,trivial⟩,fun h=>by rw[h];rfl,trivial⟩,ifF (by rw[jq (by omega),jq (by omega)];rfl) ⟨⟨⟨n.toNat,n.toNat,e,e,by omega,by omega,fun i j _ _=>⟨jv _,jv _⟩⟩,trivial⟩,⟨vG _ _ _,trivial⟩,BM _ _ _,trivial,rfl,trivial⟩⟩
def c1R:Ctr:=⟨[tM,tM],[tI],fun x=>okM x.1/\okM x.2.1/\(show MQ from x.1).length=(show MQ from x.2.1).length/\wdM (show MQ from x.1)=wdM (show MQ from x.2.1),fun x=>((0:Int),())⟩
theorem a2G:aY Tryz.prog 113 c1R:=by
 refine bH (nil0.ad RD) ⟨[],[],[]⟩ Tryz.func113 rfl (by decide) (fun x=>[]) (fun x hp=>?_)
 obtain⟨a,b,u⟩:=x
 change List (List Rat) at a
 change List (List Rat) at b
 refine bP (let A₁:=(Ty.list (Ty.lf Lf.rat));let A₀:=(List.map (fun(xs:Ty.den (Ty.list A₁))=>List.map (fun(xs:Ty.den A₁)=>List.map (fun(x:Ty.den (Ty.lf Lf.rat))=>dS x) xs) xs) (a::b::aC (List (List Rat))));(((bY (fun(x:Ty.den A₁)=>aW (bY (fun(x:Ty.den (Ty.lf Lf.rat))=>aW (aC Prop)) x::aC Prop)) a/\True)/\(bY (fun(x:Ty.den A₁)=>aW (bY (fun(x:Ty.den (Ty.lf Lf.rat))=>aW (aC Prop)) x::aC Prop)) b/\True)/\True)/\(List.length A₀<=1000000/\∀ (a_1:List (List aF)),a_1 ∈ List.map (fun(xs:Ty.den (Ty.list A₁))=>List.map (fun(xs:Ty.den A₁)=>List.map (fun(x:Ty.den (Ty.lf Lf.rat))=>dS x) xs) xs) (a::b::aC (List (List Rat)))->iM a_1)/\True)/\ifB (gW A₀ != 0) (True/\gW A₀=0/\True) (((((aA a.length != aA b.length)==false)=true->((aA a.length != aA b.length)==false)=true/\asT Int 0<=0/\0<aA a.length/\True)/\(((aA a.length != aA b.length)==false)=true->((aA a.length != aA b.length)==false)=true/\True)/\(((aA a.length != aA b.length)==false)=true->((aA a.length != aA b.length)==false)=true/\True)/\(((aA a.length != aA b.length)==false)=true->((aA a.length != aA b.length)==false)=true/\asT Int 0<=0/\0<aA b.length/\True)/\(((aA a.length != aA b.length)==false)=true->((aA a.length != aA b.length)==false)=true/\True)/\(((aA a.length != aA b.length)==false)=true->((aA a.length != aA b.length)==false)=true/\True)/\(((aA a.length != aA b.length)==false)=true->((aA a.length != aA b.length)==false)=true/\((aA a.length != aA b.length)==false)=true/\True)/\((aA a.length != aA b.length)=false->((aA a.length != aA b.length)==false)=true)/\True)/\ifB (bif aA a.length != aA b.length then true else aA (List.getD a 0 (aC Rat)).length != aA (List.getD b 0 (aC Rat)).length) (True/\asT Int 4=0/\True) (True/\asT Int 0=0/\True))) (by kernel_rfl) ?_
 have hp:okM a/\okM b/\a.length=b.length/\wdM a=wdM b:=hp
 obtain⟨ha,hb,hl,hw⟩:=hp
 have e:((a.length:Int) != (b.length:Int))=false:=by rw[hl];simp
 refine⟨⟨⟨⟨uZ a,trivial⟩,⟨uZ b,trivial⟩,trivial⟩,⟨by show 2<=1000000;omega,a9P ha hb⟩,trivial⟩,ifF (KJ (b5X ha hb)) ⟨?_,ifF ?_ ⟨trivial,rfl,trivial⟩⟩⟩
 ·dsimp only[aA,asT]
  rw[e]
  exact⟨fun _=>⟨rfl,qh 0,ha.poz,trivial⟩,fun h=>⟨h,trivial⟩,fun h=>⟨h,trivial⟩,fun _=>⟨rfl,qh 0,hb.poz,trivial⟩,fun h=>⟨h,trivial⟩,fun h=>⟨h,trivial⟩,fun h=>⟨h,h,trivial⟩,fun _=>rfl,trivial⟩
 ·dsimp only[aA]
  rw[e]
  show ((wdM a:Int) != (wdM b:Int))=false
  rw[hw];simp
def c1N:Ctr:=⟨[tM,tM],[tM,tI],fun x=>okM x.1/\okM x.2.1/\(show MQ from x.1).length=(show MQ from x.2.1).length/\wdM (show MQ from x.1)=wdM (show MQ from x.2.1),fun x=>(RY x.1 x.2.1,(0:Int),())⟩
def c2B:Ctr:=⟨[tM,tM],[tM,tI],fun x=>okM x.1/\okM x.2.1/\(show MQ from x.1).length=(show MQ from x.2.1).length/\wdM (show MQ from x.1)=wdM (show MQ from x.2.1),fun x=>(YU x.1 x.2.1,(0:Int),())⟩
def c5o:DF:=.mk LKm [tM,tM] (fun x=>okM x.1/\okM x.2.1/\(show MQ from x.1).length=(show MQ from x.2.1).length) (fun x=>bK (show MQ from x.1).length (wdM (show MQ from x.1)+wdM (show MQ from x.2.1)) (gV (wdM (show MQ from x.1)) (ent x.1) (ent x.2.1)))
def JQ (x:LQ'):MQ:=tab x.length 1 fun i _=>lv x i
def c4u:Ctr:=⟨[.list tQ],[tM],fun x=>1<=(show LQ' from x.1).length/\(show LQ' from x.1).length<=64,fun x=>(JQ x.1,())⟩
theorem b0b:aY Tryz.prog 67 c1N:=by
 refine bH (((((((((((nil0.an kF).an kH).an kG).ad ZC).an yV).an yQ).an yU).an yR).an yT).an yS).ad a2G) ⟨[],[],[]⟩ Tryz.func67 rfl (by decide) (fun x=>[]) (fun x hp=>?_)
 obtain⟨a,b,u⟩:=x
 change List (List Rat) at a
 change List (List Rat) at b
 refine bP (((okM a/\okM b/\List.length a=List.length b/\wdM a=wdM b)/\True)/\(asT Int 0<=0/\0<aA a.length/\ET TAd b5e (aA a.length,aA (List.getD a 0 (aC Rat)).length,(a,b,()),())/\True)/\(bY (fun(x:Ty.den (Ty.list (Ty.lf Lf.aU)))=>aW (bY (fun(x:Ty.den (Ty.lf Lf.aU))=>aW ((aF.ok x=true)::aC Prop)) x::aC Prop)) (bK (aA a.length).toNat (aA (List.getD a 0 (aC Rat)).length).toNat (gAd (a,b,())))/\True)/\List.map (fun(xs:Ty.den (Ty.list (Ty.lf Lf.aU)))=>List.map (fun(x:Ty.den (Ty.lf Lf.aU))=>aF.x x) xs) (bK (aA a.length).toNat (aA (List.getD a 0 (aC Rat)).length).toNat (gAd (a,b,())))=RY a b/\True/\asT Int 0=0/\True) (by kernel_rfl) ?_
 have hp':okM a/\okM b/\a.length=b.length/\wdM a=wdM b:=hp
 obtain⟨ha,hb,hl,hw⟩:=hp'
 refine⟨⟨hp,trivial⟩,⟨qh 0,ha.poz,⟨a.length,wdM a,rfl,rfl,by have:=ha.r64;omega,by have:=ha.c64;omega,fun i j hi hj=>?_⟩,trivial⟩,⟨vG _ _ _,trivial⟩,BM _ _ _,trivial,rfl,trivial⟩
 have hj:j<wdM a:=hj
 have hi:i<a.length:=hi
 have h1:=ha.2 i hi j hj
 have h2:=hb.2 i (by omega) j (by omega)
 exact⟨⟨jv i,hi,by show i<b.length;omega,jv j,by show j<(a.getD i []).length;rw[ha.row hi];exact hj,by show j<(b.getD i []).length;rw[hb.row (by omega)];omega⟩,by show rsz (ent a i j)<=_;omega,by show rsz (ent b i j)<=_;omega⟩
theorem b3u:aY Tryz.prog 100 c2B:=by
 refine bH (((((((((((nil0.an kF).an kH).an kG).ad ZJ).an yV).an yQ).an yU).an yR).an yT).an yS).ad a2G) ⟨[],[],[]⟩ Tryz.func100 rfl (by decide) (fun x=>[]) (fun x hp=>?_)
 obtain⟨a,b,u⟩:=x
 change List (List Rat) at a
 change List (List Rat) at b
 refine bP (((okM a/\okM b/\List.length a=List.length b/\wdM a=wdM b)/\True)/\(asT Int 0<=0/\0<aA a.length/\ET TSb b5k (aA a.length,aA (List.getD a 0 (aC Rat)).length,(a,b,()),())/\True)/\(bY (fun(x:Ty.den (Ty.list (Ty.lf Lf.aU)))=>aW (bY (fun(x:Ty.den (Ty.lf Lf.aU))=>aW ((aF.ok x=true)::aC Prop)) x::aC Prop)) (bK (aA a.length).toNat (aA (List.getD a 0 (aC Rat)).length).toNat (gSb (a,b,())))/\True)/\List.map (fun(xs:Ty.den (Ty.list (Ty.lf Lf.aU)))=>List.map (fun(x:Ty.den (Ty.lf Lf.aU))=>aF.x x) xs) (bK (aA a.length).toNat (aA (List.getD a 0 (aC Rat)).length).toNat (gSb (a,b,())))=YU a b/\True/\asT Int 0=0/\True) (by kernel_rfl) ?_
 have hp':okM a/\okM b/\a.length=b.length/\wdM a=wdM b:=hp
 obtain⟨ha,hb,hl,hw⟩:=hp'
 refine⟨⟨hp,trivial⟩,⟨qh 0,ha.poz,⟨a.length,wdM a,rfl,rfl,by have:=ha.r64;omega,by have:=ha.c64;omega,fun i j hi hj=>?_⟩,trivial⟩,⟨vG _ _ _,trivial⟩,BM _ _ _,trivial,rfl,trivial⟩
 have hj:j<wdM a:=hj
 have hi:i<a.length:=hi
 have h1:=ha.2 i hi j hj
 have h2:=hb.2 i (by omega) j (by omega)
 exact⟨⟨jv i,hi,by show i<b.length;omega,jv j,by show j<(a.getD i []).length;rw[ha.row hi];exact hj,by show j<(b.getD i []).length;rw[hb.row (by omega)];omega⟩,by show rsz (ent a i j)<=_;omega,by show rsz (ent b i j)<=_;omega⟩
theorem b6e:NOk Tryz.prog 103 c5o:=by
 refine sK ((((((((((nil0.an kF).an kH).an kG).ad ZE).an yV).an yQ).an yU).an yR).an yT).an yS) ⟨[],[],[]⟩ Tryz.func103 rfl (by decide) (fun x=>[]) (fun x hp=>?_)
 obtain⟨a,b,u⟩:=x
 change List (List Rat) at a
 change List (List Rat) at b
 refine bP ((asT Int 0<=0/\0<aA a.length/\asT Int 0<=0/\0<aA b.length/\ET TBe b5f (aA a.length,IntKind.wrap IntKind.i64 (aA (List.getD a 0 (aC Rat)).length+aA (List.getD b 0 (aC Rat)).length),(a,b,()),())/\True)/\bK a.length (wdM a+wdM b) (gV (wdM a) (ent a) (ent b))=bK (aA a.length).toNat (IntKind.wrap IntKind.i64 (aA (List.getD a 0 (aC Rat)).length+aA (List.getD b 0 (aC Rat)).length)).toNat (gBe (a,b,()))) (by kernel_rfl) ?_
 have hp:okM a/\okM b/\a.length=b.length:=hp
 obtain⟨ha,hb,hl⟩:=hp
 have q1:=ha.c64
 have q2:=hb.c64
 have q3:=ha.r64
 have e:IntKind.wrap .i64 ((wdM a:Int)+(wdM b:Int))=((wdM a+wdM b:Nat):Int):=by rw[bF (by omega) (by omega)];rfl
 dsimp only[aA,asT,aB,aC]
 rw[show (a.getD 0 []).length=wdM a from rfl,show (b.getD 0 []).length=wdM b from rfl,e]
 refine⟨⟨qh 0,ha.poz,qh 0,hb.poz,⟨a.length,wdM a+wdM b,rfl,rfl,by omega,by omega,fun i j hi hj=>?_⟩,trivial⟩,rfl⟩
 exact⟨jv i,hi,by show i<b.length;omega,jv j,by show a.length<=1000;omega,ha.row hi,by show j<wdM a+(b.getD i []).length;rw[hb.row (by omega)];exact hj,by omega⟩
theorem b4i:aY Tryz.prog 104 c4u:=by
 refine bH ((((((((((nil0.an kF).an kH).an kG).ad ZF).an yV).an yQ).an yU).an yR).an yT).an yS) ⟨[],[],[]⟩ Tryz.func104 rfl (by decide) (fun x=>[]) (fun x hp=>?_)
 obtain⟨a,u⟩:=x
 change List Rat at a
 refine bP ((ET TCl b5g (aA a.length,1,(a,()),())/\True)/\(bY (fun(x:Ty.den (Ty.list (Ty.lf Lf.aU)))=>aW (bY (fun(x:Ty.den (Ty.lf Lf.aU))=>aW ((aF.ok x=true)::aC Prop)) x::aC Prop)) (bK (aA a.length).toNat 1 (gCl (a,())))/\True)/\List.map (fun(xs:Ty.den (Ty.list (Ty.lf Lf.aU)))=>List.map (fun(x:Ty.den (Ty.lf Lf.aU))=>aF.x x) xs) (bK (aA a.length).toNat 1 (gCl (a,())))=JQ a/\True) (by kernel_rfl) ?_
 have hp:1<=a.length/\a.length<=64:=hp
 exact⟨⟨⟨a.length,1,rfl,rfl,by omega,by omega,fun i j hi _=>⟨jv i,hi⟩⟩,trivial⟩,⟨vG _ _ _,trivial⟩,BM _ _ _,trivial⟩
def c4w:Ctr:=⟨[tM],[tM,.list tI,tI],fun x=>okE x.1,fun x=>(zV x.1,dA (lC x.1),(0:Int),())⟩
theorem a6R:aY Tryz.prog 90 c4w:=by
 refine bH (((nil0.ad qB).an b0G).an b2I) ⟨[],[],[]⟩ Tryz.func90 rfl (by decide) (fun x=>[]) (fun x hp=>?_)
 obtain⟨a,u⟩:=x
 change List (List Rat) at a
 refine bP (let A₀:=(bK a.length (wdM a) (ent a));let A₁:=(List.map (fun(xs:Ty.den (Ty.list (Ty.lf Lf.rat)))=>List.map (fun(x:Ty.den (Ty.lf Lf.rat))=>dS x) xs) a);let A₂:=(aA (rowAt A₀ 0).length);let aV:=(bK A₀.length (wdM A₀) (rdm A₀ A₂.toNat));(bY (fun(x:Ty.den (Ty.list (Ty.lf Lf.rat)))=>aW (bY (fun(x:Ty.den (Ty.lf Lf.rat))=>aW (aC Prop)) x::aC Prop)) a/\iM A₁/\True)/\ifB (bW A₁ != 0) (True/\aC (List Rat)=zV a/\True/\aC Int=dA (lC a)/\True/\bW A₁=0/\True) ((okM a/\True)/\(asT Int 0<=0/\0<aA (aH none A₀)/\0<aH none A₀/\a5R A₀ A₂/\True)/\(bY (fun(x:Ty.den (Ty.list (Ty.lf Lf.aU)))=>aW (bY (fun(x:Ty.den (Ty.lf Lf.aU))=>aW ((aF.ok x=true)::aC Prop)) x::aC Prop)) aV/\True)/\List.map (fun(xs:Ty.den (Ty.list (Ty.lf Lf.aU)))=>List.map (fun(x:Ty.den (Ty.lf Lf.aU))=>aF.x x) xs) aV=zV a/\True/\dA (rdp A₀ A₂.toNat)=dA (lC a)/\True/\asT Int 0=0/\True)) (by kernel_rfl) ?_
 have hE:okE a:=hp
 have ha:=hE.1
 have hr:((bK a.length (wdM a) (ent a)).getD 0 []).length=wdM a:=by rw[jT ha.pos];simp
 have hw:wdM (bK a.length (wdM a) (ent a))=wdM a:=hr
 have hc:=b2H (R:=a.length) (f:=ent a) (aj (wdM a))
 dsimp only[aA,asT,aB,aC] at *
 refine⟨⟨uZ a,ha.short,trivial⟩,ifF (KJ ha.chk) ⟨⟨ha,trivial⟩,?_⟩⟩
 simp only[aH,rowAt,aN,hr,hw,Int.toNat_natCast]
 refine⟨⟨qh 0,ha.poz,ha.pos,XA ha.pos (by have:=ha.r64;omega) ha.c1 (by have:=ha.c64;omega) (aj _) hE.2,trivial⟩,⟨vG _ _ _,trivial⟩,(BM _ _ _).trans ?_,trivial,?_,trivial,trivial,trivial⟩
 ·show tab _ _ (red (bK a.length (wdM a) (ent a)).length _ _).1=_
  rw[aN]
  exact fE fun i hi j hj=>hc.2 i hi j hj
 ·show dA (red (bK a.length (wdM a) (ent a)).length _ _).2=_
  rw[aN,hc.1];rfl
def c2x:Ctr:=⟨[tM],[tI,tI],fun x=>okE x.1,fun x=>((rkM x.1:Int),(0:Int),())⟩
theorem b2D:aY Tryz.prog 97 c2x:=by
 refine bH (nil0.ad a6R) ⟨[],[],[]⟩ Tryz.func97 rfl (by decide) (fun x=>[]) (fun x hp=>?_)
 obtain⟨a,u⟩:=x
 change List (List Rat) at a
 refine bP ((okE a/\True)/\True/\aA (dA (lC a)).length=aA (rkM a)/\True/\asT Int 0=0/\True) (by kernel_rfl) ?_
 have hE:okE a:=hp
 exact⟨⟨hE,trivial⟩,trivial,by rw[qX];rfl,trivial,rfl,trivial⟩
theorem c3V:aY Tryz.prog 93 (cQ1 s4 (fun x=>-x)):=(b6U fun v x w a h=>a3L v true x w a.raw (a.qn (jc h (by omega))))
abbrev LI':Type:=List Int
def c4z:Ctr:=⟨[.list tI,tI],[tI],fun x=>(show LI' from x.1).length<=1000000,fun x=>(CQ (fun q:Int=>q==(show Int from x.2.1)) (show LI' from x.1),())⟩
theorem b4J:aY Tryz.prog 138 c4z:=by
 refine bH nil0 ⟨[],[],[]⟩ Tryz.func138 rfl (by decide) (fun x=>[.inv {k:Nat // k<=(show LI' from x.1).length/\((show LI' from x.1).take k).any (fun q:Int=>q==(show Int from x.2.1))=false} (fun k=>[(8,.val tI (k.1:Int))]) (fun k=>[]) (fun k=>(show LI' from x.1).length-k.1) ⟨0,by omega,rfl⟩ (fun _=>[])]) (fun x hp=>?_)
 obtain⟨x,v,u⟩:=x
 change List Int at x
 change Int at v
 refine bP ((asT Int 0=0/\True)/\∀ (i:{ k:Nat // k<=List.length x/\(List.any (List.take k x) fun(q:Int)=>q==v)=false }),asT Bool true=true/\ifB (decide (aA (aB i)<aA x.length)) ((0<=aA (aB i)/\aA (aB i)<aA x.length/\True)/\ifB (v==List.getD x (aA (aB i)).toNat 0) (True/\aA (aB i)=CQ (fun(q:Int)=>q==v) x/\True) (∃ (i':{ k:Nat // k<=List.length x/\(List.any (List.take k x) fun(q:Int)=>q==v)=false }),List.length x-aB i'<List.length x-aB i/\IntKind.wrap IntKind.i64 (aA (aB i)+1)=aA (aB i')/\True)) (True/\-1=CQ (fun(q:Int)=>q==v) x/\True)) (by kernel_rfl) ?_
 have hZ:(⟨false,0,[],[]⟩:aF)=bV:=rfl
 dsimp only[aA,asT,aB,aC,Ty.den,Lf.den] at *
 simp only[hZ,Int.toNat_natCast,aJ,dh,bn,mg,mW,aH,nameAt,aX,aN,aZ,rowAt,iw,gJ]
 have hp:x.length<=1000000:=hp
 refine fun i=>⟨fun h1=>⟨⟨by omega,h1⟩,fun h2=>?_,fun h2=>⟨⟨i.1+1,by omega,?_⟩,by simp only;omega,by rw[bF (by omega) (by omega)];rfl⟩⟩,fun h1=>?_⟩
 ·have e:v=x.getD i.1 0:=eq_of_beq h2
  exact(VB (d:=0) (by omega) i.2.2 (by show (x.getD i.1 0==v)=true;rw[<-e];exact beq_self_eq_true v)).symm
 ·have e:(x.getD i.1 0==v)=false:=by rw[nS] at h2 ⊢;exact fun e=>h2 e.symm
  rw[mM (d:=0) (by omega),i.2.2,e];rfl
 ·have h3:=i.2.2
  rw[jG (by omega)] at h3
  exact(a1p h3).symm
def c4y:Ctr:=⟨[.list tI,tI],[tB],fun x=>(show LI' from x.1).length<=1000000,fun x=>((show LI' from x.1).any (fun q:Int=>q==(show Int from x.2.1)),())⟩
theorem b4v:aY Tryz.prog 91 c4y:=by
 refine bH (nil0.ad b4J) ⟨[],[],[]⟩ Tryz.func91 rfl (by decide) (fun x=>[]) (fun x hp=>?_)
 obtain⟨x,v,u⟩:=x
 change List Int at x
 change Int at v
 refine bP ((List.length x<=1000000/\True)/\True/\(decide (CQ (fun(q:Int)=>q==v) x ≥ 0)=List.any x fun(q:Int)=>q==v)/\True) (by kernel_rfl) ?_
 have hZ:(⟨false,0,[],[]⟩:aF)=bV:=rfl
 dsimp only[aA,asT,aB,aC,Ty.den,Lf.den] at *
 simp only[hZ,Int.toNat_natCast,aJ,dh,bn,mg,mW,aH,nameAt,aX,aN,aZ,rowAt,iw,gJ]
 exact⟨hp,VD _ _⟩
def b8b (a:MQ) (j:Nat):LR:=(List.range (wdM a)).map fun c=>dS (SC (EY a (wdM a)).1 (lC a) j c)
def NC (a:MQ) (j c:Nat):LR:=(List.range (wdM a)).map fun d=>if d<c then dS (idm d j) else bV
def IZ (a:MQ) (j t:Nat):LR:=(List.range (wdM a)).map fun d=>dS (if d ∈ (lC a).take t then-(EY a (wdM a)).1 ((lC a).idxOf d) j else idm d j)
def uI (a:MQ) (j:Nat):MR:=(frees j (lC a)).map (b8b a)
theorem a9j (a:MQ) (j:Nat):NC a j 0=List.replicate (wdM a) bV:=by
 unfold NC;apply yw<;>simp
theorem b2l (a:MQ) (j c:Nat):(NC a j c).set c (dS (gUn () c j))=NC a j (c+1):=by
 unfold NC;rw[map_set]
 refine jf fun d _=>?_
 by_cases e:d=c
 ·rw[eY e,eY (by omega),e];rfl
 ·rw[dw e]
  by_cases e2:d<c
  ·rw[eY e2,eY (by omega)]
  ·rw[dw e2,dw (by omega)]
theorem b2k (a:MQ) (j:Nat):NC a j (wdM a)=IZ a j 0:=by
 unfold NC IZ
 refine jf fun d hd=>?_
 rw[eY (qN.mp hd)];simp
theorem b2n {a:MQ} {j t:Nat} (hd:(lC a).Nodup) (ht:t<(lC a).length):(IZ a j t).set (lC a)[t] (dS (- (EY a (wdM a)).1 t j))=IZ a j (t+1):=by
 unfold IZ;rw[map_set]
 refine jf fun d _=>?_
 by_cases e:d=(lC a)[t]
 ·rw[eY e,eY ((rG ht).mpr (.inr e)),e,vM hd ht]
 ·rw[dw e]
  by_cases e2:d ∈ (lC a).take t
  ·rw[eY e2,eY ((rG ht).mpr (.inl e2))]
  ·rw[dw e2,dw (fun h=>((rG ht).mp h).elim e2 e)]
theorem b2m (a:MQ) {j:Nat} (hj:j ∉ lC a):IZ a j (lC a).length=b8b a j:=by
 unfold IZ b8b
 refine jf fun d _=>?_
 rw[List.take_length]
 unfold SC
 by_cases e:d=j
 ·rw[dw (by rw[e];exact hj),eY e];show dS (if d=j then 1 else 0)=_;rw[eY e]
 ·rw[dw e]
  by_cases e2:d ∈ lC a
  ·rw[eY e2,eY e2]
  ·rw[dw e2,dw e2];show dS (if d=j then 1 else 0)=_;rw[dw e]
def c2s:Ctr:=⟨[tM],[tM,tI],fun x=>okE x.1,fun x=>(pI x.1,(0:Int),())⟩
theorem a9k:aY Tryz.prog 51 c2s:=by
 refine bH ((((nil0.ad GK).ad a6R).ad c3V).ad b4v) ⟨[],[],[]⟩ Tryz.func51 rfl (by decide) (fun x=>[.inv {j:Nat // j<=wdM (show MQ from x.1)} (fun j=>[(26,.val tI (j.1:Int)),(7,.own 71 0)]++[(8,.any),(9,.any),(10,.any),(11,.any),(12,.any),(27,.any),(28,.any),(29,.any),(30,.any),(31,.any),(32,.any),(33,.any),(34,.any),(35,.any),(36,.any),(37,.any),(38,.any),(39,.any),(40,.any),(41,.any),(42,.any),(43,.any),(44,.any),(45,.any),(46,.any),(47,.any),(48,.any),(49,.any),(50,.any),(51,.any),(52,.any),(53,.any),(54,.any),(55,.any),(56,.any),(57,.any),(58,.any),(59,.any),(60,.any),(61,.any),(62,.any),(63,.any),(64,.any),(65,.any),(66,.any),(67,.any),(68,.any),(69,.any),(70,.any),(71,.any),(72,.any)]) (fun j=>[(71,.row 32 (.list tR) (uI (show MQ from x.1) j.1) 0)]) (fun j=>wdM (show MQ from x.1)-j.1) ⟨0,by omega⟩ (fun j=>[
  .inv {c:Nat // c<=wdM (show MQ from x.1)} (fun c=>[(39,.val tI (c.1:Int))]) (fun c=>[(71,.row 32 (.list tR) (uI (show MQ from x.1) j.1) 0),(36,.row 64 tR (NC (show MQ from x.1) j.1 c.1) 0)]) (fun c=>wdM (show MQ from x.1)-c.1) ⟨0,by omega⟩ (fun _=>[]),
  .inv {t:Nat // t<=(lC (show MQ from x.1)).length} (fun t=>[(51,.val tI (t.1:Int))]) (fun t=>[(71,.row 32 (.list tR) (uI (show MQ from x.1) j.1) 0),(36,.row 64 tR (IZ (show MQ from x.1) j.1 t.1) 0)]) (fun t=>(lC (show MQ from x.1)).length-t.1) ⟨0,by omega⟩ (fun _=>[])])]) (fun x hp=>?_)
 obtain⟨a,u⟩:=x
 change List (List Rat) at a
 refine bP (let A₀:=(List.getD (zV a) 0 (aC Rat)).length;let A₁:=(zV a).length;let A₂:=(dA (lC a)).length;(okE a/\True)/\(asT Int 0<=0/\0<aA A₁/\True)/\(asT Int 0=0/\(True/\asT (List (List aF)) (aC (List aF))=aC (List aF))/\(asT (List (List aF)) (aC (List aF))=aC (List aF)/\0=0/\asT Bool true=true)/\True)/\∀ (i:{ j:Nat // j<=wdM a }),let aV:=(aA (aB i)).toNat;asT Bool true=true/\ifB (decide (aA (aB i)<aA A₀)) ((List.length (dA (lC a))<=1000000/\True)/\ifB (List.any (dA (lC a)) fun(q:Int)=>q==aA (aB i)) (∃ (i':{ j:Nat // j<=wdM a }),wdM a-aB i'<wdM a-aB i/\IntKind.wrap IntKind.i64 (aA (aB i)+1)=aA (aB i')/\uI a (aB i)=uI a (aB i')/\True) ((asT Int 0<=0/\0<aA A₁/\aA A₀=aA A₀/\0<=aA A₀/\aA A₀<=1000000000/\True)/\(asT Int 0=0/\uI a (aB i)=uI a (aB i)/\List.replicate (aA A₀).toNat bV=NC a (aB i) 0/\True)/\∀ (i_1:{ c:Nat // c<=wdM a }),let aP:=(NC a (aB i) (aB i_1));let dB:=(aA (aB i_1)).toNat;asT Bool true=true/\ifB (decide (aA (aB i_1)<aA (List.replicate (aA A₀).toNat bV).length)) ((a9n () (aA (aB i_1)) (aA (aB i))/\0<=aA (aB i_1)/\aA (aB i_1)<aA aP.length/\Int.toNat (aA (aB i_1))<List.length aP/\True)/\∃ (i':{ c:Nat // c<=wdM a }),wdM a-aB i'<wdM a-aB i_1/\IntKind.wrap IntKind.i64 (aA (aB i_1)+1)=aA (aB i')/\uI a (aB i)=uI a (aB i)/\List.set aP dB (dS (gUn () dB aV))=NC a (aB i) (aB i')/\True) ((asT Int 0=0/\uI a (aB i)=uI a (aB i)/\NC a (aB i) (aB i_1)=IZ a (aB i) 0/\True)/\∀ (i_2:{ t:Nat // t<=List.length (lC a) }),let dO:=(aA (aB i_2)).toNat;let eH:=(List.getD (zV a) dO (aC Rat));let dU:=(IZ a (aB i) (aB i_2));let dX:=(List.getD (dA (lC a)) dO 0);asT Bool true=true/\ifB (decide (aA (aB i_2)<aA A₂)) ((0<=aA (aB i_2)/\aA (aB i_2)<aA A₂/\True)/\(0<=aA (aB i_2)/\aA (aB i_2)<aA A₁/\0<=aA (aB i)/\aA (aB i)<aA eH.length/\s4 (List.getD eH aV 0)/\0<=List.getD (dA (lC a)) dO 0/\List.getD (dA (lC a)) dO 0<aA dU.length/\Int.toNat dX<List.length dU/\True)/\∃ (i':{ t:Nat // t<=List.length (lC a) }),List.length (lC a)-aB i'<List.length (lC a)-aB i_2/\IntKind.wrap IntKind.i64 (aA (aB i_2)+1)=aA (aB i')/\uI a (aB i)=uI a (aB i)/\List.set dU dX.toNat (dS (-List.getD eH aV 0))=IZ a (aB i) (aB i')/\True) ((List.length (uI a (aB i))+List.length (IZ a (aB i) (aB i_2)::aC (List aF))<=1000000000/\True)/\∃ (i':{ j:Nat // j<=wdM a }),wdM a-aB i'<wdM a-aB i/\IntKind.wrap IntKind.i64 (aA (aB i)+1)=aA (aB i')/\uI a (aB i)++IZ a (aB i) (aB i_2)::aC (List aF)=uI a (aB i')/\True)))) ((bY (fun(x:Ty.den (Ty.list (Ty.lf Lf.aU)))=>aW (bY (fun(x:Ty.den (Ty.lf Lf.aU))=>aW ((aF.ok x=true)::aC Prop)) x::aC Prop)) (uI a (aB i))/\True)/\List.map (fun(xs:Ty.den (Ty.list (Ty.lf Lf.aU)))=>List.map (fun(x:Ty.den (Ty.lf Lf.aU))=>aF.x x) xs) (uI a (aB i))=pI a/\True/\asT Int 0=0/\True)) (by kernel_rfl) ?_
 have hZ:(⟨false,0,[],[]⟩:aF)=bV:=rfl
 dsimp only[aA,asT,aB,aC,Ty.den,Lf.den] at *
 simp only[hZ,Int.toNat_natCast,aJ,dh,bn,mg,mW,aH,nameAt,aX,aN,aZ,rowAt,iw,gJ]
 have hE:okE a:=hp
 have ha:=hE.1
 have q1:=ha.r64
 have q2:=ha.c64
 have q3:=ha.pos
 have E:Ech a.length (ent a) (wdM a) (EY a (wdM a)).1 (lC a):=iL a.length (ent a) (wdM a)
 have hle:=E.le
 have l1:(zV a).length=a.length:=aZ
 have l2:∀ i,i<a.length->(List.getD (zV a) i []).length=wdM a:=fun i hi=>by unfold zV;rw[jI hi];simp
 have l3:∀ i,i<a.length->∀ c,c<wdM a->(List.getD (zV a) i []).getD c 0=(EY a (wdM a)).1 i c:=fun i hi c hc=>by unfold zV;rw[jI hi,gG hc]
 simp only[l1,l2 0 q3,qX]
 refine⟨hE,⟨qh 0,by omega⟩,fun j=>⟨fun h1=>⟨by omega,fun h2=>?_,fun h2=>⟨⟨qh 0,by omega,by omega,by omega⟩,?_,fun c=>⟨fun h3=>?_,fun h3=>⟨?_,fun t=>⟨fun h4=>?_,fun h4=>?_⟩⟩⟩⟩⟩,fun h1=>?_⟩⟩
 ·rw[VX] at h2
  have h2:=oz h2
  refine⟨⟨j.1+1,by omega⟩,by simp only;omega,by rw[bF (by omega) (by omega)];rfl,?_⟩
  show uI a j.1=uI a (j.1+1)
  unfold uI;rw[b0Y h2]
 ·exact(a9j a j.1).symm
 ·rw[uo] at h3
  have hc:c.1<wdM a:=by omega
  have l4:(NC a j.1 c.1).length=wdM a:=by simp[NC]
  rw[l4]
  exact⟨⟨⟨jv _,jv _⟩,by omega,by omega,hc⟩,⟨c.1+1,by omega⟩,by simp only;omega,by rw[bF (by omega) (by omega)];rfl,b2l a j.1 c.1⟩
 ·rw[uo] at h3
  have hc:c.1=wdM a:=by have:=c.2;omega
  rw[hc];exact b2k a j.1
 ·have ht:t.1<(lC a).length:=by omega
  have hm:=jm ht
  have hp:=E.lt _ hm
  have e1:(dA (lC a)).getD t.1 0=((lC a)[t.1]:Int):=by unfold dA;simp[ay,ht]
  have l4:(IZ a j.1 t.1).length=wdM a:=by simp[IZ]
  have hj:j.1<wdM a:=by omega
  rw[l2 t.1 (by omega),l3 t.1 (by omega) j.1 hj,e1,l4,Int.toNat_natCast]
  have z:=hE.2 (wdM a) (aj _) t.1 (by omega) j.1 hj
  refine⟨⟨by omega,by omega⟩,⟨by omega,by omega,by omega,by omega,by show rsz ((EY a (wdM a)).1 t.1 j.1)<=_;unfold EY;omega,by omega,by omega,hp⟩,⟨t.1+1,by omega⟩,by simp only;omega,by rw[bF (by omega) (by omega)];rfl,b2n E.nd ht⟩
 ·have ht:t.1=(lC a).length:=by have:=t.2;omega
  rw[VX] at h2
  have h2:=zy h2
  have hfl:(frees j.1 (lC a)).length<=j.1:=by unfold frees;have:=List.length_filter_le (fun c=>decide (c ∉ lC a)) (List.range j.1);simpa using this
  refine⟨by unfold uI;rw[ny];simp;omega,⟨j.1+1,by omega⟩,by simp only;omega,by rw[bF (by omega) (by omega)];rfl,?_⟩
  show uI a j.1++[IZ a j.1 t.1]=uI a (j.1+1)
  unfold uI
  rw[a8S h2,List.map_append,ht,b2m a h2];rfl
 ·have hj:j.1=wdM a:=by have:=j.2;omega
  rw[hj]
  refine⟨jJ.mpr fun r hr=>⟨jJ.mpr fun q hq=>?_,trivial⟩,?_⟩
  ·obtain⟨s,_,rfl⟩:=ni.mp hr
   obtain⟨c,_,rfl⟩:=AL hq
   exact⟨rfl,trivial⟩
  ·unfold uI pI
   rw[List.map_map]
   exact jf fun s _=>a3J _ _
def c2j:Ctr:=⟨[.ref tM],[tI],fun x=>0<(show MQ from x.1).length,fun x=>((wdM (show MQ from x.1):Int),())⟩
def c2k:Ctr:=⟨[.ref tM],[tI],fun x=>True,fun x=>(((show MQ from x.1).length:Int),())⟩
theorem a3A:aY Tryz.prog 106 c2j:=by
 refine bH nil0 ⟨[],[],[]⟩ Tryz.func106 rfl (by decide) (fun x=>[]) (fun x hp=>?_)
 obtain⟨a,u⟩:=x
 change List (List Rat) at a
 refine bP ((asT Int 0<=0/\0<aA a.length/\True)/\True/\aA (List.getD a 0 (aC Rat)).length=aA (wdM a)/\True) (by kernel_rfl) ?_
 have hZ:(⟨false,0,[],[]⟩:aF)=bV:=rfl
 dsimp only[aA,asT,aB,aC,Ty.den,Lf.den] at *
 simp only[hZ,Int.toNat_natCast,aJ,dh,bn,mg,mW,aH,nameAt,aX,aN,aZ,rowAt,iw,gJ]
 have hp:0<a.length:=hp
 exact⟨qh 0,by omega⟩
theorem a3C:aY Tryz.prog 102 c2k:=by
 refine bH nil0 ⟨[],[],[]⟩ Tryz.func102 rfl (by decide) (fun x=>[]) (fun x hp=>?_)
 obtain⟨a,u⟩:=x
 change List (List Rat) at a
 refine bP (True/\aA a.length=aA a.length/\True) (by kernel_rfl) ?_
 have hZ:(⟨false,0,[],[]⟩:aF)=bV:=rfl
 dsimp only[aA,asT,aB,aC,Ty.den,Lf.den] at *
 simp only[hZ,Int.toNat_natCast,aJ,dh,bn,mg,mW,aH,nameAt,aX,aN,aZ,rowAt,iw,gJ]
def c2l:Ctr:=⟨[tM,.list tQ,.clo 106 (.pair (.ref tM) .unit)],[tI],fun x=>okM x.1/\(∀ q ∈ (show LQ' from x.2.1),rsz q<=100000000)/\(show MQ from x.2.2.1.1)=(show MQ from x.1)/\(show LQ' from x.2.1).length=wdM (show MQ from x.1),fun x=>((0:Int),())⟩
def c2n:Ctr:=⟨[tM,.list tQ,.clo 102 (.pair (.ref tM) .unit)],[tI],fun x=>okM x.1/\(∀ q ∈ (show LQ' from x.2.1),rsz q<=100000000)/\(show MQ from x.2.2.1.1)=(show MQ from x.1)/\(show LQ' from x.2.1).length=(show MQ from x.1).length,fun x=>((0:Int),())⟩
theorem a3F:aY Tryz.prog 101 c2l:=by
 refine bH ((((nil0.ad nK).ad qB).ad nK).ad a3A) ⟨[],[],[]⟩ Tryz.func101 rfl (by decide) (fun x=>[]) (fun x hp=>?_)
 obtain⟨a,x,⟨b,v⟩,u⟩:=x
 change List (List Rat) at a
 change List Rat at x
 change List (List Rat) at b
 refine bP (let A₀:=(List.map (fun(xs:Ty.den (Ty.list (Ty.lf Lf.rat)))=>List.map (fun(x:Ty.den (Ty.lf Lf.rat))=>dS x) xs) a);let A₁:=(List.map (fun(x:Ty.den (Ty.lf Lf.rat))=>dS x) x);(bY (fun(x:Ty.den (Ty.list (Ty.lf Lf.rat)))=>aW (bY (fun(x:Ty.den (Ty.lf Lf.rat))=>aW (aC Prop)) x::aC Prop)) a/\iM A₀/\True)/\ifB (bW A₀ != 0) (True/\bW A₀=0/\True) ((bY (fun(x:Ty.den (Ty.lf Lf.rat))=>aW (aC Prop)) x/\(List.length A₁<=1000000/\∀ (q:aF),q ∈ List.map (fun(x:Ty.den (Ty.lf Lf.rat))=>dS x) x->uU q)/\True)/\ifB (!!List.any A₁ fun(q:aF)=>!aF.ok q) (True/\asT Int 1=0/\True) ((0<List.length b/\True)/\ifB (aA x.length != aA (wdM b)) (True/\asT Int 4=0/\True) (True/\asT Int 0=0/\True)))) (by kernel_rfl) ?_
 have hZ:(⟨false,0,[],[]⟩:aF)=bV:=rfl
 dsimp only[aA,asT,aB,aC,Ty.den,Lf.den] at *
 simp only[hZ,Int.toNat_natCast,aJ,dh,bn,mg,mW,aH,nameAt,aX,aN,aZ,rowAt,iw,gJ]
 have hp:okM a/\(∀ q ∈ x,rsz q<=100000000)/\b=a/\x.length=wdM a:=hp
 obtain⟨ha,sx,rfl,hx⟩:=hp
 have q1:=ha.r64
 have q2:=ha.c64
 have e1:=KJ ha.chk
 have e2:(List.map (fun x=>dS x) x).any (fun q=>!q.ok)=false:=vC.mpr fun q hq=>by
  obtain⟨y,_,rfl⟩:=ni.mp hq;simp[dS]
 refine⟨⟨uZ b,ha.short⟩,fun h=>absurd (h.symm.trans e1) (by decide),fun h=>⟨⟨a0P x,by rw[ny];omega,fun q hq=>?_⟩,fun h2=>?_,fun h2=>⟨ha.pos,fun h3=>by rw[hx] at h3;simp at h3,fun _=>trivial⟩⟩⟩
 ·obtain⟨y,hy,rfl⟩:=ni.mp hq
  have:=sx y hy
  have ⟨h3,h4⟩:=IE y
  exact⟨by omega,by omega⟩
 ·rw[e2] at h2;cases h2
theorem a3G:aY Tryz.prog 101 c2n:=by
 refine bH ((((nil0.ad nK).ad qB).ad nK).ad a3C) ⟨[],[],[]⟩ Tryz.func101 rfl (by decide) (fun x=>[]) (fun x hp=>?_)
 obtain⟨a,x,⟨b,v⟩,u⟩:=x
 change List (List Rat) at a
 change List Rat at x
 change List (List Rat) at b
 refine bP (let A₀:=(List.map (fun(xs:Ty.den (Ty.list (Ty.lf Lf.rat)))=>List.map (fun(x:Ty.den (Ty.lf Lf.rat))=>dS x) xs) a);let A₁:=(List.map (fun(x:Ty.den (Ty.lf Lf.rat))=>dS x) x);(bY (fun(x:Ty.den (Ty.list (Ty.lf Lf.rat)))=>aW (bY (fun(x:Ty.den (Ty.lf Lf.rat))=>aW (aC Prop)) x::aC Prop)) a/\iM A₀/\True)/\ifB (bW A₀ != 0) (True/\bW A₀=0/\True) ((bY (fun(x:Ty.den (Ty.lf Lf.rat))=>aW (aC Prop)) x/\(List.length A₁<=1000000/\∀ (q:aF),q ∈ List.map (fun(x:Ty.den (Ty.lf Lf.rat))=>dS x) x->uU q)/\True)/\ifB (!!List.any A₁ fun(q:aF)=>!aF.ok q) (True/\asT Int 1=0/\True) ((True/\True)/\ifB (aA x.length != aA b.length) (True/\asT Int 4=0/\True) (True/\asT Int 0=0/\True)))) (by kernel_rfl) ?_
 have hZ:(⟨false,0,[],[]⟩:aF)=bV:=rfl
 dsimp only[aA,asT,aB,aC,Ty.den,Lf.den] at *
 simp only[hZ,Int.toNat_natCast,aJ,dh,bn,mg,mW,aH,nameAt,aX,aN,aZ,rowAt,iw,gJ]
 have hp:okM a/\(∀ q ∈ x,rsz q<=100000000)/\b=a/\x.length=a.length:=hp
 obtain⟨ha,sx,rfl,hx⟩:=hp
 have q1:=ha.r64
 have q2:=ha.c64
 have e1:=KJ ha.chk
 have e2:(List.map (fun x=>dS x) x).any (fun q=>!q.ok)=false:=vC.mpr fun q hq=>by
  obtain⟨y,_,rfl⟩:=ni.mp hq;simp[dS]
 refine⟨⟨uZ b,ha.short⟩,fun h=>absurd (h.symm.trans e1) (by decide),fun h=>⟨⟨a0P x,by rw[ny];omega,fun q hq=>?_⟩,fun h2=>?_,fun h2=>⟨fun h3=>by rw[hx] at h3;simp at h3,fun _=>trivial⟩⟩⟩
 ·obtain⟨y,hy,rfl⟩:=ni.mp hq
  have:=sx y hy
  have ⟨h3,h4⟩:=IE y
  exact⟨by omega,by omega⟩
 ·rw[e2] at h2;cases h2
def c4n:Ctr:=⟨[tM,.list tQ],[.list tQ],fun x=>okM x.1/\szM x.1 1000000/\(show LQ' from x.2.1).length=wdM (show MQ from x.1)/\∀ q ∈ (show LQ' from x.2.1),rsz q<=1000000,fun x=>(mvL x.1 x.2.1,())⟩
theorem b3S:aY Tryz.prog 107 c4n:=by
 refine bH (nil0.ad a2R) ⟨[],[],[]⟩ Tryz.func107 rfl (by decide) (fun x=>[.inv {k:Nat // k<=(show MQ from x.1).length} (fun k=>[(10,.val tI (k.1:Int)),(5,.own 19 0)]++[(18,.any),(19,.any)]) (fun k=>[(19,.row 64 tQ ((List.range k.1).map (mv (wdM (show MQ from x.1)) (ent (show MQ from x.1)) (lv x.2.1))) 0)]) (fun k=>(show MQ from x.1).length-k.1) ⟨0,by omega⟩ (fun _=>[])]) (fun x hp=>?_)
 obtain⟨a,x,u⟩:=x
 change List (List Rat) at a
 change List Rat at x
 refine bP (let A₀:=(mv (wdM a) (ent a) (lv x));(asT Int 0=0/\(True/\asT (List Rat) (aC Rat)=aC Rat)/\(asT (List Rat) (aC Rat)=aC Rat/\0=0/\asT Bool true=true)/\True)/\∀ (i:{ k:Nat // k<=List.length a }),let A₁:=(List.getD a (aA (aB i)).toNat (aC Rat));asT Bool true=true/\ifB (decide (aA (aB i)<aA a.length)) ((0<=aA (aB i)/\aA (aB i)<aA a.length/\True)/\(a2S A₁ x/\List.length (List.map A₀ (List.range (aB i)))+List.length (JR A₁ x A₁.length::aC Rat)<=1000000000/\True)/\∃ (i':{ k:Nat // k<=List.length a }),List.length a-aB i'<List.length a-aB i/\IntKind.wrap IntKind.i64 (aA (aB i)+1)=aA (aB i')/\List.map A₀ (List.range (aB i))++JR A₁ x A₁.length::aC Rat=List.map A₀ (List.range (aB i'))/\True) (True/\List.map A₀ (List.range (aB i))=mvL a x/\True)) (by kernel_rfl) ?_
 have hZ:(⟨false,0,[],[]⟩:aF)=bV:=rfl
 dsimp only[aA,asT,aB,aC,Ty.den,Lf.den] at *
 simp only[hZ,Int.toNat_natCast,aJ,dh,bn,mg,mW,aH,nameAt,aX,aN,aZ,rowAt,iw,gJ]
 have hp:okM a/\szM a 1000000/\x.length=wdM a/\∀ q ∈ x,rsz q<=1000000:=hp
 obtain⟨ha,sa,hx,sx⟩:=hp
 have q1:=ha.r64
 have q2:=ha.c64
 refine fun i=>⟨fun h1=>?_,fun h1=>?_⟩
 ·have hi:i.1<a.length:=by omega
  have hr:=ha.row hi
  refine⟨⟨by omega,h1⟩,⟨⟨by rw[hr,hx],by rw[hr];exact q2,fun c hc=>⟨sa i.1 hi c (by omega),fA sx (by omega)⟩⟩,by simp;omega⟩,⟨i.1+1,by omega⟩,by simp only;omega,by rw[bF (by omega) (by omega)];rfl,?_⟩
  rw[Ae,List.map_append,hr];rfl
 ·have hi:i.1=a.length:=by have:=i.2;omega
  rw[hi];rfl
def c1O:Ctr:=⟨[tM,.list tQ],[.list tQ,tI],fun x=>okM x.1/\szM x.1 1000000/\(show LQ' from x.2.1).length=wdM (show MQ from x.1)/\∀ q ∈ (show LQ' from x.2.1),rsz q<=1000000,fun x=>(mvL x.1 x.2.1,(0:Int),())⟩
theorem a2D:aY Tryz.prog 62 c1O:=by
 refine bH ((((nil0.ad a3A).ad a3F).ad a3G).ad b3S) ⟨[],[],[]⟩ Tryz.func62 rfl (by decide) (fun x=>[]) (fun x hp=>?_)
 obtain⟨a,x,u⟩:=x
 change List (List Rat) at a
 change List Rat at x
 refine bP (((okM a/\(∀ (q:Rat),q ∈ x->rsz q<=100000000)/\a=a/\List.length x=wdM a)/\True)/\((okM a/\szM a 1000000/\List.length x=wdM a/\∀ (q:Rat),q ∈ x->rsz q<=1000000)/\True)/\True/\mvL a x=mvL a x/\True/\asT Int 0=0/\True) (by kernel_rfl) ?_
 have hZ:(⟨false,0,[],[]⟩:aF)=bV:=rfl
 dsimp only[aA,asT,aB,aC,Ty.den,Lf.den] at *
 simp only[hZ,Int.toNat_natCast,aJ,dh,bn,mg,mW,aH,nameAt,aX,aN,aZ,rowAt,iw,gJ]
 have hp:okM a/\szM a 1000000/\x.length=wdM a/\∀ q ∈ x,rsz q<=1000000:=hp
 obtain⟨ha,sa,hx,sx⟩:=hp
 exact⟨⟨ha,fun q hq=>jc (sx q hq) (by omega),hx⟩,ha,sa,hx,sx⟩
def uS (a:MQ):MQ × Int × Unit:=if kR a=true then (oN a,0,()) else ([],14,())
def c4B:Ctr:=⟨[tM],[tM,tI],fun x=>okM x.1/\wdM (show MQ from x.1)=(show MQ from x.1).length/\AQ (show MQ from x.1).length ((show MQ from x.1).length+(show MQ from x.1).length) (gV (show MQ from x.1).length (ent x.1) idm) (show MQ from x.1).length,fun x=>uS x.1⟩
theorem a7g:aY Tryz.prog 68 c4B:=by
 refine bH ((((((((((((((nil0.an kF).an kH).an kG).ad a6f).ad GK).ad ZH).an b2I).an yV).an yQ).an yU).an yR).an yT).an yS).an b6e) ⟨[5,6],[6],[]⟩ Tryz.func68 rfl (by decide) (fun x=>[]) (fun x hp=>?_)
 obtain⟨a,u⟩:=x
 change List (List Rat) at a
 refine bP (let A₂:=(aA a.length).toNat;let aP:=(Ty.list (Ty.lf Lf.aU));let dO:=(rowsOf none (bK A₂ A₂ (gUn ())));let A₁:=(List.map (fun(xs:Ty.den aP)=>List.map (fun(x:Ty.den (Ty.lf Lf.aU))=>aF.x x) xs) dO);let A₀:=(bK a.length (wdM a+wdM A₁) (gV (wdM a) (ent a) (ent A₁)));let dB:=(bK A₀.length (wdM A₀) (rdm A₀ A₂));let aV:=(bK A₂ A₂ (gIn (rowsOf none dB,aA a.length,())));(okM a/\True)/\ifB (sqC a != 0) (True/\aC (List Rat)=Prod.fst (uS a)/\True/\sqC a=Prod.fst (uS a).2/\True) ((ET TUn a9n (aA a.length,aA a.length,(),())/\bY (fun(x:Ty.den aP)=>aW (bY (fun(x:Ty.den (Ty.lf Lf.aU))=>aW ((aF.ok x=true)::aC Prop)) x::aC Prop)) dO/\(okM a/\okM A₁/\List.length a=List.length A₁)/\True)/\(a5R A₀ (aA a.length)/\True)/\ifB (decide (aA (dA (rdp A₀ A₂)).length<aA a.length)) (True/\aC (List Rat)=Prod.fst (uS a)/\True/\14=Prod.fst (uS a).2/\True) ((ET TIn b5i (aA a.length,aA a.length,(rowsOf none dB,aA a.length,()),())/\True)/\(bY (fun(x:Ty.den aP)=>aW (bY (fun(x:Ty.den (Ty.lf Lf.aU))=>aW ((aF.ok x=true)::aC Prop)) x::aC Prop)) aV/\True)/\List.map (fun(xs:Ty.den aP)=>List.map (fun(x:Ty.den (Ty.lf Lf.aU))=>aF.x x) xs) aV=Prod.fst (uS a)/\True/\0=Prod.fst (uS a).2/\True))) (by kernel_rfl) ?_
 have hZ:(⟨false,0,[],[]⟩:aF)=bV:=rfl
 dsimp only[aA,asT,aB,aC,Ty.den,Lf.den] at *
 simp only[hZ,Int.toNat_natCast,aJ,dh,bn,mg,mW,aH,nameAt,aX,aN,aZ,rowAt,iw,gJ]
 have hp:okM a/\wdM a=a.length/\AQ a.length (a.length+a.length) (gV a.length (ent a) idm) a.length:=hp
 obtain⟨ha,hw,hok⟩:=hp
 have q1:=ha.r64
 have q3:=ha.pos
 have eI:List.map (fun xs=>List.map (fun x=>aF.x x) xs) (rowsOf none (bK a.length a.length (gUn ())))=idM a.length:=BM _ _ _
 have hI:isM (idM a.length) a.length a.length:=KE q3 q1
 have hIk:okM (idM a.length):=(a4K q3).ok hI (by omega)
 have eB:bK a.length (a.length+a.length) (gV a.length (ent a) (ent (idM a.length)))=bK a.length (a.length+a.length) (gV a.length (ent a) idm):=mF fun i hi j hj=>by
  unfold gV;split
  ·rfl
  ·exact kN hi (by omega)
 have hB:wdM (bK a.length (a.length+a.length) (gV a.length (ent a) idm))=a.length+a.length:=by
  show ((bK a.length (a.length+a.length) (gV a.length (ent a) idm)).getD 0 []).length=_
  rw[jT q3];simp
 have hX:=b2H (R:=a.length) (C:=a.length+a.length) (n:=a.length) (f:=gV a.length (ent a) idm) (by omega)
 have hP:=XA (R:=a.length) (C:=a.length+a.length) (n:=a.length) (f:=gV a.length (ent a) idm) q3 (by omega) (by omega) (by omega) (by omega) hok
 have hsq:sqC a=0:=eY hw.symm
 simp only[eI,hI.wd,hw,eB,hB,hI.len,hsq]
 have hp2:(rdp (bK a.length (a.length+a.length) (gV a.length (ent a) idm)) a.length)=(MI a).2:=by
  show (red (bK _ _ _).length _ _).2=_
  rw[aN];exact hX.1
 have hm2:∀ i,i<a.length->∀ c,c<a.length+a.length->rdm (bK a.length (a.length+a.length) (gV a.length (ent a) idm)) a.length i c=(MI a).1 i c:=fun i hi c hc=>by
  show (red (bK _ _ _).length _ _).1 i c=_
  rw[aN];exact hX.2 i hi c hc
 rw[hp2]
 refine⟨ha,fun h=>(by cases h),fun _=>⟨⟨⟨a.length,a.length,rfl,rfl,by omega,by omega,fun i j _ _=>⟨jv i,jv j⟩⟩,vG _ _ _,ha,hIk,trivial⟩,hP,fun h=>?_,fun h=>?_⟩⟩
 ·have h:=oz h
  rw[qX] at h
  have hr:kR a=false:=jq (by omega)
  have e:uS a=([],14,()):=by unfold uS;rw[hr];rfl
  rw[e];exact⟨rfl,rfl⟩
 ·have h:=zy h
  rw[qX] at h
  have hle:(MI a).2.length<=a.length:=(iL a.length (gV a.length (ent a) idm) a.length).le
  have hr:kR a=true:=jw (by omega)
  have e:uS a=(oN a,0,()):=by unfold uS;rw[hr];rfl
  rw[e]
  have hrow:∀ i,i<a.length->(rowsOf none (bK a.length (a.length+a.length) (rdm (bK a.length (a.length+a.length) (gV a.length (ent a) idm)) a.length))).getD i []=(List.range (a.length+a.length)).map (fun c=>dS (rdm (bK a.length (a.length+a.length) (gV a.length (ent a) idm)) a.length i c)):=fun i hi=>jT hi
  refine⟨⟨a.length,a.length,rfl,rfl,by omega,by omega,fun i j hi hj=>?_⟩,vG _ _ _,(BM _ _ _).trans (fE fun i hi j hj=>?_),rfl⟩
  ·have hi:i<a.length:=hi
   have hj:j<a.length:=hj
   refine⟨jv i,by show i<(bK _ _ _).length;rw[aN];exact hi,jv j,by omega,jv _,by show (a.length:Int)<=1000;omega,?_,?_⟩
   ·show a.length+j<((rowsOf none (bK a.length (a.length+a.length) (rdm (bK a.length (a.length+a.length) (gV a.length (ent a) idm)) a.length))).getD i []).length
    rw[hrow i hi];simp;omega
   ·show (((rowsOf none (bK a.length (a.length+a.length) (rdm (bK a.length (a.length+a.length) (gV a.length (ent a) idm)) a.length))).getD i []).getD (a.length+j) bV).ok=true
    rw[hrow i hi,gG (by omega)];rfl
  ·show IV (bK a.length (a.length+a.length) (rdm (bK a.length (a.length+a.length) (gV a.length (ent a) idm)) a.length)) i (a.length+j)=(MI a).1 i (a.length+j)
   rw[UY hi (by omega)]
   exact hm2 i hi _ (by omega)
theorem kJ {n:Nat} {a a' b b':Mt} {i j:Nat} (h1:∀ k,k<n->a i k=a' i k) (h2:∀ k,k<n->b k j=b' k j):mm n a b i j=mm n a' b' i j:=fG n fun k hk=>by rw[h1 k hk,h2 k hk]
theorem Gau.congr {N f:Nat} {n g n' g':Mt} (H:Gau N f n g) (h1:∀ i,i<N->∀ j,j<N->n' i j=n i j) (h2:∀ i,i<N->∀ j,j<f->g' i j=g i j):Gau N f n' g' :=
 ⟨fun i hi j hj=>by rw[h1 i hi j hj,h1 j hj i hi];exact H.sym i hi j hj,fun i hi j hj=>by rw[<-H.ng i hi j hj];exact kJ (fun k hk=>h1 i hi k hk) (fun k hk=>h2 k hk j hj),
  by rw[(zC (C:=f) h2 f (aj _)).1];exact H.rank,by rw[(zC (C:=N) h1 N (aj _)).1];exact H.dim⟩
theorem oL.congr {n:Nat} {a x a' x':Mt} (H:oL n a x) (h1:∀ i,i<n->∀ j,j<n->a' i j=a i j) (h2:∀ i,i<n->∀ j,j<n->x' i j=x i j):oL n a' x' :=
 ⟨fun i hi j hj=>by rw[<-H.r i hi j hj];exact kJ (fun k hk=>h1 i hi k hk) (fun k hk=>h2 k hk j hj),fun i hi j hj=>by rw[<-H.l i hi j hj];exact kJ (fun k hk=>h2 i hi k hk) (fun k hk=>h1 k hk j hj)⟩
theorem isM.MP {a b:MQ} {R n C:Nat} (h:isM a R n) (g:isM b n C) {i j:Nat} (hi:i<R) (hj:j<C):ent (mulM a b) i j=mm n (ent a) (ent b) i j:=by
 unfold mulM;rw[h.len,g.wd,g.len];exact kN hi hj
theorem isM.KR {a:MQ} {R C:Nat} (h:isM a R C) {i j:Nat} (hi:i<C) (hj:j<R):ent (trM a) i j=ent a j i:=by
 unfold trM;rw[h.len,h.wd];exact kN hi hj
theorem isM.c1I {a b:MQ} {R C:Nat} (h:isM a R C) {i j:Nat} (hi:i<R) (hj:j<C):ent (RY a b) i j=ent a i j+ent b i j:=by
 unfold RY;rw[h.len,h.wd];exact kN hi hj
theorem isM.c5w {a b:MQ} {R C:Nat} (h:isM a R C) {i j:Nat} (hi:i<R) (hj:j<C):ent (YU a b) i j=ent a i j-ent b i j:=by
 unfold YU;rw[h.len,h.wd];exact kN hi hj
theorem isM.rk {a:MQ} {R C:Nat} (h:isM a R C):rkM a=(red R (ent a) C).2.length:=by unfold rkM EY;rw[h.len,h.wd]
theorem a0I {a:MQ} {R C:Nat} (h:isM a R C):wS a=true↔∀ i,i<R->∀ j,j<C->ent a i j=0:=by unfold wS;rw[h.len,h.wd,dh]
theorem a4v {a:MQ} {R C:Nat} (h:isM a R C):mD a=true↔∀ i,i<R->∀ j,j<R->ent a i j=ent a j i:=by unfold mD;rw[h.len,dh]
theorem VH {n g:MQ} {N c:Nat} (hn:isM n N N) (hg:isM g N c):lY n g=true↔Gau N c (ent n) (ent g):=by
 unfold lY
 rw[ak,ak,ak,dh,dh,a4v hn,a0I (hn.mul hg),hg.rk,hn.rk,hg.wd,hn.len]
 constructor
 ·rintro⟨⟨⟨h1,h2⟩,h3⟩,h4⟩
  exact⟨h1,fun i hi j hj=>by rw[<-hn.MP hg hi hj];exact h2 i hi j hj,h3,by rw[h3] at h4;exact h4⟩
 ·rintro⟨h1,h2,h3,h4⟩
  exact⟨⟨⟨h1,fun i hi j hj=>by rw[hn.MP hg hi hj];exact h2 i hi j hj⟩,h3⟩,by rw[h3];exact h4⟩
theorem a5u {α:Type} (l:List Nat) (g:Nat->α):l.map g=(List.range l.length).map (fun s=>g (l.getD s 0)):=by
 apply yw
 ·simp
 ·intro i h1 h2
  have h1:i<l.length:=by simpa using h1
  simp[ay,h1]
theorem a0h {n:MQ} {N:Nat} (hn:isM n N N):pI n=tab (frees N (red N (ent n) N).2).length N (tr (b6B N (ent n))):=by
 unfold pI EY;rw[hn.len,hn.wd,a5u];rfl
theorem b0Z {n:Nat} {p:List Nat} (hd:p.Nodup) (hl:∀ j ∈ p,j<n):(frees n p).length<=n:=by have:=GN hd hl;omega
def bgM (g b:MQ):MQ:=mulM (trM b) g
def sM (g b:MQ):MQ:=YU (idM g.length) (mulM g (mulM (oN (bgM g b)) (trM b)))
theorem a0X {g b:MQ} {N c:Nat} (hg:isM g N c) (hb:isM b N c):isM (bgM g b) c c:=hb.trp.mul hg
theorem c1M {g b:MQ} {N c:Nat} (hg:isM g N c) (hb:isM b N c) {i j:Nat} (hi:i<c) (hj:j<c):ent (bgM g b) i j=bg N (ent b) (ent g) i j:=by
 unfold bgM bg;rw[hb.trp.MP hg hi hj];exact kJ (fun k hk=>hb.KR hi hk) (fun _ _=>rfl)
theorem a4b {a:MQ} {n:Nat} (h:isM a n n):kR a=true↔∀ x,(∀ i,i<n->mv n (ent a) x i=0)->∀ c,c<n->x c=0:=by
 unfold kR MI;rw[h.len,dh];exact a1B idm
theorem a3v {a:MQ} {n:Nat} (h:isM a n n) (hr:kR a=true):oL n (ent a) (ent (oN a)):=by
 unfold kR MI at hr;rw[h.len,dh] at hr
 refine(inv_of hr).congr (fun _ _ _ _=>rfl) fun i hi j hj=>?_
 unfold oN MI;rw[h.len];exact kN hi hj
theorem a4U {g b:MQ} {N c:Nat} (hg:isM g N c) (hb:isM b N c) (hr:kR (bgM g b)=true):oL c (bg N (ent b) (ent g)) (ent (oN (bgM g b))) :=
 (a3v (a0X hg hb) hr).congr (fun i hi j hj=>(c1M hg hb hi hj).symm) (fun _ _ _ _=>rfl)
theorem QB {g b:MQ} {N c:Nat} (hg:isM g N c):isM (sM g b) N N:=by
 unfold sM;rw[hg.len];exact(KE hg.2.2.1 hg.2.2.2.1).sub
theorem b5E {g b:MQ} {N c:Nat} (hg:isM g N c) (hb:isM b N c) {i j:Nat} (hi:i<N) (hj:j<N):ent (sM g b) i j=uT c (ent g) (ent b) (ent (oN (bgM g b))) i j:=by
 have hw:=(a0X hg hb).inv
 unfold sM;rw[hg.len,(KE hg.2.2.1 hg.2.2.2.1).c5w hi hj,hg.MP (hw.mul hb.trp) hi hj]
 show ent (idM N) i j-_=idm i j-_
 rw[show ent (idM N) i j=idm i j from kN hi hj]
 congr 1
 refine kJ (fun _ _=>rfl) fun k hk=>?_
 rw[hw.MP hb.trp hk hj]
 exact kJ (fun _ _=>rfl) fun l hl=>hb.KR hl hj
theorem XO {a:MQ} {R C:Nat} (h:isM a R C) (x:List Rat):(uV a x).length=C:=by unfold uV;rw[h.wd];simp
end Go.Proofs.YtgplhbhfdgempaaGreat
