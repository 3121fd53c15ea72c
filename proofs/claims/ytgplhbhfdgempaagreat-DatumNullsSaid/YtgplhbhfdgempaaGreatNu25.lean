/-
  Lemmas for the theorem vnulls_holds, part 25 of 36.
-/
import Derived.Test.YtgplhbhfdgempaaGreatNu22
import Derived.Test.YtgplhbhfdgempaaGreatNu23
import Derived.Test.YtgplhbhfdgempaaGreatNu24
namespace Go.Proofs.YtgplhbhfdgempaaGreat
open Go Go.RowKit
set_option maxRecDepth 100000
set_option maxHeartbeats 1000000
set_option linter.unusedVariables false
set_option linter.unusedSimpArgs false
theorem b2P {a b:MQ} (ha:okM a) (hb:okM b):fA [liftM a,liftM b]=0:=a4l fun m hm=>by
 rcases List.mem_cons.mp hm with rfl|hm
 ·exact ha.chk
 ·rw[List.mem_singleton.mp hm];exact hb.chk
theorem a6X {a b:MQ} (ha:okM a) (hb:okM b):∀ m ∈ [liftM a,liftM b],iF m:=fun m hm=>by
 rcases List.mem_cons.mp hm with rfl|hm
 ·exact ha.short
 ·rw[List.mem_singleton.mp hm];exact hb.short
theorem a9C {R C n:Nat} {f:Mt} (hn:n<=C):(red R (CX (aS R C f)) n).2=(red R f n).2/\∀ i,i<R->∀ c,c<C->(red R (CX (aS R C f)) n).1 i c=(red R f n).1 i c:=IQ (fun i hi c hc=>QG hi hc) n hn
theorem SN {R C n:Nat} {f:Mt} (r1:1<=R) (r2:R<=1000) (c1:1<=C) (c2:C<=1000) (hn:n<=C) (H:DI R C f n):a3B (aS R C f) (n:Int):=by
 have hw:wdM (aS R C f)=C:=by show ((aS R C f).getD 0 []).length=C;rw[jA (by omega)];simp
 unfold a3B
 rw[aU,hw]
 refine⟨kP fun i hi j hj=>(QG hi hj).symm,r1,r2,c1,c2,by omega,by omega,fun t ht i hi c hc=>?_⟩
 rw[(a9C (by have:t<=n:=ht;omega)).2 i hi c hc]
 exact H t ht i hi c hc
def b3H:Ctr:=⟨[tI],[tM,tI],fun x=>1<=(show Int from x.1)/\(show Int from x.1)<=64,fun x=>(idM (show Int from x.1).toNat,(0:Int),())⟩
theorem a6d:aT Tryz.prog 99 b3H:=by
 refine bT ((((((((((nil0.an jJ).an jL).an jK).ad BO).an wG).an vZ).an wF).an wB).an wE).an wC) ⟨[],[],[]⟩ Tryz.func99 rfl (by decide) (fun x=>[]) (fun x hp=>?_)
 obtain⟨n,u⟩:=x
 change Int at n
 refine bZ ((((decide (n<1)==false)=true->(decide (n<1)==false)=true/\True)/\(decide (n<1)=false->(decide (n<1)==false)=true)/\True)/\ifB (bif decide (n<1) then true else decide (n > 64)) (True/\aC (List Rat)=idM (Int.toNat n)/\True/\asT Int 2=0/\True) ((zX TUn a6u (n,n,(),())/\True)/\(dO (fun(x:Ty.den (Ty.list (Ty.lf Lf.dD)))=>aV (dO (fun(x:Ty.den (Ty.lf Lf.dD))=>aV ((aF.ok x=true)::aC Prop)) x::aC Prop)) (aS (Int.toNat n) (Int.toNat n) (gUn ()))/\True)/\List.map (fun(xs:Ty.den (Ty.list (Ty.lf Lf.dD)))=>List.map (fun(x:Ty.den (Ty.lf Lf.dD))=>aF.x x) xs) (aS (Int.toNat n) (Int.toNat n) (gUn ()))=idM (Int.toNat n)/\True/\asT Int 0=0/\True)) (by kernel_rfl) ?_
 have h:1<=n/\n<=64:=hp
 have e:n=(n.toNat:Int):=by omega
 exact⟨⟨fun h=>⟨h,trivial⟩,fun h=>by rw[h];rfl,trivial⟩,ifF (by rw[decide_eq_false (by omega),decide_eq_false (by omega)];rfl) ⟨⟨⟨n.toNat,n.toNat,e,e,by omega,by omega,fun i j _ _=>⟨Int.natCast_nonneg _,Int.natCast_nonneg _⟩⟩,trivial⟩,⟨rU _ _ _,trivial⟩,xY _ _ _,trivial,rfl,trivial⟩⟩
def b8p:Ctr:=⟨[tM,tM],[tI],fun x=>okM x.1/\okM x.2.1/\(show MQ from x.1).length=(show MQ from x.2.1).length/\wdM (show MQ from x.1)=wdM (show MQ from x.2.1),fun x=>((0:Int),())⟩
theorem a0t:aT Tryz.prog 113 b8p:=by
 refine bT (nil0.ad MP) ⟨[],[],[]⟩ Tryz.func113 rfl (by decide) (fun x=>[]) (fun x hp=>?_)
 obtain⟨a,b,u⟩:=x
 change List (List Rat) at a
 change List (List Rat) at b
 refine bZ (let A₁:=(Ty.list (Ty.lf Lf.rat));let A₀:=(List.map (fun(xs:Ty.den (Ty.list A₁))=>List.map (fun(xs:Ty.den A₁)=>List.map (fun(x:Ty.den (Ty.lf Lf.rat))=>dR x) xs) xs) (a::b::aC (List (List Rat))));(((dO (fun(x:Ty.den A₁)=>aV (dO (fun(x:Ty.den (Ty.lf Lf.rat))=>aV (aC Prop)) x::aC Prop)) a/\True)/\(dO (fun(x:Ty.den A₁)=>aV (dO (fun(x:Ty.den (Ty.lf Lf.rat))=>aV (aC Prop)) x::aC Prop)) b/\True)/\True)/\(List.length A₀<=1000000/\∀ (a_1:List (List aF)),a_1 ∈ List.map (fun(xs:Ty.den (Ty.list A₁))=>List.map (fun(xs:Ty.den A₁)=>List.map (fun(x:Ty.den (Ty.lf Lf.rat))=>dR x) xs) xs) (a::b::aC (List (List Rat)))->iF a_1)/\True)/\ifB (fA A₀ != 0) (True/\fA A₀=0/\True) (((((aA (List.length a) != aA (List.length b))==false)=true->((aA (List.length a) != aA (List.length b))==false)=true/\asT Int 0<=0/\0<aA (List.length a)/\True)/\(((aA (List.length a) != aA (List.length b))==false)=true->((aA (List.length a) != aA (List.length b))==false)=true/\True)/\(((aA (List.length a) != aA (List.length b))==false)=true->((aA (List.length a) != aA (List.length b))==false)=true/\True)/\(((aA (List.length a) != aA (List.length b))==false)=true->((aA (List.length a) != aA (List.length b))==false)=true/\asT Int 0<=0/\0<aA (List.length b)/\True)/\(((aA (List.length a) != aA (List.length b))==false)=true->((aA (List.length a) != aA (List.length b))==false)=true/\True)/\(((aA (List.length a) != aA (List.length b))==false)=true->((aA (List.length a) != aA (List.length b))==false)=true/\True)/\(((aA (List.length a) != aA (List.length b))==false)=true->((aA (List.length a) != aA (List.length b))==false)=true/\((aA (List.length a) != aA (List.length b))==false)=true/\True)/\((aA (List.length a) != aA (List.length b))=false->((aA (List.length a) != aA (List.length b))==false)=true)/\True)/\ifB (bif aA (List.length a) != aA (List.length b) then true else aA (List.length (List.getD a 0 (aC Rat))) != aA (List.length (List.getD b 0 (aC Rat)))) (True/\asT Int 4=0/\True) (True/\asT Int 0=0/\True))) (by kernel_rfl) ?_
 have hp:okM a/\okM b/\a.length=b.length/\wdM a=wdM b:=hp
 obtain⟨ha,hb,hl,hw⟩:=hp
 have e:((a.length:Int) != (b.length:Int))=false:=by rw[hl];simp
 refine⟨⟨⟨⟨rM a,trivial⟩,⟨rM b,trivial⟩,trivial⟩,⟨by show 2<=1000000;omega,a6X ha hb⟩,trivial⟩,ifF (ES (b2P ha hb)) ⟨?_,ifF ?_ ⟨trivial,rfl,trivial⟩⟩⟩
 ·dsimp only[aA,asT]
  rw[e]
  exact⟨fun _=>⟨rfl,Int.le_refl 0,ha.poz,trivial⟩,fun h=>⟨h,trivial⟩,fun h=>⟨h,trivial⟩,fun _=>⟨rfl,Int.le_refl 0,hb.poz,trivial⟩,fun h=>⟨h,trivial⟩,fun h=>⟨h,trivial⟩,fun h=>⟨h,h,trivial⟩,fun _=>rfl,trivial⟩
 ·dsimp only[aA]
  rw[e]
  show ((wdM a:Int) != (wdM b:Int))=false
  rw[hw];simp
def b8m:Ctr:=⟨[tM,tM],[tM,tI],fun x=>okM x.1/\okM x.2.1/\(show MQ from x.1).length=(show MQ from x.2.1).length/\wdM (show MQ from x.1)=wdM (show MQ from x.2.1),fun x=>(NK x.1 x.2.1,(0:Int),())⟩
def b8S:Ctr:=⟨[tM,tM],[tM,tI],fun x=>okM x.1/\okM x.2.1/\(show MQ from x.1).length=(show MQ from x.2.1).length/\wdM (show MQ from x.1)=wdM (show MQ from x.2.1),fun x=>(a2f x.1 x.2.1,(0:Int),())⟩
def c1j:yT:=.mk LKm [tM,tM] (fun x=>okM x.1/\okM x.2.1/\(show MQ from x.1).length=(show MQ from x.2.1).length) (fun x=>aS (show MQ from x.1).length (wdM (show MQ from x.1)+wdM (show MQ from x.2.1)) (jV (wdM (show MQ from x.1)) (ent x.1) (ent x.2.1)))
def ED (x:LQ'):MQ:=tab x.length 1 fun i _=>lv x i
def c0x:Ctr:=⟨[.list tQ],[tM],fun x=>1<=(show LQ' from x.1).length/\(show LQ' from x.1).length<=64,fun x=>(ED x.1,())⟩
theorem a7l:aT Tryz.prog 67 b8m:=by
 refine bT (((((((((((nil0.an jJ).an jL).an jK).ad VD).an wG).an vZ).an wF).an wB).an wE).an wC).ad a0t) ⟨[],[],[]⟩ Tryz.func67 rfl (by decide) (fun x=>[]) (fun x hp=>?_)
 obtain⟨a,b,u⟩:=x
 change List (List Rat) at a
 change List (List Rat) at b
 refine bZ (((okM a/\okM b/\List.length a=List.length b/\wdM a=wdM b)/\True)/\(asT Int 0<=0/\0<aA (List.length a)/\zX TAd b1W (aA (List.length a),aA (List.length (List.getD a 0 (aC Rat))),(a,b,()),())/\True)/\(dO (fun(x:Ty.den (Ty.list (Ty.lf Lf.dD)))=>aV (dO (fun(x:Ty.den (Ty.lf Lf.dD))=>aV ((aF.ok x=true)::aC Prop)) x::aC Prop)) (aS (Int.toNat (aA (List.length a))) (Int.toNat (aA (List.length (List.getD a 0 (aC Rat))))) (gAd (a,b,())))/\True)/\List.map (fun(xs:Ty.den (Ty.list (Ty.lf Lf.dD)))=>List.map (fun(x:Ty.den (Ty.lf Lf.dD))=>aF.x x) xs) (aS (Int.toNat (aA (List.length a))) (Int.toNat (aA (List.length (List.getD a 0 (aC Rat))))) (gAd (a,b,())))=NK a b/\True/\asT Int 0=0/\True) (by kernel_rfl) ?_
 have hp':okM a/\okM b/\a.length=b.length/\wdM a=wdM b:=hp
 obtain⟨ha,hb,hl,hw⟩:=hp'
 refine⟨⟨hp,trivial⟩,⟨Int.le_refl 0,ha.poz,⟨a.length,wdM a,rfl,rfl,by have:=ha.r64;omega,by have:=ha.c64;omega,fun i j hi hj=>?_⟩,trivial⟩,⟨rU _ _ _,trivial⟩,xY _ _ _,trivial,rfl,trivial⟩
 have hj:j<wdM a:=hj
 have hi:i<a.length:=hi
 have h1:=ha.2 i hi j hj
 have h2:=hb.2 i (by omega) j (by omega)
 exact⟨⟨Int.natCast_nonneg i,hi,by show i<b.length;omega,Int.natCast_nonneg j,by show j<(a.getD i []).length;rw[ha.row hi];exact hj,by show j<(b.getD i []).length;rw[hb.row (by omega)];omega⟩,by show rsz (ent a i j)<=_;omega,by show rsz (ent b i j)<=_;omega⟩
theorem b0u:aT Tryz.prog 100 b8S:=by
 refine bT (((((((((((nil0.an jJ).an jL).an jK).ad VJ).an wG).an vZ).an wF).an wB).an wE).an wC).ad a0t) ⟨[],[],[]⟩ Tryz.func100 rfl (by decide) (fun x=>[]) (fun x hp=>?_)
 obtain⟨a,b,u⟩:=x
 change List (List Rat) at a
 change List (List Rat) at b
 refine bZ (((okM a/\okM b/\List.length a=List.length b/\wdM a=wdM b)/\True)/\(asT Int 0<=0/\0<aA (List.length a)/\zX TSb b2d (aA (List.length a),aA (List.length (List.getD a 0 (aC Rat))),(a,b,()),())/\True)/\(dO (fun(x:Ty.den (Ty.list (Ty.lf Lf.dD)))=>aV (dO (fun(x:Ty.den (Ty.lf Lf.dD))=>aV ((aF.ok x=true)::aC Prop)) x::aC Prop)) (aS (Int.toNat (aA (List.length a))) (Int.toNat (aA (List.length (List.getD a 0 (aC Rat))))) (gSb (a,b,())))/\True)/\List.map (fun(xs:Ty.den (Ty.list (Ty.lf Lf.dD)))=>List.map (fun(x:Ty.den (Ty.lf Lf.dD))=>aF.x x) xs) (aS (Int.toNat (aA (List.length a))) (Int.toNat (aA (List.length (List.getD a 0 (aC Rat))))) (gSb (a,b,())))=a2f a b/\True/\asT Int 0=0/\True) (by kernel_rfl) ?_
 have hp':okM a/\okM b/\a.length=b.length/\wdM a=wdM b:=hp
 obtain⟨ha,hb,hl,hw⟩:=hp'
 refine⟨⟨hp,trivial⟩,⟨Int.le_refl 0,ha.poz,⟨a.length,wdM a,rfl,rfl,by have:=ha.r64;omega,by have:=ha.c64;omega,fun i j hi hj=>?_⟩,trivial⟩,⟨rU _ _ _,trivial⟩,xY _ _ _,trivial,rfl,trivial⟩
 have hj:j<wdM a:=hj
 have hi:i<a.length:=hi
 have h1:=ha.2 i hi j hj
 have h2:=hb.2 i (by omega) j (by omega)
 exact⟨⟨Int.natCast_nonneg i,hi,by show i<b.length;omega,Int.natCast_nonneg j,by show j<(a.getD i []).length;rw[ha.row hi];exact hj,by show j<(b.getD i []).length;rw[hb.row (by omega)];omega⟩,by show rsz (ent a i j)<=_;omega,by show rsz (ent b i j)<=_;omega⟩
theorem b2V:NOk Tryz.prog 103 c1j:=by
 refine pW ((((((((((nil0.an jJ).an jL).an jK).ad VE).an wG).an vZ).an wF).an wB).an wE).an wC) ⟨[],[],[]⟩ Tryz.func103 rfl (by decide) (fun x=>[]) (fun x hp=>?_)
 obtain⟨a,b,u⟩:=x
 change List (List Rat) at a
 change List (List Rat) at b
 refine bZ ((asT Int 0<=0/\0<aA (List.length a)/\asT Int 0<=0/\0<aA (List.length b)/\zX TBe b1X (aA (List.length a),IntKind.wrap IntKind.i64 (aA (List.length (List.getD a 0 (aC Rat)))+aA (List.length (List.getD b 0 (aC Rat)))),(a,b,()),())/\True)/\aS (List.length a) (wdM a+wdM b) (jV (wdM a) (ent a) (ent b))=aS (Int.toNat (aA (List.length a))) (Int.toNat (IntKind.wrap IntKind.i64 (aA (List.length (List.getD a 0 (aC Rat)))+aA (List.length (List.getD b 0 (aC Rat)))))) (gBe (a,b,()))) (by kernel_rfl) ?_
 have hp:okM a/\okM b/\a.length=b.length:=hp
 obtain⟨ha,hb,hl⟩:=hp
 have q1:=ha.c64
 have q2:=hb.c64
 have q3:=ha.r64
 have e:IntKind.wrap .i64 ((wdM a:Int)+(wdM b:Int))=((wdM a+wdM b:Nat):Int):=by rw[bH (by omega) (by omega)];rfl
 dsimp only[aA,asT,aB,aC]
 rw[show (a.getD 0 []).length=wdM a from rfl,show (b.getD 0 []).length=wdM b from rfl,e]
 refine⟨⟨Int.le_refl 0,ha.poz,Int.le_refl 0,hb.poz,⟨a.length,wdM a+wdM b,rfl,rfl,by omega,by omega,fun i j hi hj=>?_⟩,trivial⟩,rfl⟩
 exact⟨Int.natCast_nonneg i,hi,by show i<b.length;omega,Int.natCast_nonneg j,by show a.length<=1000;omega,ha.row hi,by show j<wdM a+(b.getD i []).length;rw[hb.row (by omega)];exact hj,by omega⟩
theorem b1b:aT Tryz.prog 104 c0x:=by
 refine bT ((((((((((nil0.an jJ).an jL).an jK).ad VF).an wG).an vZ).an wF).an wB).an wE).an wC) ⟨[],[],[]⟩ Tryz.func104 rfl (by decide) (fun x=>[]) (fun x hp=>?_)
 obtain⟨a,u⟩:=x
 change List Rat at a
 refine bZ ((zX TCl b1Y (aA (List.length a),1,(a,()),())/\True)/\(dO (fun(x:Ty.den (Ty.list (Ty.lf Lf.dD)))=>aV (dO (fun(x:Ty.den (Ty.lf Lf.dD))=>aV ((aF.ok x=true)::aC Prop)) x::aC Prop)) (aS (Int.toNat (aA (List.length a))) 1 (gCl (a,())))/\True)/\List.map (fun(xs:Ty.den (Ty.list (Ty.lf Lf.dD)))=>List.map (fun(x:Ty.den (Ty.lf Lf.dD))=>aF.x x) xs) (aS (Int.toNat (aA (List.length a))) 1 (gCl (a,())))=ED a/\True) (by kernel_rfl) ?_
 have hp:1<=a.length/\a.length<=64:=hp
 exact⟨⟨⟨a.length,1,rfl,rfl,by omega,by omega,fun i j hi _=>⟨Int.natCast_nonneg i,hi⟩⟩,trivial⟩,⟨rU _ _ _,trivial⟩,xY _ _ _,trivial⟩
def c0z:Ctr:=⟨[tM],[tM,.list tI,tI],fun x=>okE x.1,fun x=>(vG x.1,bI (fE x.1),(0:Int),())⟩
theorem a4r:aT Tryz.prog 90 c0z:=by
 refine bT (((nil0.ad nH).an a7M).an a9D) ⟨[],[],[]⟩ Tryz.func90 rfl (by decide) (fun x=>[]) (fun x hp=>?_)
 obtain⟨a,u⟩:=x
 change List (List Rat) at a
 refine bZ (let A₀:=(aS (List.length a) (wdM a) (ent a));let A₁:=(List.map (fun(xs:Ty.den (Ty.list (Ty.lf Lf.rat)))=>List.map (fun(x:Ty.den (Ty.lf Lf.rat))=>dR x) xs) a);let A₂:=(aA (List.length (rowAt A₀ 0)));let bJ:=(aS (List.length A₀) (wdM A₀) (rdm A₀ (Int.toNat A₂)));(dO (fun(x:Ty.den (Ty.list (Ty.lf Lf.rat)))=>aV (dO (fun(x:Ty.den (Ty.lf Lf.rat))=>aV (aC Prop)) x::aC Prop)) a/\iF A₁/\True)/\ifB (fP A₁ != 0) (True/\aC (List Rat)=vG a/\True/\aC Int=bI (fE a)/\True/\fP A₁=0/\True) ((okM a/\True)/\(asT Int 0<=0/\0<aA (aH none A₀)/\0<aH none A₀/\a3B A₀ A₂/\True)/\(dO (fun(x:Ty.den (Ty.list (Ty.lf Lf.dD)))=>aV (dO (fun(x:Ty.den (Ty.lf Lf.dD))=>aV ((aF.ok x=true)::aC Prop)) x::aC Prop)) bJ/\True)/\List.map (fun(xs:Ty.den (Ty.list (Ty.lf Lf.dD)))=>List.map (fun(x:Ty.den (Ty.lf Lf.dD))=>aF.x x) xs) bJ=vG a/\True/\bI (rdp A₀ (Int.toNat A₂))=bI (fE a)/\True/\asT Int 0=0/\True)) (by kernel_rfl) ?_
 have hE:okE a:=hp
 have ha:=hE.1
 have hr:((aS a.length (wdM a) (ent a)).getD 0 []).length=wdM a:=by rw[jA ha.pos];simp
 have hw:wdM (aS a.length (wdM a) (ent a))=wdM a:=hr
 have hc:=a9C (R:=a.length) (f:=ent a) (Nat.le_refl (wdM a))
 dsimp only[aA,asT,aB,aC] at *
 refine⟨⟨rM a,ha.short,trivial⟩,ifF (ES ha.chk) ⟨⟨ha,trivial⟩,?_⟩⟩
 simp only[aH,rowAt,aU,hr,hw,Int.toNat_natCast]
 refine⟨⟨Int.le_refl 0,ha.poz,ha.pos,SN ha.pos (by have:=ha.r64;omega) ha.c1 (by have:=ha.c64;omega) (Nat.le_refl _) hE.2,trivial⟩,⟨rU _ _ _,trivial⟩,(xY _ _ _).trans ?_,trivial,?_,trivial,trivial,trivial⟩
 ·show tab _ _ (red (aS a.length (wdM a) (ent a)).length _ _).1=_
  rw[aU]
  exact gW fun i hi j hj=>hc.2 i hi j hj
 ·show bI (red (aS a.length (wdM a) (ent a)).length _ _).2=_
  rw[aU,hc.1];rfl
def b8P:Ctr:=⟨[tM],[tI,tI],fun x=>okE x.1,fun x=>((rkM x.1:Int),(0:Int),())⟩
theorem a9y:aT Tryz.prog 97 b8P:=by
 refine bT (nil0.ad a4r) ⟨[],[],[]⟩ Tryz.func97 rfl (by decide) (fun x=>[]) (fun x hp=>?_)
 obtain⟨a,u⟩:=x
 change List (List Rat) at a
 refine bZ ((okE a/\True)/\True/\aA (List.length (bI (fE a)))=aA (rkM a)/\True/\asT Int 0=0/\True) (by kernel_rfl) ?_
 have hE:okE a:=hp
 exact⟨⟨hE,trivial⟩,trivial,by rw[oI];rfl,trivial,rfl,trivial⟩
theorem b9X:aT Tryz.prog 93 (cQ1 s4 (fun x=>-x)):=(a7w fun v x w a h=>a1x v true x w a.raw (a.qn (Nat.le_trans h (by omega))))
abbrev LI':Type:=List Int
def c0C:Ctr:=⟨[.list tI,tI],[tI],fun x=>(show LI' from x.1).length<=1000000,fun x=>(yN (fun q:Int=>q==(show Int from x.2.1)) (show LI' from x.1),())⟩
theorem b1A:aT Tryz.prog 138 c0C:=by
 refine bT nil0 ⟨[],[],[]⟩ Tryz.func138 rfl (by decide) (fun x=>[.inv {k:Nat // k<=(show LI' from x.1).length/\((show LI' from x.1).take k).any (fun q:Int=>q==(show Int from x.2.1))=false} (fun k=>[(8,.val tI (k.1:Int))]) (fun k=>[]) (fun k=>(show LI' from x.1).length-k.1) ⟨0,by omega,rfl⟩ (fun _=>[])]) (fun x hp=>?_)
 obtain⟨x,v,u⟩:=x
 change List Int at x
 change Int at v
 refine bZ ((asT Int 0=0/\True)/\∀ (i:{ k:Nat // k<=List.length x/\(List.any (List.take k x) fun(q:Int)=>q==v)=false }),asT Bool true=true/\ifB (decide (aA (aB i)<aA (List.length x))) ((0<=aA (aB i)/\aA (aB i)<aA (List.length x)/\True)/\ifB (v==List.getD x (Int.toNat (aA (aB i))) 0) (True/\aA (aB i)=yN (fun(q:Int)=>q==v) x/\True) (∃ (i':{ k:Nat // k<=List.length x/\(List.any (List.take k x) fun(q:Int)=>q==v)=false }),List.length x-aB i'<List.length x-aB i/\IntKind.wrap IntKind.i64 (aA (aB i)+1)=aA (aB i')/\True)) (True/\-1=yN (fun(q:Int)=>q==v) x/\True)) (by kernel_rfl) ?_
 have hZ:(⟨false,0,[],[]⟩:aF)=cZ:=rfl
 dsimp only[aA,asT,aB,aC,Ty.den,Lf.den] at *
 simp only[hZ,Int.toNat_natCast,bG,decide_eq_true_eq,decide_eq_false_iff_not,true_and,and_true,aH,nameAt,aW,aU,bK,rowAt,List.length_set,List.length_range]
 have hp:x.length<=1000000:=hp
 refine fun i=>⟨fun h1=>⟨⟨by omega,h1⟩,fun h2=>?_,fun h2=>⟨⟨i.1+1,by omega,?_⟩,by simp only;omega,by rw[bH (by omega) (by omega)];rfl⟩⟩,fun h1=>?_⟩
 ·have e:v=x.getD i.1 0:=eq_of_beq h2
  exact(QJ (d:=0) (by omega) i.2.2 (by show (x.getD i.1 0==v)=true;rw[<-e];exact beq_self_eq_true v)).symm
 ·have e:(x.getD i.1 0==v)=false:=by rw[beq_eq_false_iff_ne] at h2 ⊢;exact fun e=>h2 e.symm
  rw[mM (d:=0) (by omega),i.2.2,e];rfl
 ·have h3:=i.2.2
  rw[List.take_of_length_le (by omega)] at h3
  exact(YK h3).symm
def c0B:Ctr:=⟨[.list tI,tI],[tB],fun x=>(show LI' from x.1).length<=1000000,fun x=>((show LI' from x.1).any (fun q:Int=>q==(show Int from x.2.1)),())⟩
theorem b1l:aT Tryz.prog 91 c0B:=by
 refine bT (nil0.ad b1A) ⟨[],[],[]⟩ Tryz.func91 rfl (by decide) (fun x=>[]) (fun x hp=>?_)
 obtain⟨x,v,u⟩:=x
 change List Int at x
 change Int at v
 refine bZ ((List.length x<=1000000/\True)/\True/\(decide (yN (fun(q:Int)=>q==v) x ≥ 0)=List.any x fun(q:Int)=>q==v)/\True) (by kernel_rfl) ?_
 have hZ:(⟨false,0,[],[]⟩:aF)=cZ:=rfl
 dsimp only[aA,asT,aB,aC,Ty.den,Lf.den] at *
 simp only[hZ,Int.toNat_natCast,bG,decide_eq_true_eq,decide_eq_false_iff_not,true_and,and_true,aH,nameAt,aW,aU,bK,rowAt,List.length_set,List.length_range]
 exact⟨hp,QK _ _⟩
def b4G (a:MQ) (j:Nat):LR:=(List.range (wdM a)).map fun c=>dR (IG (uJ a (wdM a)).1 (fE a) j c)
def IE (a:MQ) (j c:Nat):LR:=(List.range (wdM a)).map fun d=>if d<c then dR (idm d j) else cZ
def DF (a:MQ) (j t:Nat):LR:=(List.range (wdM a)).map fun d=>dR (if d ∈ (fE a).take t then-(uJ a (wdM a)).1 ((fE a).idxOf d) j else idm d j)
def qR (a:MQ) (j:Nat):MR:=(frees j (fE a)).map (b4G a)
theorem a6n (a:MQ) (j:Nat):IE a j 0=List.replicate (wdM a) cZ:=by
 unfold IE;apply List.ext_getElem<;>simp
theorem a9f (a:MQ) (j c:Nat):(IE a j c).set c (dR (gUn () c j))=IE a j (c+1):=by
 unfold IE;rw[map_set]
 refine List.map_congr_left fun d _=>?_
 by_cases e:d=c
 ·rw[if_pos e,if_pos (by omega),e];rfl
 ·rw[if_neg e]
  by_cases e2:d<c
  ·rw[if_pos e2,if_pos (by omega)]
  ·rw[if_neg e2,if_neg (by omega)]
theorem a9e (a:MQ) (j:Nat):IE a j (wdM a)=DF a j 0:=by
 unfold IE DF
 refine List.map_congr_left fun d hd=>?_
 rw[if_pos (List.mem_range.mp hd)];simp
theorem a9h {a:MQ} {j t:Nat} (hd:(fE a).Nodup) (ht:t<(fE a).length):(DF a j t).set (fE a)[t] (dR (- (uJ a (wdM a)).1 t j))=DF a j (t+1):=by
 unfold DF;rw[map_set]
 refine List.map_congr_left fun d _=>?_
 by_cases e:d=(fE a)[t]
 ·rw[if_pos e,if_pos ((oL ht).mpr (.inr e)),e,sD hd ht]
 ·rw[if_neg e]
  by_cases e2:d ∈ (fE a).take t
  ·rw[if_pos e2,if_pos ((oL ht).mpr (.inl e2))]
  ·rw[if_neg e2,if_neg (fun h=>((oL ht).mp h).elim e2 e)]
theorem a9g (a:MQ) {j:Nat} (hj:j ∉ fE a):DF a j (fE a).length=b4G a j:=by
 unfold DF b4G
 refine List.map_congr_left fun d _=>?_
 rw[List.take_length]
 unfold IG
 by_cases e:d=j
 ·rw[if_neg (by rw[e];exact hj),if_pos e];show dR (if d=j then 1 else 0)=_;rw[if_pos e]
 ·rw[if_neg e]
  by_cases e2:d ∈ fE a
  ·rw[if_pos e2,if_pos e2]
  ·rw[if_neg e2,if_neg e2];show dR (if d=j then 1 else 0)=_;rw[if_neg e]
def b8K:Ctr:=⟨[tM],[tM,tI],fun x=>okE x.1,fun x=>(fK x.1,(0:Int),())⟩
theorem a6r:aT Tryz.prog 51 b8K:=by
 refine bT ((((nil0.ad BO).ad a4r).ad b9X).ad b1l) ⟨[],[],[]⟩ Tryz.func51 rfl (by decide) (fun x=>[.inv {j:Nat // j<=wdM (show MQ from x.1)} (fun j=>[(26,.val tI (j.1:Int)),(7,.own 71 0)]++[(8,.any),(9,.any),(10,.any),(11,.any),(12,.any),(27,.any),(28,.any),(29,.any),(30,.any),(31,.any),(32,.any),(33,.any),(34,.any),(35,.any),(36,.any),(37,.any),(38,.any),(39,.any),(40,.any),(41,.any),(42,.any),(43,.any),(44,.any),(45,.any),(46,.any),(47,.any),(48,.any),(49,.any),(50,.any),(51,.any),(52,.any),(53,.any),(54,.any),(55,.any),(56,.any),(57,.any),(58,.any),(59,.any),(60,.any),(61,.any),(62,.any),(63,.any),(64,.any),(65,.any),(66,.any),(67,.any),(68,.any),(69,.any),(70,.any),(71,.any),(72,.any)]) (fun j=>[(71,.row 32 (.list tR) (qR (show MQ from x.1) j.1) 0)]) (fun j=>wdM (show MQ from x.1)-j.1) ⟨0,by omega⟩ (fun j=>[
  .inv {c:Nat // c<=wdM (show MQ from x.1)} (fun c=>[(39,.val tI (c.1:Int))]) (fun c=>[(71,.row 32 (.list tR) (qR (show MQ from x.1) j.1) 0),(36,.row 64 tR (IE (show MQ from x.1) j.1 c.1) 0)]) (fun c=>wdM (show MQ from x.1)-c.1) ⟨0,by omega⟩ (fun _=>[]),
  .inv {t:Nat // t<=(fE (show MQ from x.1)).length} (fun t=>[(51,.val tI (t.1:Int))]) (fun t=>[(71,.row 32 (.list tR) (qR (show MQ from x.1) j.1) 0),(36,.row 64 tR (DF (show MQ from x.1) j.1 t.1) 0)]) (fun t=>(fE (show MQ from x.1)).length-t.1) ⟨0,by omega⟩ (fun _=>[])])]) (fun x hp=>?_)
 obtain⟨a,u⟩:=x
 change List (List Rat) at a
 refine bZ (let A₀:=(List.length (List.getD (vG a) 0 (aC Rat)));let A₁:=(List.length (vG a));let A₂:=(List.length (bI (fE a)));(okE a/\True)/\(asT Int 0<=0/\0<aA A₁/\True)/\(asT Int 0=0/\(True/\asT (List (List aF)) (aC (List aF))=aC (List aF))/\(asT (List (List aF)) (aC (List aF))=aC (List aF)/\0=0/\asT Bool true=true)/\True)/\∀ (i:{ j:Nat // j<=wdM a }),let bJ:=(Int.toNat (aA (aB i)));asT Bool true=true/\ifB (decide (aA (aB i)<aA A₀)) ((List.length (bI (fE a))<=1000000/\True)/\ifB (List.any (bI (fE a)) fun(q:Int)=>q==aA (aB i)) (∃ (i':{ j:Nat // j<=wdM a }),wdM a-aB i'<wdM a-aB i/\IntKind.wrap IntKind.i64 (aA (aB i)+1)=aA (aB i')/\qR a (aB i)=qR a (aB i')/\True) ((asT Int 0<=0/\0<aA A₁/\aA A₀=aA A₀/\0<=aA A₀/\aA A₀<=1000000000/\True)/\(asT Int 0=0/\qR a (aB i)=qR a (aB i)/\List.replicate (Int.toNat (aA A₀)) cZ=IE a (aB i) 0/\True)/\∀ (i_1:{ c:Nat // c<=wdM a }),let dU:=(IE a (aB i) (aB i_1));let eH:=(Int.toNat (aA (aB i_1)));asT Bool true=true/\ifB (decide (aA (aB i_1)<aA (List.length (List.replicate (Int.toNat (aA A₀)) cZ)))) ((a6u () (aA (aB i_1)) (aA (aB i))/\0<=aA (aB i_1)/\aA (aB i_1)<aA (List.length dU)/\Int.toNat (aA (aB i_1))<List.length dU/\True)/\∃ (i':{ c:Nat // c<=wdM a }),wdM a-aB i'<wdM a-aB i_1/\IntKind.wrap IntKind.i64 (aA (aB i_1)+1)=aA (aB i')/\qR a (aB i)=qR a (aB i)/\List.set dU eH (dR (gUn () eH bJ))=IE a (aB i) (aB i')/\True) ((asT Int 0=0/\qR a (aB i)=qR a (aB i)/\IE a (aB i) (aB i_1)=DF a (aB i) 0/\True)/\∀ (i_2:{ t:Nat // t<=List.length (fE a) }),let jE:=(Int.toNat (aA (aB i_2)));let iU:=(List.getD (vG a) jE (aC Rat));let iQ:=(DF a (aB i) (aB i_2));let jP:=(List.getD (bI (fE a)) jE 0);asT Bool true=true/\ifB (decide (aA (aB i_2)<aA A₂)) ((0<=aA (aB i_2)/\aA (aB i_2)<aA A₂/\True)/\(0<=aA (aB i_2)/\aA (aB i_2)<aA A₁/\0<=aA (aB i)/\aA (aB i)<aA (List.length iU)/\s4 (List.getD iU bJ 0)/\0<=List.getD (bI (fE a)) jE 0/\List.getD (bI (fE a)) jE 0<aA (List.length iQ)/\Int.toNat jP<List.length iQ/\True)/\∃ (i':{ t:Nat // t<=List.length (fE a) }),List.length (fE a)-aB i'<List.length (fE a)-aB i_2/\IntKind.wrap IntKind.i64 (aA (aB i_2)+1)=aA (aB i')/\qR a (aB i)=qR a (aB i)/\List.set iQ (Int.toNat jP) (dR (-List.getD iU bJ 0))=DF a (aB i) (aB i')/\True) ((List.length (qR a (aB i))+List.length (DF a (aB i) (aB i_2)::aC (List aF))<=1000000000/\True)/\∃ (i':{ j:Nat // j<=wdM a }),wdM a-aB i'<wdM a-aB i/\IntKind.wrap IntKind.i64 (aA (aB i)+1)=aA (aB i')/\qR a (aB i)++DF a (aB i) (aB i_2)::aC (List aF)=qR a (aB i')/\True)))) ((dO (fun(x:Ty.den (Ty.list (Ty.lf Lf.dD)))=>aV (dO (fun(x:Ty.den (Ty.lf Lf.dD))=>aV ((aF.ok x=true)::aC Prop)) x::aC Prop)) (qR a (aB i))/\True)/\List.map (fun(xs:Ty.den (Ty.list (Ty.lf Lf.dD)))=>List.map (fun(x:Ty.den (Ty.lf Lf.dD))=>aF.x x) xs) (qR a (aB i))=fK a/\True/\asT Int 0=0/\True)) (by kernel_rfl) ?_
 have hZ:(⟨false,0,[],[]⟩:aF)=cZ:=rfl
 dsimp only[aA,asT,aB,aC,Ty.den,Lf.den] at *
 simp only[hZ,Int.toNat_natCast,bG,decide_eq_true_eq,decide_eq_false_iff_not,true_and,and_true,aH,nameAt,aW,aU,bK,rowAt,List.length_set,List.length_range]
 have hE:okE a:=hp
 have ha:=hE.1
 have q1:=ha.r64
 have q2:=ha.c64
 have q3:=ha.pos
 have E:Ech a.length (ent a) (wdM a) (uJ a (wdM a)).1 (fE a):=gX a.length (ent a) (wdM a)
 have hle:=E.le
 have l1:(vG a).length=a.length:=bK
 have l2:∀ i,i<a.length->(List.getD (vG a) i []).length=wdM a:=fun i hi=>by unfold vG;rw[iV hi];simp
 have l3:∀ i,i<a.length->∀ c,c<wdM a->(List.getD (vG a) i []).getD c 0=(uJ a (wdM a)).1 i c:=fun i hi c hc=>by unfold vG;rw[iV hi,gI hc]
 simp only[l1,l2 0 q3,oI]
 refine⟨hE,⟨Int.le_refl 0,by omega⟩,fun j=>⟨fun h1=>⟨by omega,fun h2=>?_,fun h2=>⟨⟨Int.le_refl 0,by omega,by omega,by omega⟩,?_,fun c=>⟨fun h3=>?_,fun h3=>⟨?_,fun t=>⟨fun h4=>?_,fun h4=>?_⟩⟩⟩⟩⟩,fun h1=>?_⟩⟩
 ·rw[GN] at h2
  have h2:=of_decide_eq_true h2
  refine⟨⟨j.1+1,by omega⟩,by simp only;omega,by rw[bH (by omega) (by omega)];rfl,?_⟩
  show qR a j.1=qR a (j.1+1)
  unfold qR;rw[a0T h2]
 ·exact(a6n a j.1).symm
 ·rw[List.length_replicate] at h3
  have hc:c.1<wdM a:=by omega
  have l4:(IE a j.1 c.1).length=wdM a:=by simp[IE]
  rw[l4]
  exact⟨⟨⟨Int.natCast_nonneg _,Int.natCast_nonneg _⟩,by omega,by omega,hc⟩,⟨c.1+1,by omega⟩,by simp only;omega,by rw[bH (by omega) (by omega)];rfl,a9f a j.1 c.1⟩
 ·rw[List.length_replicate] at h3
  have hc:c.1=wdM a:=by have:=c.2;omega
  rw[hc];exact a9e a j.1
 ·have ht:t.1<(fE a).length:=by omega
  have hm:=List.getElem_mem ht
  have hp:=E.lt _ hm
  have e1:(bI (fE a)).getD t.1 0=((fE a)[t.1]:Int):=by unfold bI;simp[List.getD_eq_getElem?_getD,ht]
  have l4:(DF a j.1 t.1).length=wdM a:=by simp[DF]
  have hj:j.1<wdM a:=by omega
  rw[l2 t.1 (by omega),l3 t.1 (by omega) j.1 hj,e1,l4,Int.toNat_natCast]
  have z:=hE.2 (wdM a) (Nat.le_refl _) t.1 (by omega) j.1 hj
  refine⟨⟨by omega,by omega⟩,⟨by omega,by omega,by omega,by omega,by show rsz ((uJ a (wdM a)).1 t.1 j.1)<=_;unfold uJ;omega,by omega,by omega,hp⟩,⟨t.1+1,by omega⟩,by simp only;omega,by rw[bH (by omega) (by omega)];rfl,a9h E.nd ht⟩
 ·have ht:t.1=(fE a).length:=by have:=t.2;omega
  rw[GN] at h2
  have h2:=of_decide_eq_false h2
  have hfl:(frees j.1 (fE a)).length<=j.1:=by unfold frees;have:=List.length_filter_le (fun c=>decide (c ∉ fE a)) (List.range j.1);simpa using this
  refine⟨by unfold qR;rw[List.length_map];simp;omega,⟨j.1+1,by omega⟩,by simp only;omega,by rw[bH (by omega) (by omega)];rfl,?_⟩
  show qR a j.1++[DF a j.1 t.1]=qR a (j.1+1)
  unfold qR
  rw[VP h2,List.map_append,ht,a9g a h2];rfl
 ·have hj:j.1=wdM a:=by have:=j.2;omega
  rw[hj]
  refine⟨jS.mpr fun r hr=>⟨jS.mpr fun q hq=>?_,trivial⟩,?_⟩
  ·obtain⟨s,_,rfl⟩:=List.mem_map.mp hr
   obtain⟨c,_,rfl⟩:=xE hq
   exact⟨rfl,trivial⟩
  ·unfold qR fK
   rw[List.map_map]
   exact List.map_congr_left fun s _=>a1v _ _
def b8E:Ctr:=⟨[.ref tM],[tI],fun x=>0<(show MQ from x.1).length,fun x=>((wdM (show MQ from x.1):Int),())⟩
def b8F:Ctr:=⟨[.ref tM],[tI],fun x=>True,fun x=>(((show MQ from x.1).length:Int),())⟩
theorem a1m:aT Tryz.prog 106 b8E:=by
 refine bT nil0 ⟨[],[],[]⟩ Tryz.func106 rfl (by decide) (fun x=>[]) (fun x hp=>?_)
 obtain⟨a,u⟩:=x
 change List (List Rat) at a
 refine bZ ((asT Int 0<=0/\0<aA (List.length a)/\True)/\True/\aA (List.length (List.getD a 0 (aC Rat)))=aA (wdM a)/\True) (by kernel_rfl) ?_
 have hZ:(⟨false,0,[],[]⟩:aF)=cZ:=rfl
 dsimp only[aA,asT,aB,aC,Ty.den,Lf.den] at *
 simp only[hZ,Int.toNat_natCast,bG,decide_eq_true_eq,decide_eq_false_iff_not,true_and,and_true,aH,nameAt,aW,aU,bK,rowAt,List.length_set,List.length_range]
 have hp:0<a.length:=hp
 exact⟨Int.le_refl 0,by omega⟩
theorem a1o:aT Tryz.prog 102 b8F:=by
 refine bT nil0 ⟨[],[],[]⟩ Tryz.func102 rfl (by decide) (fun x=>[]) (fun x hp=>?_)
 obtain⟨a,u⟩:=x
 change List (List Rat) at a
 refine bZ (True/\aA (List.length a)=aA (List.length a)/\True) (by kernel_rfl) ?_
 have hZ:(⟨false,0,[],[]⟩:aF)=cZ:=rfl
 dsimp only[aA,asT,aB,aC,Ty.den,Lf.den] at *
 simp only[hZ,Int.toNat_natCast,bG,decide_eq_true_eq,decide_eq_false_iff_not,true_and,and_true,aH,nameAt,aW,aU,bK,rowAt,List.length_set,List.length_range]
def b8G:Ctr:=⟨[tM,.list tQ,.clo 106 (.pair (.ref tM) .unit)],[tI],fun x=>okM x.1/\(∀ q ∈ (show LQ' from x.2.1),rsz q<=100000000)/\(show MQ from x.2.2.1.1)=(show MQ from x.1)/\(show LQ' from x.2.1).length=wdM (show MQ from x.1),fun x=>((0:Int),())⟩
def b8H:Ctr:=⟨[tM,.list tQ,.clo 102 (.pair (.ref tM) .unit)],[tI],fun x=>okM x.1/\(∀ q ∈ (show LQ' from x.2.1),rsz q<=100000000)/\(show MQ from x.2.2.1.1)=(show MQ from x.1)/\(show LQ' from x.2.1).length=(show MQ from x.1).length,fun x=>((0:Int),())⟩
theorem a1s:aT Tryz.prog 101 b8G:=by
 refine bT ((((nil0.ad lI).ad nH).ad lI).ad a1m) ⟨[],[],[]⟩ Tryz.func101 rfl (by decide) (fun x=>[]) (fun x hp=>?_)
 obtain⟨a,x,⟨b,v⟩,u⟩:=x
 change List (List Rat) at a
 change List Rat at x
 change List (List Rat) at b
 refine bZ (let A₀:=(List.map (fun(xs:Ty.den (Ty.list (Ty.lf Lf.rat)))=>List.map (fun(x:Ty.den (Ty.lf Lf.rat))=>dR x) xs) a);let A₁:=(List.map (fun(x:Ty.den (Ty.lf Lf.rat))=>dR x) x);(dO (fun(x:Ty.den (Ty.list (Ty.lf Lf.rat)))=>aV (dO (fun(x:Ty.den (Ty.lf Lf.rat))=>aV (aC Prop)) x::aC Prop)) a/\iF A₀/\True)/\ifB (fP A₀ != 0) (True/\fP A₀=0/\True) ((dO (fun(x:Ty.den (Ty.lf Lf.rat))=>aV (aC Prop)) x/\(List.length A₁<=1000000/\∀ (q:aF),q ∈ List.map (fun(x:Ty.den (Ty.lf Lf.rat))=>dR x) x->rF q)/\True)/\ifB (!!List.any A₁ fun(q:aF)=>!aF.ok q) (True/\asT Int 1=0/\True) ((0<List.length b/\True)/\ifB (aA (List.length x) != aA (wdM b)) (True/\asT Int 4=0/\True) (True/\asT Int 0=0/\True)))) (by kernel_rfl) ?_
 have hZ:(⟨false,0,[],[]⟩:aF)=cZ:=rfl
 dsimp only[aA,asT,aB,aC,Ty.den,Lf.den] at *
 simp only[hZ,Int.toNat_natCast,bG,decide_eq_true_eq,decide_eq_false_iff_not,true_and,and_true,aH,nameAt,aW,aU,bK,rowAt,List.length_set,List.length_range]
 have hp:okM a/\(∀ q ∈ x,rsz q<=100000000)/\b=a/\x.length=wdM a:=hp
 obtain⟨ha,sx,rfl,hx⟩:=hp
 have q1:=ha.r64
 have q2:=ha.c64
 have e1:=ES ha.chk
 have e2:(List.map (fun x=>dR x) x).any (fun q=>!q.ok)=false:=List.any_eq_false.mpr fun q hq=>by
  obtain⟨y,_,rfl⟩:=List.mem_map.mp hq;simp[dR]
 refine⟨⟨rM b,ha.short⟩,fun h=>absurd (h.symm.trans e1) (by decide),fun h=>⟨⟨XR x,by rw[List.length_map];omega,fun q hq=>?_⟩,fun h2=>?_,fun h2=>⟨ha.pos,fun h3=>by rw[hx] at h3;simp at h3,fun _=>trivial⟩⟩⟩
 ·obtain⟨y,hy,rfl⟩:=List.mem_map.mp hq
  have:=sx y hy
  have ⟨h3,h4⟩:=KX y
  exact⟨by omega,by omega⟩
 ·rw[e2] at h2;cases h2
theorem a1t:aT Tryz.prog 101 b8H:=by
 refine bT ((((nil0.ad lI).ad nH).ad lI).ad a1o) ⟨[],[],[]⟩ Tryz.func101 rfl (by decide) (fun x=>[]) (fun x hp=>?_)
 obtain⟨a,x,⟨b,v⟩,u⟩:=x
 change List (List Rat) at a
 change List Rat at x
 change List (List Rat) at b
 refine bZ (let A₀:=(List.map (fun(xs:Ty.den (Ty.list (Ty.lf Lf.rat)))=>List.map (fun(x:Ty.den (Ty.lf Lf.rat))=>dR x) xs) a);let A₁:=(List.map (fun(x:Ty.den (Ty.lf Lf.rat))=>dR x) x);(dO (fun(x:Ty.den (Ty.list (Ty.lf Lf.rat)))=>aV (dO (fun(x:Ty.den (Ty.lf Lf.rat))=>aV (aC Prop)) x::aC Prop)) a/\iF A₀/\True)/\ifB (fP A₀ != 0) (True/\fP A₀=0/\True) ((dO (fun(x:Ty.den (Ty.lf Lf.rat))=>aV (aC Prop)) x/\(List.length A₁<=1000000/\∀ (q:aF),q ∈ List.map (fun(x:Ty.den (Ty.lf Lf.rat))=>dR x) x->rF q)/\True)/\ifB (!!List.any A₁ fun(q:aF)=>!aF.ok q) (True/\asT Int 1=0/\True) ((True/\True)/\ifB (aA (List.length x) != aA (List.length b)) (True/\asT Int 4=0/\True) (True/\asT Int 0=0/\True)))) (by kernel_rfl) ?_
 have hZ:(⟨false,0,[],[]⟩:aF)=cZ:=rfl
 dsimp only[aA,asT,aB,aC,Ty.den,Lf.den] at *
 simp only[hZ,Int.toNat_natCast,bG,decide_eq_true_eq,decide_eq_false_iff_not,true_and,and_true,aH,nameAt,aW,aU,bK,rowAt,List.length_set,List.length_range]
 have hp:okM a/\(∀ q ∈ x,rsz q<=100000000)/\b=a/\x.length=a.length:=hp
 obtain⟨ha,sx,rfl,hx⟩:=hp
 have q1:=ha.r64
 have q2:=ha.c64
 have e1:=ES ha.chk
 have e2:(List.map (fun x=>dR x) x).any (fun q=>!q.ok)=false:=List.any_eq_false.mpr fun q hq=>by
  obtain⟨y,_,rfl⟩:=List.mem_map.mp hq;simp[dR]
 refine⟨⟨rM b,ha.short⟩,fun h=>absurd (h.symm.trans e1) (by decide),fun h=>⟨⟨XR x,by rw[List.length_map];omega,fun q hq=>?_⟩,fun h2=>?_,fun h2=>⟨fun h3=>by rw[hx] at h3;simp at h3,fun _=>trivial⟩⟩⟩
 ·obtain⟨y,hy,rfl⟩:=List.mem_map.mp hq
  have:=sx y hy
  have ⟨h3,h4⟩:=KX y
  exact⟨by omega,by omega⟩
 ·rw[e2] at h2;cases h2
def c0q:Ctr:=⟨[tM,.list tQ],[.list tQ],fun x=>okM x.1/\szM x.1 1000000/\(show LQ' from x.2.1).length=wdM (show MQ from x.1)/\∀ q ∈ (show LQ' from x.2.1),rsz q<=1000000,fun x=>(mvL x.1 x.2.1,())⟩
theorem b0L:aT Tryz.prog 107 c0q:=by
 refine bT (nil0.ad a0C) ⟨[],[],[]⟩ Tryz.func107 rfl (by decide) (fun x=>[.inv {k:Nat // k<=(show MQ from x.1).length} (fun k=>[(10,.val tI (k.1:Int)),(5,.own 19 0)]++[(18,.any),(19,.any)]) (fun k=>[(19,.row 64 tQ ((List.range k.1).map (mv (wdM (show MQ from x.1)) (ent (show MQ from x.1)) (lv x.2.1))) 0)]) (fun k=>(show MQ from x.1).length-k.1) ⟨0,by omega⟩ (fun _=>[])]) (fun x hp=>?_)
 obtain⟨a,x,u⟩:=x
 change List (List Rat) at a
 change List Rat at x
 refine bZ (let A₀:=(mv (wdM a) (ent a) (lv x));(asT Int 0=0/\(True/\asT (List Rat) (aC Rat)=aC Rat)/\(asT (List Rat) (aC Rat)=aC Rat/\0=0/\asT Bool true=true)/\True)/\∀ (i:{ k:Nat // k<=List.length a }),let A₁:=(List.getD a (Int.toNat (aA (aB i))) (aC Rat));asT Bool true=true/\ifB (decide (aA (aB i)<aA (List.length a))) ((0<=aA (aB i)/\aA (aB i)<aA (List.length a)/\True)/\(a0D A₁ x/\List.length (List.map A₀ (List.range (aB i)))+List.length (EF A₁ x (List.length A₁)::aC Rat)<=1000000000/\True)/\∃ (i':{ k:Nat // k<=List.length a }),List.length a-aB i'<List.length a-aB i/\IntKind.wrap IntKind.i64 (aA (aB i)+1)=aA (aB i')/\List.map A₀ (List.range (aB i))++EF A₁ x (List.length A₁)::aC Rat=List.map A₀ (List.range (aB i'))/\True) (True/\List.map A₀ (List.range (aB i))=mvL a x/\True)) (by kernel_rfl) ?_
 have hZ:(⟨false,0,[],[]⟩:aF)=cZ:=rfl
 dsimp only[aA,asT,aB,aC,Ty.den,Lf.den] at *
 simp only[hZ,Int.toNat_natCast,bG,decide_eq_true_eq,decide_eq_false_iff_not,true_and,and_true,aH,nameAt,aW,aU,bK,rowAt,List.length_set,List.length_range]
 have hp:okM a/\szM a 1000000/\x.length=wdM a/\∀ q ∈ x,rsz q<=1000000:=hp
 obtain⟨ha,sa,hx,sx⟩:=hp
 have q1:=ha.r64
 have q2:=ha.c64
 refine fun i=>⟨fun h1=>?_,fun h1=>?_⟩
 ·have hi:i.1<a.length:=by omega
  have hr:=ha.row hi
  refine⟨⟨by omega,h1⟩,⟨⟨by rw[hr,hx],by rw[hr];exact q2,fun c hc=>⟨sa i.1 hi c (by omega),fD sx (by omega)⟩⟩,by simp;omega⟩,⟨i.1+1,by omega⟩,by simp only;omega,by rw[bH (by omega) (by omega)];rfl,?_⟩
  rw[List.range_succ,List.map_append,hr];rfl
 ·have hi:i.1=a.length:=by have:=i.2;omega
  rw[hi];rfl
def b8n:Ctr:=⟨[tM,.list tQ],[.list tQ,tI],fun x=>okM x.1/\szM x.1 1000000/\(show LQ' from x.2.1).length=wdM (show MQ from x.1)/\∀ q ∈ (show LQ' from x.2.1),rsz q<=1000000,fun x=>(mvL x.1 x.2.1,(0:Int),())⟩
theorem a7m:aT Tryz.prog 62 b8n:=by
 refine bT ((((nil0.ad a1m).ad a1s).ad a1t).ad b0L) ⟨[],[],[]⟩ Tryz.func62 rfl (by decide) (fun x=>[]) (fun x hp=>?_)
 obtain⟨a,x,u⟩:=x
 change List (List Rat) at a
 change List Rat at x
 refine bZ (((okM a/\(∀ (q:Rat),q ∈ x->rsz q<=100000000)/\a=a/\List.length x=wdM a)/\True)/\((okM a/\szM a 1000000/\List.length x=wdM a/\∀ (q:Rat),q ∈ x->rsz q<=1000000)/\True)/\True/\mvL a x=mvL a x/\True/\asT Int 0=0/\True) (by kernel_rfl) ?_
 have hZ:(⟨false,0,[],[]⟩:aF)=cZ:=rfl
 dsimp only[aA,asT,aB,aC,Ty.den,Lf.den] at *
 simp only[hZ,Int.toNat_natCast,bG,decide_eq_true_eq,decide_eq_false_iff_not,true_and,and_true,aH,nameAt,aW,aU,bK,rowAt,List.length_set,List.length_range]
 have hp:okM a/\szM a 1000000/\x.length=wdM a/\∀ q ∈ x,rsz q<=1000000:=hp
 obtain⟨ha,sa,hx,sx⟩:=hp
 exact⟨⟨ha,fun q hq=>Nat.le_trans (sx q hq) (by omega),hx⟩,ha,sa,hx,sx⟩
def rE (a:MQ):MQ × Int × Unit:=if yP a=true then (xA a,0,()) else ([],14,())
def c0D:Ctr:=⟨[tM],[tM,tI],fun x=>okM x.1/\wdM (show MQ from x.1)=(show MQ from x.1).length/\DI (show MQ from x.1).length ((show MQ from x.1).length+(show MQ from x.1).length) (jV (show MQ from x.1).length (ent x.1) idm) (show MQ from x.1).length,fun x=>rE x.1⟩
theorem a4E:aT Tryz.prog 68 c0D:=by
 refine bT ((((((((((((((nil0.an jJ).an jL).an jK).ad a3N).ad BO).ad VH).an a9D).an wG).an vZ).an wF).an wB).an wE).an wC).an b2V) ⟨[5,6],[6],[]⟩ Tryz.func68 rfl (by decide) (fun x=>[]) (fun x hp=>?_)
 obtain⟨a,u⟩:=x
 change List (List Rat) at a
 refine bZ (let A₂:=(Int.toNat (aA (List.length a)));let dU:=(Ty.list (Ty.lf Lf.dD));let jE:=(rowsOf none (aS A₂ A₂ (gUn ())));let A₁:=(List.map (fun(xs:Ty.den dU)=>List.map (fun(x:Ty.den (Ty.lf Lf.dD))=>aF.x x) xs) jE);let A₀:=(aS (List.length a) (wdM a+wdM A₁) (jV (wdM a) (ent a) (ent A₁)));let eH:=(aS (List.length A₀) (wdM A₀) (rdm A₀ A₂));let bJ:=(aS A₂ A₂ (gIn (rowsOf none eH,aA (List.length a),())));(okM a/\True)/\ifB (sqC a != 0) (True/\aC (List Rat)=Prod.fst (rE a)/\True/\sqC a=Prod.fst (Prod.snd (rE a))/\True) ((zX TUn a6u (aA (List.length a),aA (List.length a),(),())/\dO (fun(x:Ty.den dU)=>aV (dO (fun(x:Ty.den (Ty.lf Lf.dD))=>aV ((aF.ok x=true)::aC Prop)) x::aC Prop)) jE/\(okM a/\okM A₁/\List.length a=List.length A₁)/\True)/\(a3B A₀ (aA (List.length a))/\True)/\ifB (decide (aA (List.length (bI (rdp A₀ A₂)))<aA (List.length a))) (True/\aC (List Rat)=Prod.fst (rE a)/\True/\14=Prod.fst (Prod.snd (rE a))/\True) ((zX TIn b2a (aA (List.length a),aA (List.length a),(rowsOf none eH,aA (List.length a),()),())/\True)/\(dO (fun(x:Ty.den dU)=>aV (dO (fun(x:Ty.den (Ty.lf Lf.dD))=>aV ((aF.ok x=true)::aC Prop)) x::aC Prop)) bJ/\True)/\List.map (fun(xs:Ty.den dU)=>List.map (fun(x:Ty.den (Ty.lf Lf.dD))=>aF.x x) xs) bJ=Prod.fst (rE a)/\True/\0=Prod.fst (Prod.snd (rE a))/\True))) (by kernel_rfl) ?_
 have hZ:(⟨false,0,[],[]⟩:aF)=cZ:=rfl
 dsimp only[aA,asT,aB,aC,Ty.den,Lf.den] at *
 simp only[hZ,Int.toNat_natCast,bG,decide_eq_true_eq,decide_eq_false_iff_not,true_and,and_true,aH,nameAt,aW,aU,bK,rowAt,List.length_set,List.length_range]
 have hp:okM a/\wdM a=a.length/\DI a.length (a.length+a.length) (jV a.length (ent a) idm) a.length:=hp
 obtain⟨ha,hw,hok⟩:=hp
 have q1:=ha.r64
 have q3:=ha.pos
 have eI:List.map (fun xs=>List.map (fun x=>aF.x x) xs) (rowsOf none (aS a.length a.length (gUn ())))=idM a.length:=xY _ _ _
 have hI:isM (idM a.length) a.length a.length:=KQ q3 q1
 have hIk:okM (idM a.length):=(a2y q3).ok hI (by omega)
 have eB:aS a.length (a.length+a.length) (jV a.length (ent a) (ent (idM a.length)))=aS a.length (a.length+a.length) (jV a.length (ent a) idm):=kP fun i hi j hj=>by
  unfold jV;split
  ·rfl
  ·exact qH hi (by omega)
 have hB:wdM (aS a.length (a.length+a.length) (jV a.length (ent a) idm))=a.length+a.length:=by
  show ((aS a.length (a.length+a.length) (jV a.length (ent a) idm)).getD 0 []).length=_
  rw[jA q3];simp
 have hX:=a9C (R:=a.length) (C:=a.length+a.length) (n:=a.length) (f:=jV a.length (ent a) idm) (by omega)
 have hP:=SN (R:=a.length) (C:=a.length+a.length) (n:=a.length) (f:=jV a.length (ent a) idm) q3 (by omega) (by omega) (by omega) (by omega) hok
 have hsq:sqC a=0:=if_pos hw.symm
 simp only[eI,hI.wd,hw,eB,hB,hI.len,hsq]
 have hp2:(rdp (aS a.length (a.length+a.length) (jV a.length (ent a) idm)) a.length)=(NQ a).2:=by
  show (red (aS _ _ _).length _ _).2=_
  rw[aU];exact hX.1
 have hm2:∀ i,i<a.length->∀ c,c<a.length+a.length->rdm (aS a.length (a.length+a.length) (jV a.length (ent a) idm)) a.length i c=(NQ a).1 i c:=fun i hi c hc=>by
  show (red (aS _ _ _).length _ _).1 i c=_
  rw[aU];exact hX.2 i hi c hc
 rw[hp2]
 refine⟨ha,fun h=>(by cases h),fun _=>⟨⟨⟨a.length,a.length,rfl,rfl,by omega,by omega,fun i j _ _=>⟨Int.natCast_nonneg i,Int.natCast_nonneg j⟩⟩,rU _ _ _,ha,hIk,trivial⟩,hP,fun h=>?_,fun h=>?_⟩⟩
 ·have h:=of_decide_eq_true h
  rw[oI] at h
  have hr:yP a=false:=decide_eq_false (by omega)
  have e:rE a=([],14,()):=by unfold rE;rw[hr];rfl
  rw[e];exact⟨rfl,rfl⟩
 ·have h:=of_decide_eq_false h
  rw[oI] at h
  have hle:(NQ a).2.length<=a.length:=(gX a.length (jV a.length (ent a) idm) a.length).le
  have hr:yP a=true:=decide_eq_true (by omega)
  have e:rE a=(xA a,0,()):=by unfold rE;rw[hr];rfl
  rw[e]
  have hrow:∀ i,i<a.length->(rowsOf none (aS a.length (a.length+a.length) (rdm (aS a.length (a.length+a.length) (jV a.length (ent a) idm)) a.length))).getD i []=(List.range (a.length+a.length)).map (fun c=>dR (rdm (aS a.length (a.length+a.length) (jV a.length (ent a) idm)) a.length i c)):=fun i hi=>jA hi
  refine⟨⟨a.length,a.length,rfl,rfl,by omega,by omega,fun i j hi hj=>?_⟩,rU _ _ _,(xY _ _ _).trans (gW fun i hi j hj=>?_),rfl⟩
  ·have hi:i<a.length:=hi
   have hj:j<a.length:=hj
   refine⟨Int.natCast_nonneg i,by show i<(aS _ _ _).length;rw[aU];exact hi,Int.natCast_nonneg j,by omega,Int.natCast_nonneg _,by show (a.length:Int)<=1000;omega,?_,?_⟩
   ·show a.length+j<((rowsOf none (aS a.length (a.length+a.length) (rdm (aS a.length (a.length+a.length) (jV a.length (ent a) idm)) a.length))).getD i []).length
    rw[hrow i hi];simp;omega
   ·show (((rowsOf none (aS a.length (a.length+a.length) (rdm (aS a.length (a.length+a.length) (jV a.length (ent a) idm)) a.length))).getD i []).getD (a.length+j) cZ).ok=true
    rw[hrow i hi,gI (by omega)];rfl
  ·show CX (aS a.length (a.length+a.length) (rdm (aS a.length (a.length+a.length) (jV a.length (ent a) idm)) a.length)) i (a.length+j)=(NQ a).1 i (a.length+j)
   rw[QG hi (by omega)]
   exact hm2 i hi _ (by omega)
theorem GY {n:Nat} {a a' b b':Mt} {i j:Nat} (h1:∀ k,k<n->a i k=a' i k) (h2:∀ k,k<n->b k j=b' k j):mm n a b i j=mm n a' b' i j:=iJ n fun k hk=>by rw[h1 k hk,h2 k hk]
theorem Gau.congr {N f:Nat} {n g n' g':Mt} (H:Gau N f n g) (h1:∀ i,i<N->∀ j,j<N->n' i j=n i j) (h2:∀ i,i<N->∀ j,j<f->g' i j=g i j):Gau N f n' g' :=
 ⟨fun i hi j hj=>by rw[h1 i hi j hj,h1 j hj i hi];exact H.sym i hi j hj,fun i hi j hj=>by rw[<-H.ng i hi j hj];exact GY (fun k hk=>h1 i hi k hk) (fun k hk=>h2 k hk j hj),
  by rw[(IQ (C:=f) h2 f (Nat.le_refl _)).1];exact H.rank,by rw[(IQ (C:=N) h1 N (Nat.le_refl _)).1];exact H.dim⟩
theorem OX.congr {n:Nat} {a x a' x':Mt} (H:OX n a x) (h1:∀ i,i<n->∀ j,j<n->a' i j=a i j) (h2:∀ i,i<n->∀ j,j<n->x' i j=x i j):OX n a' x' :=
 ⟨fun i hi j hj=>by rw[<-H.r i hi j hj];exact GY (fun k hk=>h1 i hi k hk) (fun k hk=>h2 k hk j hj),fun i hi j hj=>by rw[<-H.l i hi j hj];exact GY (fun k hk=>h2 i hi k hk) (fun k hk=>h1 k hk j hj)⟩
theorem isM.b4A {a b:MQ} {R n C:Nat} (h:isM a R n) (g:isM b n C) {i j:Nat} (hi:i<R) (hj:j<C):ent (mulM a b) i j=mm n (ent a) (ent b) i j:=by
 unfold mulM;rw[h.len,g.wd,g.len];exact qH hi hj
theorem isM.b2O {a:MQ} {R C:Nat} (h:isM a R C) {i j:Nat} (hi:i<C) (hj:j<R):ent (trM a) i j=ent a j i:=by
 unfold trM;rw[h.len,h.wd];exact qH hi hj
theorem isM.c0n {a b:MQ} {R C:Nat} (h:isM a R C) {i j:Nat} (hi:i<R) (hj:j<C):ent (NK a b) i j=ent a i j+ent b i j:=by
 unfold NK;rw[h.len,h.wd];exact qH hi hj
theorem isM.rk {a:MQ} {R C:Nat} (h:isM a R C):rkM a=(red R (ent a) C).2.length:=by unfold rkM uJ;rw[h.len,h.wd]
theorem a7d {a:MQ} {R C:Nat} (h:isM a R C):a2w a=true↔∀ i,i<R->∀ j,j<C->ent a i j=0:=by unfold a2w;rw[h.len,h.wd,decide_eq_true_eq]
theorem a2h {a:MQ} {R C:Nat} (h:isM a R C):yQ a=true↔∀ i,i<R->∀ j,j<R->ent a i j=ent a j i:=by unfold yQ;rw[h.len,decide_eq_true_eq]
theorem a0W {n g:MQ} {N c:Nat} (hn:isM n N N) (hg:isM g N c):wX n g=true↔Gau N c (ent n) (ent g):=by
 unfold wX
 rw[Bool.and_eq_true,Bool.and_eq_true,Bool.and_eq_true,decide_eq_true_eq,decide_eq_true_eq,a2h hn,a7d (hn.mul hg),hg.rk,hn.rk,hg.wd,hn.len]
 constructor
 ·rintro⟨⟨⟨h1,h2⟩,h3⟩,h4⟩
  exact⟨h1,fun i hi j hj=>by rw[<-hn.b4A hg hi hj];exact h2 i hi j hj,h3,by rw[h3] at h4;exact h4⟩
 ·rintro⟨h1,h2,h3,h4⟩
  exact⟨⟨⟨h1,fun i hi j hj=>by rw[hn.b4A hg hi hj];exact h2 i hi j hj⟩,h3⟩,by rw[h3];exact h4⟩
theorem a3f {α:Type} (l:List Nat) (g:Nat->α):l.map g=(List.range l.length).map (fun s=>g (l.getD s 0)):=by
 apply List.ext_getElem
 ·simp
 ·intro i h1 h2
  have h1:i<l.length:=by simpa using h1
  simp[List.getD_eq_getElem?_getD,h1]
theorem sF {n:MQ} {N:Nat} (hn:isM n N N):fK n=tab (frees N (red N (ent n) N).2).length N (tr (MS N (ent n))):=by
 unfold fK uJ;rw[hn.len,hn.wd,a3f];rfl
theorem b3q {n:MQ} {N:Nat} (hn:isM n N N):trM (fK n)=tab N (frees N (red N (ent n) N).2).length (MS N (ent n))\/fK n=[]:=by
 by_cases h:(frees N (red N (ent n) N).2).length=0
 ·right;rw[sF hn,h];rfl
 ·left
  have h0:1<=(frees N (red N (ent n) N).2).length:=by omega
  rw[sF hn];unfold trM;rw[bK,TL h0]
  exact gW fun i hi j hj=>qH hj hi
theorem a0U {n:Nat} {p:List Nat} (hd:p.Nodup) (hl:∀ j ∈ p,j<n):(frees n p).length<=n:=by have:=rZ hd hl;omega
theorem a6q {n:MQ} {N:Nat} (hn:isM n N N) (h:fK n≠[]):isM (trM (fK n)) N (frees N (red N (ent n) N).2).length:=by
 have E:=gX N (ent n) N
 have h1:=a0U E.nd E.lt
 have h2:1<=(frees N (red N (ent n) N).2).length:=by
  rcases Nat.eq_zero_or_pos (frees N (red N (ent n) N).2).length with e|e
  ·exact absurd (by rw[sF hn,e];rfl) h
  ·exact e
 rw[(b3q hn).resolve_right h]
 exact rV hn.2.2.1 hn.2.2.2.1 h2 (Nat.le_trans h1 hn.2.2.2.1)
theorem a6p {n:MQ} {N:Nat} (hn:isM n N N) (hs:yQ n=true) (h:fK n≠[]):wX n (trM (fK n))=true:=by
 have hg:=a6q hn h
 rw[a0W hn hg]
 refine(a6o ((a2h hn).mp hs)).congr (fun _ _ _ _=>rfl) fun i hi j hj=>?_
 rw[(b3q hn).resolve_right h];exact qH hi hj
def bgM (g b:MQ):MQ:=mulM (trM b) g
def sM (g b:MQ):MQ:=a2f (idM g.length) (mulM g (mulM (xA (bgM g b)) (trM b)))
theorem b0N {g b:MQ} {N c:Nat} (hg:isM g N c) (hb:isM b N c):isM (bgM g b) c c:=hb.trp.mul hg
theorem a9E {a:MQ} {n:Nat} (h:isM a n n):yP a=true↔∀ x,(∀ i,i<n->mv n (ent a) x i=0)->∀ c,c<n->x c=0:=by
 unfold yP NQ;rw[h.len,decide_eq_true_eq];exact b1C idm
theorem b7O {g b:MQ} {N c:Nat} (hg:isM g N c):isM (sM g b) N N:=by
 unfold sM;rw[hg.len];exact(KQ hg.2.2.1 hg.2.2.2.1).sub
theorem b0j {a:MQ} {R C:Nat} (h:isM a R C) (x:List Rat):(a0e a x).length=C:=by unfold a0e;rw[h.wd];simp
end Go.Proofs.YtgplhbhfdgempaaGreat
