/-
  Lemmas for the theorem vestimables_holds, part 25 of 36.
-/
import Derived.Test.YtgplhbhfdgempaaGreatQe24
namespace Go.Proofs.YtgplhbhfdgempaaGreat
open Go Go.RowKit
set_option maxRecDepth 100000
set_option maxHeartbeats 1000000
set_option linter.unusedVariables false
set_option linter.unusedSimpArgs false
theorem b4Z {a b:MQ} (ha:okM a) (hb:okM b):jG [liftM a,liftM b]=0:=a5P fun m hm=>by
 rcases uo.mp hm with rfl|hm
 ·exact ha.chk
 ·rw[qh.mp hm];exact hb.chk
theorem a8M {a b:MQ} (ha:okM a) (hb:okM b):∀ m ∈ [liftM a,liftM b],iL m:=fun m hm=>by
 rcases uo.mp hm with rfl|hm
 ·exact ha.short
 ·rw[qh.mp hm];exact hb.short
theorem b1E {R C n:Nat} {f:Mt} (hn:n<=C):(red R (FN (aY R C f)) n).2=(red R f n).2/\∀ i,i<R->∀ c,c<C->(red R (FN (aY R C f)) n).1 i c=(red R f n).1 i c:=LM (fun i hi c hc=>TF hi hc) n hn
theorem VG {R C n:Nat} {f:Mt} (r1:1<=R) (r2:R<=1000) (c1:1<=C) (c2:C<=1000) (hn:n<=C) (H:FX R C f n):a5c (aY R C f) (n:Int):=by
 have hw:wdM (aY R C f)=C:=by show ((aY R C f).getD 0 []).length=C;rw[jH (by omega)];simp
 unfold a5c
 rw[aS,hw]
 refine⟨lU fun i hi j hj=>(TF hi hj).symm,r1,r2,c1,c2,by omega,by omega,fun t ht i hi c hc=>?_⟩
 rw[(b1E (by have:t<=n:=ht;omega)).2 i hi c hc]
 exact H t ht i hi c hc
def b5V:Ctr:=⟨[tI],[tM,tI],fun x=>1<=(show Int from x.1)/\(show Int from x.1)<=64,fun x=>(idM (show Int from x.1).toNat,(0:Int),())⟩
theorem a7X:aW Tryz.prog 99 b5V:=by
 refine bH ((((((((((nil0.an jT).an jV).an jU).ad EN).an yG).an yB).an yF).an yC).an yE).an yD) ⟨[],[],[]⟩ Tryz.func99 rfl (by decide) (fun x=>[]) (fun x hp=>?_)
 obtain⟨n,u⟩:=x
 change Int at n
 refine bP ((((decide (n<1)==false)=true->(decide (n<1)==false)=true/\True)/\(decide (n<1)=false->(decide (n<1)==false)=true)/\True)/\ifB (bif decide (n<1) then true else decide (n > 64)) (True/\aC (List Rat)=idM n.toNat/\True/\asT Int 2=0/\True) ((DI TUn a8k (n,n,(),())/\True)/\(eH (fun(x:Ty.den (Ty.list (Ty.lf Lf.dG)))=>bY (eH (fun(x:Ty.den (Ty.lf Lf.dG))=>bY ((aF.ok x=true)::aC Prop)) x::aC Prop)) (aY n.toNat n.toNat (gUn ()))/\True)/\List.map (fun(xs:Ty.den (Ty.list (Ty.lf Lf.dG)))=>List.map (fun(x:Ty.den (Ty.lf Lf.dG))=>aF.x x) xs) (aY n.toNat n.toNat (gUn ()))=idM n.toNat/\True/\asT Int 0=0/\True)) (by kernel_rfl) ?_
 have h:1<=n/\n<=64:=hp
 have e:n=(n.toNat:Int):=by omega
 exact⟨⟨fun h=>⟨h,trivial⟩,fun h=>by rw[h];rfl,trivial⟩,ifF (by rw[oq (by omega),oq (by omega)];rfl) ⟨⟨⟨n.toNat,n.toNat,e,e,by omega,by omega,fun i j _ _=>⟨ql _,ql _⟩⟩,trivial⟩,⟨uM _ _ _,trivial⟩,zX _ _ _,trivial,rfl,trivial⟩⟩
def c0N:Ctr:=⟨[tM,tM],[tI],fun x=>okM x.1/\okM x.2.1/\(show MQ from x.1).length=(show MQ from x.2.1).length/\wdM (show MQ from x.1)=wdM (show MQ from x.2.1),fun x=>((0:Int),())⟩
theorem a1R:aW Tryz.prog 113 c0N:=by
 refine bH (nil0.ad PI) ⟨[],[],[]⟩ Tryz.func113 rfl (by decide) (fun x=>[]) (fun x hp=>?_)
 obtain⟨a,b,u⟩:=x
 change List (List Rat) at a
 change List (List Rat) at b
 refine bP (let aQ:=(a::b::aC (List (List Rat)));let bZ:=(aB a.length != aB b.length);let A₀:=(bZ==false);let bK:=(A₀=true->A₀=true/\True);let dJ:=(Ty.list (Ty.lf Lf.rat));let A₁:=(fun(xs:Ty.den (Ty.list dJ))=>List.map (fun(xs:Ty.den dJ)=>List.map (fun(x:Ty.den (Ty.lf Lf.rat))=>fD x) xs) xs);let A₂:=(fun(x:Ty.den dJ)=>bY (eH (fun(x:Ty.den (Ty.lf Lf.rat))=>bY (aC Prop)) x::aC Prop));(((eH A₂ a/\True)/\(eH A₂ b/\True)/\True)/\(List.length (List.map A₁ aQ)<=1000000/\∀ (a_1:List (List aF)),a_1 ∈ List.map A₁ aQ->iL a_1)/\True)/\ifB (jG (List.map A₁ aQ) != 0) (True/\jG (List.map A₁ aQ)=0/\True) (((A₀=true->A₀=true/\asT Int 0<=0/\0<aB a.length/\True)/\bK/\bK/\(A₀=true->A₀=true/\asT Int 0<=0/\0<aB b.length/\True)/\bK/\bK/\(A₀=true->A₀=true/\A₀=true/\True)/\(bZ=false->A₀=true)/\True)/\ifB (bif aB a.length != aB b.length then true else aB (List.getD a 0 (aC Rat)).length != aB (List.getD b 0 (aC Rat)).length) (True/\asT Int 4=0/\True) (True/\asT Int 0=0/\True))) (by kernel_rfl) ?_
 have hp:okM a/\okM b/\a.length=b.length/\wdM a=wdM b:=hp
 obtain⟨ha,hb,hl,hw⟩:=hp
 have e:((a.length:Int) != (b.length:Int))=false:=by rw[hl];simp
 refine⟨⟨⟨⟨uI a,trivial⟩,⟨uI b,trivial⟩,trivial⟩,⟨by show 2<=1000000;omega,a8M ha hb⟩,trivial⟩,ifF (JE (b4Z ha hb)) ⟨?_,ifF ?_ ⟨trivial,rfl,trivial⟩⟩⟩
 ·dsimp only[aB,asT]
  rw[e]
  exact⟨fun _=>⟨rfl,xg 0,ha.poz,trivial⟩,fun h=>⟨h,trivial⟩,fun h=>⟨h,trivial⟩,fun _=>⟨rfl,xg 0,hb.poz,trivial⟩,fun h=>⟨h,trivial⟩,fun h=>⟨h,trivial⟩,fun h=>⟨h,h,trivial⟩,fun _=>rfl,trivial⟩
 ·dsimp only[aB]
  rw[e]
  show ((wdM a:Int) != (wdM b:Int))=false
  rw[hw];simp
def c0K:Ctr:=⟨[tM,tM],[tM,tI],fun x=>okM x.1/\okM x.2.1/\(show MQ from x.1).length=(show MQ from x.2.1).length/\wdM (show MQ from x.1)=wdM (show MQ from x.2.1),fun x=>(QB x.1 x.2.1,(0:Int),())⟩
def c1w:Ctr:=⟨[tM,tM],[tM,tI],fun x=>okM x.1/\okM x.2.1/\(show MQ from x.1).length=(show MQ from x.2.1).length/\wdM (show MQ from x.1)=wdM (show MQ from x.2.1),fun x=>(XH x.1 x.2.1,(0:Int),())⟩
def c4q:BJ:=.mk LKm [tM,tM] (fun x=>okM x.1/\okM x.2.1/\(show MQ from x.1).length=(show MQ from x.2.1).length) (fun x=>aY (show MQ from x.1).length (wdM (show MQ from x.1)+wdM (show MQ from x.2.1)) (jK (wdM (show MQ from x.1)) (ent x.1) (ent x.2.1)))
def IK (x:LQ'):MQ:=tab x.length 1 fun i _=>lv x i
def c3t:Ctr:=⟨[.list tQ],[tM],fun x=>1<=(show LQ' from x.1).length/\(show LQ' from x.1).length<=64,fun x=>(IK x.1,())⟩
theorem a8X:aW Tryz.prog 67 c0K:=by
 refine bH (((((((((((nil0.an jT).an jV).an jU).ad XR).an yG).an yB).an yF).an yC).an yE).an yD).ad a1R) ⟨[],[],[]⟩ Tryz.func67 rfl (by decide) (fun x=>[]) (fun x hp=>?_)
 obtain⟨a,b,u⟩:=x
 change List (List Rat) at a
 change List (List Rat) at b
 refine bP (((okM a/\okM b/\List.length a=List.length b/\wdM a=wdM b)/\True)/\(asT Int 0<=0/\0<aB a.length/\DI TAd b4i (aB a.length,aB (List.getD a 0 (aC Rat)).length,(a,b,()),())/\True)/\(eH (fun(x:Ty.den (Ty.list (Ty.lf Lf.dG)))=>bY (eH (fun(x:Ty.den (Ty.lf Lf.dG))=>bY ((aF.ok x=true)::aC Prop)) x::aC Prop)) (aY (aB a.length).toNat (aB (List.getD a 0 (aC Rat)).length).toNat (gAd (a,b,())))/\True)/\List.map (fun(xs:Ty.den (Ty.list (Ty.lf Lf.dG)))=>List.map (fun(x:Ty.den (Ty.lf Lf.dG))=>aF.x x) xs) (aY (aB a.length).toNat (aB (List.getD a 0 (aC Rat)).length).toNat (gAd (a,b,())))=QB a b/\True/\asT Int 0=0/\True) (by kernel_rfl) ?_
 have hp':okM a/\okM b/\a.length=b.length/\wdM a=wdM b:=hp
 obtain⟨ha,hb,hl,hw⟩:=hp'
 refine⟨⟨hp,trivial⟩,⟨xg 0,ha.poz,⟨a.length,wdM a,rfl,rfl,by have:=ha.r64;omega,by have:=ha.c64;omega,fun i j hi hj=>?_⟩,trivial⟩,⟨uM _ _ _,trivial⟩,zX _ _ _,trivial,rfl,trivial⟩
 have hj:j<wdM a:=hj
 have hi:i<a.length:=hi
 have h1:=ha.2 i hi j hj
 have h2:=hb.2 i (by omega) j (by omega)
 exact⟨⟨ql i,hi,by show i<b.length;omega,ql j,by show j<(a.getD i []).length;rw[ha.row hi];exact hj,by show j<(b.getD i []).length;rw[hb.row (by omega)];omega⟩,by show rsz (ent a i j)<=_;omega,by show rsz (ent b i j)<=_;omega⟩
theorem b2t:aW Tryz.prog 100 c1w:=by
 refine bH (((((((((((nil0.an jT).an jV).an jU).ad XZ).an yG).an yB).an yF).an yC).an yE).an yD).ad a1R) ⟨[],[],[]⟩ Tryz.func100 rfl (by decide) (fun x=>[]) (fun x hp=>?_)
 obtain⟨a,b,u⟩:=x
 change List (List Rat) at a
 change List (List Rat) at b
 refine bP (((okM a/\okM b/\List.length a=List.length b/\wdM a=wdM b)/\True)/\(asT Int 0<=0/\0<aB a.length/\DI TSb b4p (aB a.length,aB (List.getD a 0 (aC Rat)).length,(a,b,()),())/\True)/\(eH (fun(x:Ty.den (Ty.list (Ty.lf Lf.dG)))=>bY (eH (fun(x:Ty.den (Ty.lf Lf.dG))=>bY ((aF.ok x=true)::aC Prop)) x::aC Prop)) (aY (aB a.length).toNat (aB (List.getD a 0 (aC Rat)).length).toNat (gSb (a,b,())))/\True)/\List.map (fun(xs:Ty.den (Ty.list (Ty.lf Lf.dG)))=>List.map (fun(x:Ty.den (Ty.lf Lf.dG))=>aF.x x) xs) (aY (aB a.length).toNat (aB (List.getD a 0 (aC Rat)).length).toNat (gSb (a,b,())))=XH a b/\True/\asT Int 0=0/\True) (by kernel_rfl) ?_
 have hp':okM a/\okM b/\a.length=b.length/\wdM a=wdM b:=hp
 obtain⟨ha,hb,hl,hw⟩:=hp'
 refine⟨⟨hp,trivial⟩,⟨xg 0,ha.poz,⟨a.length,wdM a,rfl,rfl,by have:=ha.r64;omega,by have:=ha.c64;omega,fun i j hi hj=>?_⟩,trivial⟩,⟨uM _ _ _,trivial⟩,zX _ _ _,trivial,rfl,trivial⟩
 have hj:j<wdM a:=hj
 have hi:i<a.length:=hi
 have h1:=ha.2 i hi j hj
 have h2:=hb.2 i (by omega) j (by omega)
 exact⟨⟨ql i,hi,by show i<b.length;omega,ql j,by show j<(a.getD i []).length;rw[ha.row hi];exact hj,by show j<(b.getD i []).length;rw[hb.row (by omega)];omega⟩,by show rsz (ent a i j)<=_;omega,by show rsz (ent b i j)<=_;omega⟩
theorem b5i:NOk Tryz.prog 103 c4q:=by
 refine rP ((((((((((nil0.an jT).an jV).an jU).ad XT).an yG).an yB).an yF).an yC).an yE).an yD) ⟨[],[],[]⟩ Tryz.func103 rfl (by decide) (fun x=>[]) (fun x hp=>?_)
 obtain⟨a,b,u⟩:=x
 change List (List Rat) at a
 change List (List Rat) at b
 refine bP ((asT Int 0<=0/\0<aB a.length/\asT Int 0<=0/\0<aB b.length/\DI TBe b4j (aB a.length,IntKind.wrap IntKind.i64 (aB (List.getD a 0 (aC Rat)).length+aB (List.getD b 0 (aC Rat)).length),(a,b,()),())/\True)/\aY a.length (wdM a+wdM b) (jK (wdM a) (ent a) (ent b))=aY (aB a.length).toNat (IntKind.wrap IntKind.i64 (aB (List.getD a 0 (aC Rat)).length+aB (List.getD b 0 (aC Rat)).length)).toNat (gBe (a,b,()))) (by kernel_rfl) ?_
 have hp:okM a/\okM b/\a.length=b.length:=hp
 obtain⟨ha,hb,hl⟩:=hp
 have q1:=ha.c64
 have q2:=hb.c64
 have q3:=ha.r64
 have e:IntKind.wrap .i64 ((wdM a:Int)+(wdM b:Int))=((wdM a+wdM b:Nat):Int):=by rw[aZ (by omega) (by omega)];rfl
 dsimp only[aB,asT,aA,aC]
 rw[show (a.getD 0 []).length=wdM a from rfl,show (b.getD 0 []).length=wdM b from rfl,e]
 refine⟨⟨xg 0,ha.poz,xg 0,hb.poz,⟨a.length,wdM a+wdM b,rfl,rfl,by omega,by omega,fun i j hi hj=>?_⟩,trivial⟩,rfl⟩
 exact⟨ql i,hi,by show i<b.length;omega,ql j,by show a.length<=1000;omega,ha.row hi,by show j<wdM a+(b.getD i []).length;rw[hb.row (by omega)];exact hj,by omega⟩
theorem b3h:aW Tryz.prog 104 c3t:=by
 refine bH ((((((((((nil0.an jT).an jV).an jU).ad XU).an yG).an yB).an yF).an yC).an yE).an yD) ⟨[],[],[]⟩ Tryz.func104 rfl (by decide) (fun x=>[]) (fun x hp=>?_)
 obtain⟨a,u⟩:=x
 change List Rat at a
 refine bP ((DI TCl b4k (aB a.length,1,(a,()),())/\True)/\(eH (fun(x:Ty.den (Ty.list (Ty.lf Lf.dG)))=>bY (eH (fun(x:Ty.den (Ty.lf Lf.dG))=>bY ((aF.ok x=true)::aC Prop)) x::aC Prop)) (aY (aB a.length).toNat 1 (gCl (a,())))/\True)/\List.map (fun(xs:Ty.den (Ty.list (Ty.lf Lf.dG)))=>List.map (fun(x:Ty.den (Ty.lf Lf.dG))=>aF.x x) xs) (aY (aB a.length).toNat 1 (gCl (a,())))=IK a/\True) (by kernel_rfl) ?_
 have hp:1<=a.length/\a.length<=64:=hp
 exact⟨⟨⟨a.length,1,rfl,rfl,by omega,by omega,fun i j hi _=>⟨ql i,hi⟩⟩,trivial⟩,⟨uM _ _ _,trivial⟩,zX _ _ _,trivial⟩
def c3v:Ctr:=⟨[tM],[tM,.list tI,tI],fun x=>okE x.1,fun x=>(JY x.1,dA (lN x.1),(0:Int),())⟩
theorem a5Y:aW Tryz.prog 90 c3v:=by
 refine bH (((nil0.ad pJ).an a9A).an b1F) ⟨[],[],[]⟩ Tryz.func90 rfl (by decide) (fun x=>[]) (fun x hp=>?_)
 obtain⟨a,u⟩:=x
 change List (List Rat) at a
 refine bP (let A₀:=(aY a.length (wdM a) (ent a));let A₁:=(List.map (fun(xs:Ty.den (Ty.list (Ty.lf Lf.rat)))=>List.map (fun(x:Ty.den (Ty.lf Lf.rat))=>fD x) xs) a);let A₂:=(aB (rowAt A₀ 0).length);let aQ:=(aY A₀.length (wdM A₀) (rdm A₀ A₂.toNat));(eH (fun(x:Ty.den (Ty.list (Ty.lf Lf.rat)))=>bY (eH (fun(x:Ty.den (Ty.lf Lf.rat))=>bY (aC Prop)) x::aC Prop)) a/\iL A₁/\True)/\ifB (eP A₁ != 0) (True/\aC (List Rat)=JY a/\True/\aC Int=dA (lN a)/\True/\eP A₁=0/\True) ((okM a/\True)/\(asT Int 0<=0/\0<aB (aH none A₀)/\0<aH none A₀/\a5c A₀ A₂/\True)/\(eH (fun(x:Ty.den (Ty.list (Ty.lf Lf.dG)))=>bY (eH (fun(x:Ty.den (Ty.lf Lf.dG))=>bY ((aF.ok x=true)::aC Prop)) x::aC Prop)) aQ/\True)/\List.map (fun(xs:Ty.den (Ty.list (Ty.lf Lf.dG)))=>List.map (fun(x:Ty.den (Ty.lf Lf.dG))=>aF.x x) xs) aQ=JY a/\True/\dA (rdp A₀ A₂.toNat)=dA (lN a)/\True/\asT Int 0=0/\True)) (by kernel_rfl) ?_
 have hE:okE a:=hp
 have ha:=hE.1
 have hr:((aY a.length (wdM a) (ent a)).getD 0 []).length=wdM a:=by rw[jH ha.pos];simp
 have hw:wdM (aY a.length (wdM a) (ent a))=wdM a:=hr
 have hc:=b1E (R:=a.length) (f:=ent a) (aj (wdM a))
 dsimp only[aB,asT,aA,aC] at *
 refine⟨⟨uI a,ha.short,trivial⟩,ifF (JE ha.chk) ⟨⟨ha,trivial⟩,?_⟩⟩
 simp only[aH,rowAt,aS,hr,hw,Int.toNat_natCast]
 refine⟨⟨xg 0,ha.poz,ha.pos,VG ha.pos (by have:=ha.r64;omega) ha.c1 (by have:=ha.c64;omega) (aj _) hE.2,trivial⟩,⟨uM _ _ _,trivial⟩,(zX _ _ _).trans ?_,trivial,?_,trivial,trivial,trivial⟩
 ·show tab _ _ (red (aY a.length (wdM a) (ent a)).length _ _).1=_
  rw[aS]
  exact fU fun i hi j hj=>hc.2 i hi j hj
 ·show dA (red (aY a.length (wdM a) (ent a)).length _ _).2=_
  rw[aS,hc.1];rfl
def c1s:Ctr:=⟨[tM],[tI,tI],fun x=>okE x.1,fun x=>((rkM x.1:Int),(0:Int),())⟩
theorem b1x:aW Tryz.prog 97 c1s:=by
 refine bH (nil0.ad a5Y) ⟨[],[],[]⟩ Tryz.func97 rfl (by decide) (fun x=>[]) (fun x hp=>?_)
 obtain⟨a,u⟩:=x
 change List (List Rat) at a
 refine bP ((okE a/\True)/\True/\aB (dA (lN a)).length=aB (rkM a)/\True/\asT Int 0=0/\True) (by kernel_rfl) ?_
 have hE:okE a:=hp
 exact⟨⟨hE,trivial⟩,trivial,by rw[sO];rfl,trivial,rfl,trivial⟩
theorem c2S:aW Tryz.prog 93 (cQ1 s4 (fun x=>-x)):=(b5W fun v x w a h=>a3c v true x w a.raw (a.qn (jg h (by omega))))
abbrev LI':Type:=List Int
def c3B:Ctr:=⟨[.list tI,tI],[tI],fun x=>(show LI' from x.1).length<=1000000,fun x=>(BA (fun q:Int=>q==(show Int from x.2.1)) (show LI' from x.1),())⟩
theorem b3L:aW Tryz.prog 138 c3B:=by
 refine bH nil0 ⟨[],[],[]⟩ Tryz.func138 rfl (by decide) (fun x=>[.inv {k:Nat // k<=(show LI' from x.1).length/\((show LI' from x.1).take k).any (fun q:Int=>q==(show Int from x.2.1))=false} (fun k=>[(8,.val tI (k.1:Int))]) (fun k=>[]) (fun k=>(show LI' from x.1).length-k.1) ⟨0,by omega,rfl⟩ (fun _=>[])]) (fun x hp=>?_)
 obtain⟨x,v,u⟩:=x
 change List Int at x
 change Int at v
 refine bP ((asT Int 0=0/\True)/\∀ (i:{ k:Nat // k<=List.length x/\(List.any (List.take k x) fun(q:Int)=>q==v)=false }),asT Bool true=true/\ifB (decide (aB (aA i)<aB x.length)) ((0<=aB (aA i)/\aB (aA i)<aB x.length/\True)/\ifB (v==List.getD x (aB (aA i)).toNat 0) (True/\aB (aA i)=BA (fun(q:Int)=>q==v) x/\True) (∃ (i':{ k:Nat // k<=List.length x/\(List.any (List.take k x) fun(q:Int)=>q==v)=false }),List.length x-aA i'<List.length x-aA i/\IntKind.wrap IntKind.i64 (aB (aA i)+1)=aB (aA i')/\True)) (True/\-1=BA (fun(q:Int)=>q==v) x/\True)) (by kernel_rfl) ?_
 have hZ:(⟨false,0,[],[]⟩:aF)=bU:=rfl
 dsimp only[aB,asT,aA,aC,Ty.den,Lf.den] at *
 simp only[hZ,Int.toNat_natCast,aT,ay,au,oh,ny,aH,nameAt,aV,aS,bF,rowAt,iw,gy]
 have hp:x.length<=1000000:=hp
 refine fun i=>⟨fun h1=>⟨⟨by omega,h1⟩,fun h2=>?_,fun h2=>⟨⟨i.1+1,by omega,?_⟩,by simp only;omega,by rw[aZ (by omega) (by omega)];rfl⟩⟩,fun h1=>?_⟩
 ·have e:v=x.getD i.1 0:=eq_of_beq h2
  exact(TJ (d:=0) (by omega) i.2.2 (by show (x.getD i.1 0==v)=true;rw[<-e];exact beq_self_eq_true v)).symm
 ·have e:(x.getD i.1 0==v)=false:=by rw[jo] at h2 ⊢;exact fun e=>h2 e.symm
  rw[mO (d:=0) (by omega),i.2.2,e];rfl
 ·have h3:=i.2.2
  rw[jd (by omega)] at h3
  exact(a0F h3).symm
def c3A:Ctr:=⟨[.list tI,tI],[tB],fun x=>(show LI' from x.1).length<=1000000,fun x=>((show LI' from x.1).any (fun q:Int=>q==(show Int from x.2.1)),())⟩
theorem b3x:aW Tryz.prog 91 c3A:=by
 refine bH (nil0.ad b3L) ⟨[],[],[]⟩ Tryz.func91 rfl (by decide) (fun x=>[]) (fun x hp=>?_)
 obtain⟨x,v,u⟩:=x
 change List Int at x
 change Int at v
 refine bP ((List.length x<=1000000/\True)/\True/\(decide (BA (fun(q:Int)=>q==v) x ≥ 0)=List.any x fun(q:Int)=>q==v)/\True) (by kernel_rfl) ?_
 have hZ:(⟨false,0,[],[]⟩:aF)=bU:=rfl
 dsimp only[aB,asT,aA,aC,Ty.den,Lf.den] at *
 simp only[hZ,Int.toNat_natCast,aT,ay,au,oh,ny,aH,nameAt,aV,aS,bF,rowAt,iw,gy]
 exact⟨hp,TK _ _⟩
def b7a (a:MQ) (j:Nat):LR:=(List.range (wdM a)).map fun c=>fD (QF (JF a (wdM a)).1 (lN a) j c)
def KZ (a:MQ) (j c:Nat):LR:=(List.range (wdM a)).map fun d=>if d<c then fD (idm d j) else bU
def FW (a:MQ) (j t:Nat):LR:=(List.range (wdM a)).map fun d=>fD (if d ∈ (lN a).take t then-(JF a (wdM a)).1 ((lN a).idxOf d) j else idm d j)
def sS (a:MQ) (j:Nat):MR:=(frees j (lN a)).map (b7a a)
theorem a8g (a:MQ) (j:Nat):KZ a j 0=List.replicate (wdM a) bU:=by
 unfold KZ;apply Bh<;>simp
theorem b1d (a:MQ) (j c:Nat):(KZ a j c).set c (fD (gUn () c j))=KZ a j (c+1):=by
 unfold KZ;rw[map_set]
 refine jl fun d _=>?_
 by_cases e:d=c
 ·rw[ig e,ig (by omega),e];rfl
 ·rw[iq e]
  by_cases e2:d<c
  ·rw[ig e2,ig (by omega)]
  ·rw[iq e2,iq (by omega)]
theorem b1c (a:MQ) (j:Nat):KZ a j (wdM a)=FW a j 0:=by
 unfold KZ FW
 refine jl fun d hd=>?_
 rw[ig (vk.mp hd)];simp
theorem b1f {a:MQ} {j t:Nat} (hd:(lN a).Nodup) (ht:t<(lN a).length):(FW a j t).set (lN a)[t] (fD (- (JF a (wdM a)).1 t j))=FW a j (t+1):=by
 unfold FW;rw[map_set]
 refine jl fun d _=>?_
 by_cases e:d=(lN a)[t]
 ·rw[ig e,ig ((yN ht).mpr (.inr e)),e,xX hd ht]
 ·rw[iq e]
  by_cases e2:d ∈ (lN a).take t
  ·rw[ig e2,ig ((yN ht).mpr (.inl e2))]
  ·rw[iq e2,iq (fun h=>((yN ht).mp h).elim e2 e)]
theorem b1e (a:MQ) {j:Nat} (hj:j ∉ lN a):FW a j (lN a).length=b7a a j:=by
 unfold FW b7a
 refine jl fun d _=>?_
 rw[List.take_length]
 unfold QF
 by_cases e:d=j
 ·rw[iq (by rw[e];exact hj),ig e];show fD (if d=j then 1 else 0)=_;rw[ig e]
 ·rw[iq e]
  by_cases e2:d ∈ lN a
  ·rw[ig e2,ig e2]
  ·rw[iq e2,iq e2];show fD (if d=j then 1 else 0)=_;rw[iq e]
def c1m:Ctr:=⟨[tM],[tM,tI],fun x=>okE x.1,fun x=>(sU x.1,(0:Int),())⟩
theorem a8h:aW Tryz.prog 51 c1m:=by
 refine bH ((((nil0.ad EN).ad a5Y).ad c2S).ad b3x) ⟨[],[],[]⟩ Tryz.func51 rfl (by decide) (fun x=>[.inv {j:Nat // j<=wdM (show MQ from x.1)} (fun j=>[(26,.val tI (j.1:Int)),(7,.own 71 0)]++[(8,.any),(9,.any),(10,.any),(11,.any),(12,.any),(27,.any),(28,.any),(29,.any),(30,.any),(31,.any),(32,.any),(33,.any),(34,.any),(35,.any),(36,.any),(37,.any),(38,.any),(39,.any),(40,.any),(41,.any),(42,.any),(43,.any),(44,.any),(45,.any),(46,.any),(47,.any),(48,.any),(49,.any),(50,.any),(51,.any),(52,.any),(53,.any),(54,.any),(55,.any),(56,.any),(57,.any),(58,.any),(59,.any),(60,.any),(61,.any),(62,.any),(63,.any),(64,.any),(65,.any),(66,.any),(67,.any),(68,.any),(69,.any),(70,.any),(71,.any),(72,.any)]) (fun j=>[(71,.row 32 (.list tR) (sS (show MQ from x.1) j.1) 0)]) (fun j=>wdM (show MQ from x.1)-j.1) ⟨0,by omega⟩ (fun j=>[
  .inv {c:Nat // c<=wdM (show MQ from x.1)} (fun c=>[(39,.val tI (c.1:Int))]) (fun c=>[(71,.row 32 (.list tR) (sS (show MQ from x.1) j.1) 0),(36,.row 64 tR (KZ (show MQ from x.1) j.1 c.1) 0)]) (fun c=>wdM (show MQ from x.1)-c.1) ⟨0,by omega⟩ (fun _=>[]),
  .inv {t:Nat // t<=(lN (show MQ from x.1)).length} (fun t=>[(51,.val tI (t.1:Int))]) (fun t=>[(71,.row 32 (.list tR) (sS (show MQ from x.1) j.1) 0),(36,.row 64 tR (FW (show MQ from x.1) j.1 t.1) 0)]) (fun t=>(lN (show MQ from x.1)).length-t.1) ⟨0,by omega⟩ (fun _=>[])])]) (fun x hp=>?_)
 obtain⟨a,u⟩:=x
 change List (List Rat) at a
 refine bP (let A₀:=(List.getD (JY a) 0 (aC Rat)).length;let A₁:=(JY a).length;let A₂:=(dA (lN a)).length;(okE a/\True)/\(asT Int 0<=0/\0<aB A₁/\True)/\(asT Int 0=0/\(True/\asT (List (List aF)) (aC (List aF))=aC (List aF))/\(asT (List (List aF)) (aC (List aF))=aC (List aF)/\0=0/\asT Bool true=true)/\True)/\∀ (i:{ j:Nat // j<=wdM a }),let aQ:=(aB (aA i)).toNat;asT Bool true=true/\ifB (decide (aB (aA i)<aB A₀)) ((List.length (dA (lN a))<=1000000/\True)/\ifB (List.any (dA (lN a)) fun(q:Int)=>q==aB (aA i)) (∃ (i':{ j:Nat // j<=wdM a }),wdM a-aA i'<wdM a-aA i/\IntKind.wrap IntKind.i64 (aB (aA i)+1)=aB (aA i')/\sS a (aA i)=sS a (aA i')/\True) ((asT Int 0<=0/\0<aB A₁/\aB A₀=aB A₀/\0<=aB A₀/\aB A₀<=1000000000/\True)/\(asT Int 0=0/\sS a (aA i)=sS a (aA i)/\List.replicate (aB A₀).toNat bU=KZ a (aA i) 0/\True)/\∀ (i_1:{ c:Nat // c<=wdM a }),let bK:=(KZ a (aA i) (aA i_1));let bZ:=(aB (aA i_1)).toNat;asT Bool true=true/\ifB (decide (aB (aA i_1)<aB (List.replicate (aB A₀).toNat bU).length)) ((a8k () (aB (aA i_1)) (aB (aA i))/\0<=aB (aA i_1)/\aB (aA i_1)<aB bK.length/\Int.toNat (aB (aA i_1))<List.length bK/\True)/\∃ (i':{ c:Nat // c<=wdM a }),wdM a-aA i'<wdM a-aA i_1/\IntKind.wrap IntKind.i64 (aB (aA i_1)+1)=aB (aA i')/\sS a (aA i)=sS a (aA i)/\List.set bK bZ (fD (gUn () bZ aQ))=KZ a (aA i) (aA i')/\True) ((asT Int 0=0/\sS a (aA i)=sS a (aA i)/\KZ a (aA i) (aA i_1)=FW a (aA i) 0/\True)/\∀ (i_2:{ t:Nat // t<=List.length (lN a) }),let dJ:=(aB (aA i_2)).toNat;let dS:=(List.getD (JY a) dJ (aC Rat));let gB:=(FW a (aA i) (aA i_2));let gQ:=(List.getD (dA (lN a)) dJ 0);asT Bool true=true/\ifB (decide (aB (aA i_2)<aB A₂)) ((0<=aB (aA i_2)/\aB (aA i_2)<aB A₂/\True)/\(0<=aB (aA i_2)/\aB (aA i_2)<aB A₁/\0<=aB (aA i)/\aB (aA i)<aB dS.length/\s4 (List.getD dS aQ 0)/\0<=List.getD (dA (lN a)) dJ 0/\List.getD (dA (lN a)) dJ 0<aB gB.length/\Int.toNat gQ<List.length gB/\True)/\∃ (i':{ t:Nat // t<=List.length (lN a) }),List.length (lN a)-aA i'<List.length (lN a)-aA i_2/\IntKind.wrap IntKind.i64 (aB (aA i_2)+1)=aB (aA i')/\sS a (aA i)=sS a (aA i)/\List.set gB gQ.toNat (fD (-List.getD dS aQ 0))=FW a (aA i) (aA i')/\True) ((List.length (sS a (aA i))+List.length (FW a (aA i) (aA i_2)::aC (List aF))<=1000000000/\True)/\∃ (i':{ j:Nat // j<=wdM a }),wdM a-aA i'<wdM a-aA i/\IntKind.wrap IntKind.i64 (aB (aA i)+1)=aB (aA i')/\sS a (aA i)++FW a (aA i) (aA i_2)::aC (List aF)=sS a (aA i')/\True)))) ((eH (fun(x:Ty.den (Ty.list (Ty.lf Lf.dG)))=>bY (eH (fun(x:Ty.den (Ty.lf Lf.dG))=>bY ((aF.ok x=true)::aC Prop)) x::aC Prop)) (sS a (aA i))/\True)/\List.map (fun(xs:Ty.den (Ty.list (Ty.lf Lf.dG)))=>List.map (fun(x:Ty.den (Ty.lf Lf.dG))=>aF.x x) xs) (sS a (aA i))=sU a/\True/\asT Int 0=0/\True)) (by kernel_rfl) ?_
 have hZ:(⟨false,0,[],[]⟩:aF)=bU:=rfl
 dsimp only[aB,asT,aA,aC,Ty.den,Lf.den] at *
 simp only[hZ,Int.toNat_natCast,aT,ay,au,oh,ny,aH,nameAt,aV,aS,bF,rowAt,iw,gy]
 have hE:okE a:=hp
 have ha:=hE.1
 have q1:=ha.r64
 have q2:=ha.c64
 have q3:=ha.pos
 have E:Ech a.length (ent a) (wdM a) (JF a (wdM a)).1 (lN a):=jD a.length (ent a) (wdM a)
 have hle:=E.le
 have l1:(JY a).length=a.length:=bF
 have l2:∀ i,i<a.length->(List.getD (JY a) i []).length=wdM a:=fun i hi=>by unfold JY;rw[jM hi];simp
 have l3:∀ i,i<a.length->∀ c,c<wdM a->(List.getD (JY a) i []).getD c 0=(JF a (wdM a)).1 i c:=fun i hi c hc=>by unfold JY;rw[jM hi,gZ hc]
 simp only[l1,l2 0 q3,sO]
 refine⟨hE,⟨xg 0,by omega⟩,fun j=>⟨fun h1=>⟨by omega,fun h2=>?_,fun h2=>⟨⟨xg 0,by omega,by omega,by omega⟩,?_,fun c=>⟨fun h3=>?_,fun h3=>⟨?_,fun t=>⟨fun h4=>?_,fun h4=>?_⟩⟩⟩⟩⟩,fun h1=>?_⟩⟩
 ·rw[a2I] at h2
  have h2:=ru h2
  refine⟨⟨j.1+1,by omega⟩,by simp only;omega,by rw[aZ (by omega) (by omega)];rfl,?_⟩
  show sS a j.1=sS a (j.1+1)
  unfold sS;rw[a9Q h2]
 ·exact(a8g a j.1).symm
 ·rw[Aa] at h3
  have hc:c.1<wdM a:=by omega
  have l4:(KZ a j.1 c.1).length=wdM a:=by simp[KZ]
  rw[l4]
  exact⟨⟨⟨ql _,ql _⟩,by omega,by omega,hc⟩,⟨c.1+1,by omega⟩,by simp only;omega,by rw[aZ (by omega) (by omega)];rfl,b1d a j.1 c.1⟩
 ·rw[Aa] at h3
  have hc:c.1=wdM a:=by have:=c.2;omega
  rw[hc];exact b1c a j.1
 ·have ht:t.1<(lN a).length:=by omega
  have hm:=jv ht
  have hp:=E.lt _ hm
  have e1:(dA (lN a)).getD t.1 0=((lN a)[t.1]:Int):=by unfold dA;simp[bf,ht]
  have l4:(FW a j.1 t.1).length=wdM a:=by simp[FW]
  have hj:j.1<wdM a:=by omega
  rw[l2 t.1 (by omega),l3 t.1 (by omega) j.1 hj,e1,l4,Int.toNat_natCast]
  have z:=hE.2 (wdM a) (aj _) t.1 (by omega) j.1 hj
  refine⟨⟨by omega,by omega⟩,⟨by omega,by omega,by omega,by omega,by show rsz ((JF a (wdM a)).1 t.1 j.1)<=_;unfold JF;omega,by omega,by omega,hp⟩,⟨t.1+1,by omega⟩,by simp only;omega,by rw[aZ (by omega) (by omega)];rfl,b1f E.nd ht⟩
 ·have ht:t.1=(lN a).length:=by have:=t.2;omega
  rw[a2I] at h2
  have h2:=Ce h2
  have hfl:(frees j.1 (lN a)).length<=j.1:=by unfold frees;have:=List.length_filter_le (fun c=>decide (c ∉ lN a)) (List.range j.1);simpa using this
  refine⟨by unfold sS;rw[uj];simp;omega,⟨j.1+1,by omega⟩,by simp only;omega,by rw[aZ (by omega) (by omega)];rfl,?_⟩
  show sS a j.1++[FW a j.1 t.1]=sS a (j.1+1)
  unfold sS
  rw[a7R h2,List.map_append,ht,b1e a h2];rfl
 ·have hj:j.1=wdM a:=by have:=j.2;omega
  rw[hj]
  refine⟨lX.mpr fun r hr=>⟨lX.mpr fun q hq=>?_,trivial⟩,?_⟩
  ·obtain⟨s,_,rfl⟩:=ug.mp hr
   obtain⟨c,_,rfl⟩:=zI hq
   exact⟨rfl,trivial⟩
  ·unfold sS sU
   rw[List.map_map]
   exact jl fun s _=>a2Y _ _
def c1e:Ctr:=⟨[.ref tM],[tI],fun x=>0<(show MQ from x.1).length,fun x=>((wdM (show MQ from x.1):Int),())⟩
def c1f:Ctr:=⟨[.ref tM],[tI],fun x=>True,fun x=>(((show MQ from x.1).length:Int),())⟩
theorem a2P:aW Tryz.prog 106 c1e:=by
 refine bH nil0 ⟨[],[],[]⟩ Tryz.func106 rfl (by decide) (fun x=>[]) (fun x hp=>?_)
 obtain⟨a,u⟩:=x
 change List (List Rat) at a
 refine bP ((asT Int 0<=0/\0<aB a.length/\True)/\True/\aB (List.getD a 0 (aC Rat)).length=aB (wdM a)/\True) (by kernel_rfl) ?_
 have hZ:(⟨false,0,[],[]⟩:aF)=bU:=rfl
 dsimp only[aB,asT,aA,aC,Ty.den,Lf.den] at *
 simp only[hZ,Int.toNat_natCast,aT,ay,au,oh,ny,aH,nameAt,aV,aS,bF,rowAt,iw,gy]
 have hp:0<a.length:=hp
 exact⟨xg 0,by omega⟩
theorem a2R:aW Tryz.prog 102 c1f:=by
 refine bH nil0 ⟨[],[],[]⟩ Tryz.func102 rfl (by decide) (fun x=>[]) (fun x hp=>?_)
 obtain⟨a,u⟩:=x
 change List (List Rat) at a
 refine bP (True/\aB a.length=aB a.length/\True) (by kernel_rfl) ?_
 have hZ:(⟨false,0,[],[]⟩:aF)=bU:=rfl
 dsimp only[aB,asT,aA,aC,Ty.den,Lf.den] at *
 simp only[hZ,Int.toNat_natCast,aT,ay,au,oh,ny,aH,nameAt,aV,aS,bF,rowAt,iw,gy]
def c1h:Ctr:=⟨[tM,.list tQ,.clo 106 (.pair (.ref tM) .unit)],[tI],fun x=>okM x.1/\(∀ q ∈ (show LQ' from x.2.1),rsz q<=100000000)/\(show MQ from x.2.2.1.1)=(show MQ from x.1)/\(show LQ' from x.2.1).length=wdM (show MQ from x.1),fun x=>((0:Int),())⟩
def c1i:Ctr:=⟨[tM,.list tQ,.clo 102 (.pair (.ref tM) .unit)],[tI],fun x=>okM x.1/\(∀ q ∈ (show LQ' from x.2.1),rsz q<=100000000)/\(show MQ from x.2.2.1.1)=(show MQ from x.1)/\(show LQ' from x.2.1).length=(show MQ from x.1).length,fun x=>((0:Int),())⟩
theorem a2V:aW Tryz.prog 101 c1h:=by
 refine bH ((((nil0.ad mY).ad pJ).ad mY).ad a2P) ⟨[],[],[]⟩ Tryz.func101 rfl (by decide) (fun x=>[]) (fun x hp=>?_)
 obtain⟨a,x,⟨b,v⟩,u⟩:=x
 change List (List Rat) at a
 change List Rat at x
 change List (List Rat) at b
 refine bP (let A₁:=(fun(x:Ty.den (Ty.lf Lf.rat))=>fD x);let A₀:=(List.map (fun(xs:Ty.den (Ty.list (Ty.lf Lf.rat)))=>List.map A₁ xs) a);(eH (fun(x:Ty.den (Ty.list (Ty.lf Lf.rat)))=>bY (eH (fun(x:Ty.den (Ty.lf Lf.rat))=>bY (aC Prop)) x::aC Prop)) a/\iL A₀/\True)/\ifB (eP A₀ != 0) (True/\eP A₀=0/\True) ((eH (fun(x:Ty.den (Ty.lf Lf.rat))=>bY (aC Prop)) x/\(List.length (List.map A₁ x)<=1000000/\∀ (q:aF),q ∈ List.map A₁ x->tX q)/\True)/\ifB (!!List.any (List.map A₁ x) fun(q:aF)=>!aF.ok q) (True/\asT Int 1=0/\True) ((0<List.length b/\True)/\ifB (aB x.length != aB (wdM b)) (True/\asT Int 4=0/\True) (True/\asT Int 0=0/\True)))) (by kernel_rfl) ?_
 have hZ:(⟨false,0,[],[]⟩:aF)=bU:=rfl
 dsimp only[aB,asT,aA,aC,Ty.den,Lf.den] at *
 simp only[hZ,Int.toNat_natCast,aT,ay,au,oh,ny,aH,nameAt,aV,aS,bF,rowAt,iw,gy]
 have hp:okM a/\(∀ q ∈ x,rsz q<=100000000)/\b=a/\x.length=wdM a:=hp
 obtain⟨ha,sx,rfl,hx⟩:=hp
 have q1:=ha.r64
 have q2:=ha.c64
 have e1:=JE ha.chk
 have e2:(List.map (fun x=>fD x) x).any (fun q=>!q.ok)=false:=yj.mpr fun q hq=>by
  obtain⟨y,_,rfl⟩:=ug.mp hq;simp[fD]
 refine⟨⟨uI b,ha.short⟩,fun h=>absurd (h.symm.trans e1) (by decide),fun h=>⟨⟨a0j x,by rw[uj];omega,fun q hq=>?_⟩,fun h2=>?_,fun h2=>⟨ha.pos,fun h3=>by rw[hx] at h3;simp at h3,fun _=>trivial⟩⟩⟩
 ·obtain⟨y,hy,rfl⟩:=ug.mp hq
  have:=sx y hy
  have ⟨h3,h4⟩:=NY y
  exact⟨by omega,by omega⟩
 ·rw[e2] at h2;cases h2
theorem a2W:aW Tryz.prog 101 c1i:=by
 refine bH ((((nil0.ad mY).ad pJ).ad mY).ad a2R) ⟨[],[],[]⟩ Tryz.func101 rfl (by decide) (fun x=>[]) (fun x hp=>?_)
 obtain⟨a,x,⟨b,v⟩,u⟩:=x
 change List (List Rat) at a
 change List Rat at x
 change List (List Rat) at b
 refine bP (let A₁:=(fun(x:Ty.den (Ty.lf Lf.rat))=>fD x);let A₀:=(List.map (fun(xs:Ty.den (Ty.list (Ty.lf Lf.rat)))=>List.map A₁ xs) a);(eH (fun(x:Ty.den (Ty.list (Ty.lf Lf.rat)))=>bY (eH (fun(x:Ty.den (Ty.lf Lf.rat))=>bY (aC Prop)) x::aC Prop)) a/\iL A₀/\True)/\ifB (eP A₀ != 0) (True/\eP A₀=0/\True) ((eH (fun(x:Ty.den (Ty.lf Lf.rat))=>bY (aC Prop)) x/\(List.length (List.map A₁ x)<=1000000/\∀ (q:aF),q ∈ List.map A₁ x->tX q)/\True)/\ifB (!!List.any (List.map A₁ x) fun(q:aF)=>!aF.ok q) (True/\asT Int 1=0/\True) ((True/\True)/\ifB (aB x.length != aB b.length) (True/\asT Int 4=0/\True) (True/\asT Int 0=0/\True)))) (by kernel_rfl) ?_
 have hZ:(⟨false,0,[],[]⟩:aF)=bU:=rfl
 dsimp only[aB,asT,aA,aC,Ty.den,Lf.den] at *
 simp only[hZ,Int.toNat_natCast,aT,ay,au,oh,ny,aH,nameAt,aV,aS,bF,rowAt,iw,gy]
 have hp:okM a/\(∀ q ∈ x,rsz q<=100000000)/\b=a/\x.length=a.length:=hp
 obtain⟨ha,sx,rfl,hx⟩:=hp
 have q1:=ha.r64
 have q2:=ha.c64
 have e1:=JE ha.chk
 have e2:(List.map (fun x=>fD x) x).any (fun q=>!q.ok)=false:=yj.mpr fun q hq=>by
  obtain⟨y,_,rfl⟩:=ug.mp hq;simp[fD]
 refine⟨⟨uI b,ha.short⟩,fun h=>absurd (h.symm.trans e1) (by decide),fun h=>⟨⟨a0j x,by rw[uj];omega,fun q hq=>?_⟩,fun h2=>?_,fun h2=>⟨fun h3=>by rw[hx] at h3;simp at h3,fun _=>trivial⟩⟩⟩
 ·obtain⟨y,hy,rfl⟩:=ug.mp hq
  have:=sx y hy
  have ⟨h3,h4⟩:=NY y
  exact⟨by omega,by omega⟩
 ·rw[e2] at h2;cases h2
def c3l:Ctr:=⟨[tM,.list tQ],[.list tQ],fun x=>okM x.1/\szM x.1 1000000/\(show LQ' from x.2.1).length=wdM (show MQ from x.1)/\∀ q ∈ (show LQ' from x.2.1),rsz q<=1000000,fun x=>(mvL x.1 x.2.1,())⟩
theorem b2R:aW Tryz.prog 107 c3l:=by
 refine bH (nil0.ad a2c) ⟨[],[],[]⟩ Tryz.func107 rfl (by decide) (fun x=>[.inv {k:Nat // k<=(show MQ from x.1).length} (fun k=>[(10,.val tI (k.1:Int)),(5,.own 19 0)]++[(18,.any),(19,.any)]) (fun k=>[(19,.row 64 tQ ((List.range k.1).map (mv (wdM (show MQ from x.1)) (ent (show MQ from x.1)) (lv x.2.1))) 0)]) (fun k=>(show MQ from x.1).length-k.1) ⟨0,by omega⟩ (fun _=>[])]) (fun x hp=>?_)
 obtain⟨a,x,u⟩:=x
 change List (List Rat) at a
 change List Rat at x
 refine bP (let A₀:=(mv (wdM a) (ent a) (lv x));(asT Int 0=0/\(True/\asT (List Rat) (aC Rat)=aC Rat)/\(asT (List Rat) (aC Rat)=aC Rat/\0=0/\asT Bool true=true)/\True)/\∀ (i:{ k:Nat // k<=List.length a }),let A₁:=(List.getD a (aB (aA i)).toNat (aC Rat));asT Bool true=true/\ifB (decide (aB (aA i)<aB a.length)) ((0<=aB (aA i)/\aB (aA i)<aB a.length/\True)/\(a2d A₁ x/\List.length (List.map A₀ (List.range (aA i)))+List.length (IL A₁ x A₁.length::aC Rat)<=1000000000/\True)/\∃ (i':{ k:Nat // k<=List.length a }),List.length a-aA i'<List.length a-aA i/\IntKind.wrap IntKind.i64 (aB (aA i)+1)=aB (aA i')/\List.map A₀ (List.range (aA i))++IL A₁ x A₁.length::aC Rat=List.map A₀ (List.range (aA i'))/\True) (True/\List.map A₀ (List.range (aA i))=mvL a x/\True)) (by kernel_rfl) ?_
 have hZ:(⟨false,0,[],[]⟩:aF)=bU:=rfl
 dsimp only[aB,asT,aA,aC,Ty.den,Lf.den] at *
 simp only[hZ,Int.toNat_natCast,aT,ay,au,oh,ny,aH,nameAt,aV,aS,bF,rowAt,iw,gy]
 have hp:okM a/\szM a 1000000/\x.length=wdM a/\∀ q ∈ x,rsz q<=1000000:=hp
 obtain⟨ha,sa,hx,sx⟩:=hp
 have q1:=ha.r64
 have q2:=ha.c64
 refine fun i=>⟨fun h1=>?_,fun h1=>?_⟩
 ·have hi:i.1<a.length:=by omega
  have hr:=ha.row hi
  refine⟨⟨by omega,h1⟩,⟨⟨by rw[hr,hx],by rw[hr];exact q2,fun c hc=>⟨sa i.1 hi c (by omega),dY sx (by omega)⟩⟩,by simp;omega⟩,⟨i.1+1,by omega⟩,by simp only;omega,by rw[aZ (by omega) (by omega)];rfl,?_⟩
  rw[Bv,List.map_append,hr];rfl
 ·have hi:i.1=a.length:=by have:=i.2;omega
  rw[hi];rfl
def c0L:Ctr:=⟨[tM,.list tQ],[.list tQ,tI],fun x=>okM x.1/\szM x.1 1000000/\(show LQ' from x.2.1).length=wdM (show MQ from x.1)/\∀ q ∈ (show LQ' from x.2.1),rsz q<=1000000,fun x=>(mvL x.1 x.2.1,(0:Int),())⟩
theorem a1O:aW Tryz.prog 62 c0L:=by
 refine bH ((((nil0.ad a2P).ad a2V).ad a2W).ad b2R) ⟨[],[],[]⟩ Tryz.func62 rfl (by decide) (fun x=>[]) (fun x hp=>?_)
 obtain⟨a,x,u⟩:=x
 change List (List Rat) at a
 change List Rat at x
 refine bP (((okM a/\(∀ (q:Rat),q ∈ x->rsz q<=100000000)/\a=a/\List.length x=wdM a)/\True)/\((okM a/\szM a 1000000/\List.length x=wdM a/\∀ (q:Rat),q ∈ x->rsz q<=1000000)/\True)/\True/\mvL a x=mvL a x/\True/\asT Int 0=0/\True) (by kernel_rfl) ?_
 have hZ:(⟨false,0,[],[]⟩:aF)=bU:=rfl
 dsimp only[aB,asT,aA,aC,Ty.den,Lf.den] at *
 simp only[hZ,Int.toNat_natCast,aT,ay,au,oh,ny,aH,nameAt,aV,aS,bF,rowAt,iw,gy]
 have hp:okM a/\szM a 1000000/\x.length=wdM a/\∀ q ∈ x,rsz q<=1000000:=hp
 obtain⟨ha,sa,hx,sx⟩:=hp
 exact⟨⟨ha,fun q hq=>jg (sx q hq) (by omega),hx⟩,ha,sa,hx,sx⟩
def tV (a:MQ):MQ × Int × Unit:=if pU a=true then (mW a,0,()) else ([],14,())
def c3C:Ctr:=⟨[tM],[tM,tI],fun x=>okM x.1/\wdM (show MQ from x.1)=(show MQ from x.1).length/\FX (show MQ from x.1).length ((show MQ from x.1).length+(show MQ from x.1).length) (jK (show MQ from x.1).length (ent x.1) idm) (show MQ from x.1).length,fun x=>tV x.1⟩
theorem a6o:aW Tryz.prog 68 c3C:=by
 refine bH ((((((((((((((nil0.an jT).an jV).an jU).ad a5p).ad EN).ad XW).an b1F).an yG).an yB).an yF).an yC).an yE).an yD).an b5i) ⟨[5,6],[6],[]⟩ Tryz.func68 rfl (by decide) (fun x=>[]) (fun x hp=>?_)
 obtain⟨a,u⟩:=x
 change List (List Rat) at a
 refine bP (let A₂:=(aB a.length).toNat;let bK:=(fun(x:Ty.den (Ty.list (Ty.lf Lf.dG)))=>bY (eH (fun(x:Ty.den (Ty.lf Lf.dG))=>bY ((aF.ok x=true)::aC Prop)) x::aC Prop));let bZ:=(fun(xs:Ty.den (Ty.list (Ty.lf Lf.dG)))=>List.map (fun(x:Ty.den (Ty.lf Lf.dG))=>aF.x x) xs);let dJ:=(rowsOf none (aY A₂ A₂ (gUn ())));let A₁:=(List.map bZ dJ);let A₀:=(aY a.length (wdM a+wdM A₁) (jK (wdM a) (ent a) (ent A₁)));let aQ:=(rowsOf none (aY A₀.length (wdM A₀) (rdm A₀ A₂)),aB a.length,());(okM a/\True)/\ifB (sqC a != 0) (True/\aC (List Rat)=Prod.fst (tV a)/\True/\sqC a=Prod.fst (tV a).2/\True) ((DI TUn a8k (aB a.length,aB a.length,(),())/\eH bK dJ/\(okM a/\okM A₁/\List.length a=List.length A₁)/\True)/\(a5c A₀ (aB a.length)/\True)/\ifB (decide (aB (dA (rdp A₀ A₂)).length<aB a.length)) (True/\aC (List Rat)=Prod.fst (tV a)/\True/\14=Prod.fst (tV a).2/\True) ((DI TIn b4m (aB a.length,aB a.length,aQ,())/\True)/\(eH bK (aY A₂ A₂ (gIn aQ))/\True)/\List.map bZ (aY A₂ A₂ (gIn aQ))=Prod.fst (tV a)/\True/\0=Prod.fst (tV a).2/\True))) (by kernel_rfl) ?_
 have hZ:(⟨false,0,[],[]⟩:aF)=bU:=rfl
 dsimp only[aB,asT,aA,aC,Ty.den,Lf.den] at *
 simp only[hZ,Int.toNat_natCast,aT,ay,au,oh,ny,aH,nameAt,aV,aS,bF,rowAt,iw,gy]
 have hp:okM a/\wdM a=a.length/\FX a.length (a.length+a.length) (jK a.length (ent a) idm) a.length:=hp
 obtain⟨ha,hw,hok⟩:=hp
 have q1:=ha.r64
 have q3:=ha.pos
 have eI:List.map (fun xs=>List.map (fun x=>aF.x x) xs) (rowsOf none (aY a.length a.length (gUn ())))=idM a.length:=zX _ _ _
 have hI:isM (idM a.length) a.length a.length:=JA q3 q1
 have hIk:okM (idM a.length):=(a3Y q3).ok hI (by omega)
 have eB:aY a.length (a.length+a.length) (jK a.length (ent a) (ent (idM a.length)))=aY a.length (a.length+a.length) (jK a.length (ent a) idm):=lU fun i hi j hj=>by
  unfold jK;split
  ·rfl
  ·exact mF hi (by omega)
 have hB:wdM (aY a.length (a.length+a.length) (jK a.length (ent a) idm))=a.length+a.length:=by
  show ((aY a.length (a.length+a.length) (jK a.length (ent a) idm)).getD 0 []).length=_
  rw[jH q3];simp
 have hX:=b1E (R:=a.length) (C:=a.length+a.length) (n:=a.length) (f:=jK a.length (ent a) idm) (by omega)
 have hP:=VG (R:=a.length) (C:=a.length+a.length) (n:=a.length) (f:=jK a.length (ent a) idm) q3 (by omega) (by omega) (by omega) (by omega) hok
 have hsq:sqC a=0:=ig hw.symm
 simp only[eI,hI.wd,hw,eB,hB,hI.len,hsq]
 have hp2:(rdp (aY a.length (a.length+a.length) (jK a.length (ent a) idm)) a.length)=(KN a).2:=by
  show (red (aY _ _ _).length _ _).2=_
  rw[aS];exact hX.1
 have hm2:∀ i,i<a.length->∀ c,c<a.length+a.length->rdm (aY a.length (a.length+a.length) (jK a.length (ent a) idm)) a.length i c=(KN a).1 i c:=fun i hi c hc=>by
  show (red (aY _ _ _).length _ _).1 i c=_
  rw[aS];exact hX.2 i hi c hc
 rw[hp2]
 refine⟨ha,fun h=>(by cases h),fun _=>⟨⟨⟨a.length,a.length,rfl,rfl,by omega,by omega,fun i j _ _=>⟨ql i,ql j⟩⟩,uM _ _ _,ha,hIk,trivial⟩,hP,fun h=>?_,fun h=>?_⟩⟩
 ·try simp only[ay] at h
  rw[sO] at h
  have hr:pU a=false:=oq (by omega)
  have e:tV a=([],14,()):=by unfold tV;rw[hr];rfl
  rw[e];exact⟨rfl,rfl⟩
 ·try simp only[au] at h
  rw[sO] at h
  have hle:(KN a).2.length<=a.length:=(jD a.length (jK a.length (ent a) idm) a.length).le
  have hr:pU a=true:=pz (by omega)
  have e:tV a=(mW a,0,()):=by unfold tV;rw[hr];rfl
  rw[e]
  have hrow:∀ i,i<a.length->(rowsOf none (aY a.length (a.length+a.length) (rdm (aY a.length (a.length+a.length) (jK a.length (ent a) idm)) a.length))).getD i []=(List.range (a.length+a.length)).map (fun c=>fD (rdm (aY a.length (a.length+a.length) (jK a.length (ent a) idm)) a.length i c)):=fun i hi=>jH hi
  refine⟨⟨a.length,a.length,rfl,rfl,by omega,by omega,fun i j hi hj=>?_⟩,uM _ _ _,(zX _ _ _).trans (fU fun i hi j hj=>?_),rfl⟩
  ·have hi:i<a.length:=hi
   have hj:j<a.length:=hj
   refine⟨ql i,by show i<(aY _ _ _).length;rw[aS];exact hi,ql j,by omega,ql _,by show (a.length:Int)<=1000;omega,?_,?_⟩
   ·show a.length+j<((rowsOf none (aY a.length (a.length+a.length) (rdm (aY a.length (a.length+a.length) (jK a.length (ent a) idm)) a.length))).getD i []).length
    rw[hrow i hi];simp;omega
   ·show (((rowsOf none (aY a.length (a.length+a.length) (rdm (aY a.length (a.length+a.length) (jK a.length (ent a) idm)) a.length))).getD i []).getD (a.length+j) bU).ok=true
    rw[hrow i hi,gZ (by omega)];rfl
  ·show FN (aY a.length (a.length+a.length) (rdm (aY a.length (a.length+a.length) (jK a.length (ent a) idm)) a.length)) i (a.length+j)=(KN a).1 i (a.length+j)
   rw[TF hi (by omega)]
   exact hm2 i hi _ (by omega)
theorem jW {n:Nat} {a a' b b':Mt} {i j:Nat} (h1:∀ k,k<n->a i k=a' i k) (h2:∀ k,k<n->b k j=b' k j):mm n a b i j=mm n a' b' i j:=fE n fun k hk=>by rw[h1 k hk,h2 k hk]
theorem Gau.congr {N f:Nat} {n g n' g':Mt} (H:Gau N f n g) (h1:∀ i,i<N->∀ j,j<N->n' i j=n i j) (h2:∀ i,i<N->∀ j,j<f->g' i j=g i j):Gau N f n' g' :=
 ⟨fun i hi j hj=>by rw[h1 i hi j hj,h1 j hj i hi];exact H.sym i hi j hj,fun i hi j hj=>by rw[<-H.ng i hi j hj];exact jW (fun k hk=>h1 i hi k hk) (fun k hk=>h2 k hk j hj),
  by rw[(LM (C:=f) h2 f (aj _)).1];exact H.rank,by rw[(LM (C:=N) h1 N (aj _)).1];exact H.dim⟩
theorem uZ.congr {n:Nat} {a x a' x':Mt} (H:uZ n a x) (h1:∀ i,i<n->∀ j,j<n->a' i j=a i j) (h2:∀ i,i<n->∀ j,j<n->x' i j=x i j):uZ n a' x' :=
 ⟨fun i hi j hj=>by rw[<-H.r i hi j hj];exact jW (fun k hk=>h1 i hi k hk) (fun k hk=>h2 k hk j hj),fun i hi j hj=>by rw[<-H.l i hi j hj];exact jW (fun k hk=>h2 i hi k hk) (fun k hk=>h1 k hk j hj)⟩
theorem isM.KT {a b:MQ} {R n C:Nat} (h:isM a R n) (g:isM b n C) {i j:Nat} (hi:i<R) (hj:j<C):ent (mulM a b) i j=mm n (ent a) (ent b) i j:=by
 unfold mulM;rw[h.len,g.wd,g.len];exact mF hi hj
theorem isM.XI {a:MQ} {R C:Nat} (h:isM a R C) {i j:Nat} (hi:i<C) (hj:j<R):ent (trM a) i j=ent a j i:=by
 unfold trM;rw[h.len,h.wd];exact mF hi hj
theorem isM.c0G {a b:MQ} {R C:Nat} (h:isM a R C) {i j:Nat} (hi:i<R) (hj:j<C):ent (QB a b) i j=ent a i j+ent b i j:=by
 unfold QB;rw[h.len,h.wd];exact mF hi hj
theorem isM.c4x {a b:MQ} {R C:Nat} (h:isM a R C) {i j:Nat} (hi:i<R) (hj:j<C):ent (XH a b) i j=ent a i j-ent b i j:=by
 unfold XH;rw[h.len,h.wd];exact mF hi hj
theorem isM.rk {a:MQ} {R C:Nat} (h:isM a R C):rkM a=(red R (ent a) C).2.length:=by unfold rkM JF;rw[h.len,h.wd]
theorem a0b {a:MQ} {R C:Nat} (h:isM a R C):IB a=true↔∀ i,i<R->∀ j,j<C->ent a i j=0:=by unfold IB;rw[h.len,h.wd,ay]
theorem a3L {a:MQ} {R C:Nat} (h:isM a R C):tY a=true↔∀ i,i<R->∀ j,j<R->ent a i j=ent a j i:=by unfold tY;rw[h.len,ay]
theorem a2v {n g:MQ} {N c:Nat} (hn:isM n N N) (hg:isM g N c):rG n g=true↔Gau N c (ent n) (ent g):=by
 unfold rG
 rw[ak,ak,ak,ay,ay,a3L hn,a0b (hn.mul hg),hg.rk,hn.rk,hg.wd,hn.len]
 constructor
 ·rintro⟨⟨⟨h1,h2⟩,h3⟩,h4⟩
  exact⟨h1,fun i hi j hj=>by rw[<-hn.KT hg hi hj];exact h2 i hi j hj,h3,by rw[h3] at h4;exact h4⟩
 ·rintro⟨h1,h2,h3,h4⟩
  exact⟨⟨⟨h1,fun i hi j hj=>by rw[hn.KT hg hi hj];exact h2 i hi j hj⟩,h3⟩,by rw[h3];exact h4⟩
theorem a4D {α:Type} (l:List Nat) (g:Nat->α):l.map g=(List.range l.length).map (fun s=>g (l.getD s 0)):=by
 apply Bh
 ·simp
 ·intro i h1 h2
  have h1:i<l.length:=by simpa using h1
  simp[bf,h1]
theorem YT {n:MQ} {N:Nat} (hn:isM n N N):sU n=tab (frees N (red N (ent n) N).2).length N (tr (b5E N (ent n))):=by
 unfold sU JF;rw[hn.len,hn.wd,a4D];rfl
theorem a9R {n:Nat} {p:List Nat} (hd:p.Nodup) (hl:∀ j ∈ p,j<n):(frees n p).length<=n:=by have:=EP hd hl;omega
def bgM (g b:MQ):MQ:=mulM (trM b) g
def sM (g b:MQ):MQ:=XH (idM g.length) (mulM g (mulM (mW (bgM g b)) (trM b)))
theorem a0o {g b:MQ} {N c:Nat} (hg:isM g N c) (hb:isM b N c):isM (bgM g b) c c:=hb.trp.mul hg
theorem c0J {g b:MQ} {N c:Nat} (hg:isM g N c) (hb:isM b N c) {i j:Nat} (hi:i<c) (hj:j<c):ent (bgM g b) i j=bg N (ent b) (ent g) i j:=by
 unfold bgM bg;rw[hb.trp.KT hg hi hj];exact jW (fun k hk=>hb.XI hi hk) (fun _ _=>rfl)
theorem a3r {a:MQ} {n:Nat} (h:isM a n n):pU a=true↔∀ x,(∀ i,i<n->mv n (ent a) x i=0)->∀ c,c<n->x c=0:=by
 unfold pU KN;rw[h.len,ay];exact a0S idm
theorem a2K {a:MQ} {n:Nat} (h:isM a n n) (hr:pU a=true):uZ n (ent a) (ent (mW a)):=by
 unfold pU KN at hr;rw[h.len,ay] at hr
 refine(inv_of hr).congr (fun _ _ _ _=>rfl) fun i hi j hj=>?_
 unfold mW KN;rw[h.len];exact mF hi hj
theorem b5R {g b:MQ} {N c:Nat} (hg:isM g N c) (hb:isM b N c) (hr:pU (bgM g b)=true):uZ c (bg N (ent b) (ent g)) (ent (mW (bgM g b))) :=
 (a2K (a0o hg hb) hr).congr (fun i hi j hj=>(c0J hg hb hi hj).symm) (fun _ _ _ _=>rfl)
theorem VQ {g b:MQ} {N c:Nat} (hg:isM g N c):isM (sM g b) N N:=by
 unfold sM;rw[hg.len];exact(JA hg.2.2.1 hg.2.2.2.1).sub
theorem c0j {g b:MQ} {N c:Nat} (hg:isM g N c) (hb:isM b N c) {i j:Nat} (hi:i<N) (hj:j<N):ent (sM g b) i j=xG c (ent g) (ent b) (ent (mW (bgM g b))) i j:=by
 have hw:=(a0o hg hb).inv
 unfold sM;rw[hg.len,(JA hg.2.2.1 hg.2.2.2.1).c4x hi hj,hg.KT (hw.mul hb.trp) hi hj]
 show ent (idM N) i j-_=idm i j-_
 rw[show ent (idM N) i j=idm i j from mF hi hj]
 congr 1
 refine jW (fun _ _=>rfl) fun k hk=>?_
 rw[hw.KT hb.trp hk hj]
 exact jW (fun _ _=>rfl) fun l hl=>hb.XI hl hj
theorem uK (a:MQ) (x:List Rat):(mvL a x).length=a.length:=by simp[mvL]
theorem YP {a:MQ} {R C:Nat} (h:isM a R C) {x:List Rat} {i:Nat} (hi:i<R):lv (mvL a x) i=mv C (ent a) (lv x) i:=by
 unfold mvL;rw[h.len,h.wd];exact gZ hi
theorem c2K {g b:MQ} {N c:Nat} (hg:isM g N c) (hb:isM b N c) {x:List Rat} {i:Nat} (hi:i<N):lv (mvL (sM g b) x) i=mv N (xG c (ent g) (ent b) (ent (mW (bgM g b)))) (lv x) i:=by
 rw[YP (VQ hg) hi];exact JD fun k hk=>c0j hg hb hi hk
theorem VW {a:MQ} {R C:Nat} (h:isM a R C) (x:List Rat):(FZ a x).length=C:=by unfold FZ;rw[h.wd];simp
end Go.Proofs.YtgplhbhfdgempaaGreat
