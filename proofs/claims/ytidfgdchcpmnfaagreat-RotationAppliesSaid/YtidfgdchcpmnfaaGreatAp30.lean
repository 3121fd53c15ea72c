/-
  Lemmas for the theorem vapplies_holds, part 30 of 33.
-/
import Derived.Test.YtidfgdchcpmnfaaGreatAp06
import Derived.Test.YtidfgdchcpmnfaaGreatAp20
import Derived.Test.YtidfgdchcpmnfaaGreatAp23
import Derived.Test.YtidfgdchcpmnfaaGreatAp25
import Derived.Test.YtidfgdchcpmnfaaGreatAp29
namespace Go.Proofs.YtidfgdchcpmnfaaGreat
open Go Go.RowKit
set_option maxRecDepth 100000
set_option maxHeartbeats 1000000
set_option linter.unusedVariables false
set_option linter.unusedSimpArgs false
def fJ:aC:=⟨false,0,[],[]⟩
abbrev tR:Ty:=.lf .iE
abbrev tMR:Ty:=.list (.list tR)
theorem a3g {F:Nat->Prop} {w:World} {v:Value} {x:Rat} (h:RQ w v x):iY F w tR v (mG x):=by
 obtain⟨b,p,c,b',p',c',rfl,r1,r2⟩:=a0P h
 exact⟨_,rfl,b,p,c,b',p',c',rfl,h.raw,r1,r2⟩
theorem a9n {F:Nat->Prop} {w:World}:iY F w tR (.agg #[.bool false,.slice none 0 0,.bool false,.slice none 0 0]) fJ :=
 ⟨[.bool false,.slice none 0 0,.bool false,.slice none 0 0],rfl,xB (.lf .iE) _ rfl⟩
def cVal (K:Nat):Ctr:=⟨[tR],[tB],fun x=>(show aC from x.1).n<=K/\(show aC from x.1).m<=K,fun x=>((show aC from x.1).ok,())⟩
theorem b7A {F:Nat->Prop} {w:World} {v:Value} {x:aC} (h:iY F w tR v x):fG w v x.ok x.x/\∀ K,x.n<=K->x.m<=K->Qn v K:=by
 obtain⟨cs,rfl,b,p,c,b',p',c',rfl,h2,_,_⟩:=h
 exact⟨h2,fun K h1 h2=>⟨b,p,_,c,b',p',_,c',rfl,h1,h2⟩⟩
theorem a3B {f:FuncId} {K:Nat} (h:∀ (v:Value) (ok:Bool) (q:Rat) (w:World),fG w v ok q->Qn v K->Calls Tryz.prog f #[v] w (fun e w'=>e=.returned (.bool ok)/\Below w.heap.size w w')):dI Tryz.prog f (cVal K):=by
 intro F w vs x hF hvs hp
 obtain⟨v,vs',rfl,h1,h3⟩:=hvs
 have h3:vs'=[]:=h3
 subst h3
 obtain⟨h4,h5⟩:=b7A h1
 refine(h v _ _ w h4 (h5 K hp.1 hp.2)).mono ?_
 rintro e w' ⟨rfl,hb⟩
 exact⟨_,rfl,RH _,hb⟩
def newT (e x y:Int):aC × Int × Unit:=if y=0 then (fJ,e,()) else (mG (Rat.divInt x y),(0:Int),())
def cNew (K:Nat) (e:Int):Ctr:=⟨[tZ,tZ],[tR,tI],fun x=>isz x.1<=K/\isz x.2.1<=K,fun x=>newT e x.1 x.2.1⟩
theorem a9z {f:FuncId} {K:Nat} {c:Int} (h:∀ (v u:Value) (x y:Int) (w:World),bV w v x->bV w u y->isz x<=K->isz y<=K->y≠0->Calls Tryz.prog f #[v,u] w (GQC (Rat.divInt x y) 0 w)) (h0:∀ (v u:Value) (x y:Int) (w:World),bV w v x->bV w u y->y=0->Calls Tryz.prog f #[v,u] w (a9p c w)):dI Tryz.prog f (cNew K c):=by
 intro F w vs x hF hvs hp
 obtain⟨v,vs',rfl,h1,u,vs'',rfl,h2,h3⟩:=hvs
 have h3:vs''=[]:=h3
 subst h3
 by_cases hy:(show Int from x.2.1)=0
 ·refine(h0 v u x.1 x.2.1 w (rV h1) (rV h2) hy).mono ?_
  rintro e w' ⟨rfl,hb⟩
  refine⟨_,rfl,?_,hb⟩
  rw[show (cNew K c).fn x=(fJ,c,()) from if_pos hy]
  exact⟨[_,_],rfl,_,_,rfl,a9n,_,_,rfl,uM _,rfl⟩
 ·refine(h v u x.1 x.2.1 w (rV h1) (rV h2) hp.1 hp.2 hy).mono ?_
  rintro e w' ⟨r,rfl,hr,hb⟩
  refine⟨_,rfl,?_,hb⟩
  rw[show (cNew K c).fn x=(mG (Rat.divInt x.1 x.2.1),(0:Int),()) from if_neg hy]
  exact⟨[_,_],rfl,_,_,rfl,a3g hr,_,_,rfl,uM _,rfl⟩
def b7V (e:Int) (x y:Rat):aC × Int × Unit:=if y=0 then (fJ,e,()) else (mG (x / y),(0:Int),())
def a3y (K:Nat) (e:Int):Ctr:=⟨[tQ,tQ],[tR,tI],fun x=>rsz x.1<=K/\rsz x.2.1<=K,fun x=>b7V e x.1 x.2.1⟩
theorem a6T {f:FuncId} {K:Nat} {c:Int} (h:∀ (v u:Value) (x y:Rat) (w:World),RQ w v x->RQ w u y->rsz x<=K->rsz y<=K->y≠0->Calls Tryz.prog f #[v,u] w (GQC (x / y) 0 w)) (h0:∀ (v u:Value) (x y:Rat) (w:World),RQ w v x->RQ w u y->rsz x<=K->rsz y<=K->y=0->Calls Tryz.prog f #[v,u] w (a9p c w)):dI Tryz.prog f (a3y K c):=by
 intro F w vs x hF hvs hp
 obtain⟨v,vs',rfl,h1,u,vs'',rfl,h2,h3⟩:=hvs
 have h3:vs''=[]:=h3
 subst h3
 by_cases hy:(show Rat from x.2.1)=0
 ·refine(h0 v u x.1 x.2.1 w (vM h1) (vM h2) hp.1 hp.2 hy).mono ?_
  rintro e w' ⟨rfl,hb⟩
  refine⟨_,rfl,?_,hb⟩
  rw[show (a3y K c).fn x=(fJ,c,()) from if_pos hy]
  exact⟨[_,_],rfl,_,_,rfl,a9n,_,_,rfl,uM _,rfl⟩
 ·refine(h v u x.1 x.2.1 w (vM h1) (vM h2) hp.1 hp.2 hy).mono ?_
  rintro e w' ⟨r,rfl,hr,hb⟩
  refine⟨_,rfl,?_,hb⟩
  rw[show (a3y K c).fn x=(mG ((show Rat from x.1) / (show Rat from x.2.1)),(0:Int),()) from if_neg hy]
  exact⟨[_,_],rfl,_,_,rfl,a3g hr,_,_,rfl,uM _,rfl⟩
def cQZ (K:Nat) (g:Rat->Int):Ctr:=⟨[tQ],[tZ],fun x=>rsz x.1<=K,fun x=>(g x.1,())⟩
theorem b1H {f:FuncId} {K:Nat} {g:Rat->Int} (h:∀ (v:Value) (x:Rat) (w:World),RQ w v x->rsz x<=K->Calls Tryz.prog f #[v] w (kP (g x) w)):dI Tryz.prog f (cQZ K g):=by
 intro F w vs x hF hvs hp
 obtain⟨v,vs',rfl,h1,h3⟩:=hvs
 have h3:vs'=[]:=h3
 subst h3
 refine(h v x.1 w (vM h1) hp).mono ?_
 rintro e w' ⟨r,rfl,hr,hb⟩
 exact⟨_,rfl,KN hr,hb⟩
abbrev s4 (x:Rat):Prop:=rsz x<=400000000
abbrev s44 (x y:Rat):Prop:=rsz x<=400000000/\rsz y<=400000000
noncomputable def LF:Lib:=((((((((((LD1
 ).add 51 (cIQ bZ (fun i=>(i:Rat))) (a1K fun x w h=>jJ x w h.1 h.2)
 ).add 122 (cVal 1000000000) (a3B fun v ok q w h hn=>wZ v ok q w h hn)
 ).add 70 (cNew 1000000000 14) (a9z (fun v u x y w h1 h2 l1 l2 hy=>a4n v u _ _ x y w h1.QG h2.QG l1 l2 hy) (fun v u x y w h1 h2 hy=>b0u v u _ _ x y w h1.QG h2.QG hy))
 ).add 52 (cQ2 s44 (·+·)) (NC fun v u x y w a b h=>YV v u x y w a b h.1 h.2)
 ).add 53 (cQ2 s44 (·*·)) (NC fun v u x y w a b h=>FB v u x y w a b h.1 h.2)
 ).add 56 (cQ2 s44 (·-·)) (NC fun v u x y w a b h=>a1m v u x y w a b h.1 h.2)
 ).add 90 (b6b s44 sZ) (a9A fun v u x y w a b h=>qR v u x y w a b h.1 h.2)
 ).add 91 (a3y 400000000 14) (a6T (fun v u x y w a b h1 h2 hy=>a3I v u x y w a b h1 h2 hy) (fun v u x y w a b l1 l2 hy=>a1T v u true true x y w a.raw b.raw (a.qn l1) (b.qn l2) hy))
 ).add 89 (cQ1 s4 a1G) (a6Z fun v x w a h=>a6F v x w a (Nat.le_trans h (by omega)))
 ).add 92 (cQZ 400000000 Rat.floor) (b1H fun v x w a h=>a1X v x w a (Nat.le_trans h (by omega)))
def cRL:Ctr:=⟨[mJ],[.list tI],fun x=>True,fun x=>([x.1.1,x.1.2.1,x.1.2.2.1,x.1.2.2.2.1],())⟩
theorem a5Y:dI Tryz.prog 66 cRL:=by
 refine fB LZ [] Tryz.func66 rfl (by decide) (fun x=>[]) (fun x hp=>?_)
 obtain⟨⟨a,b,c,d,v⟩,u⟩:=x
 change Int at a;change Int at b;change Int at c;change Int at d
 refine iK (True/\a::b::c::d::aB Int=a::b::c::d::aB Int/\True) (by kernel_rfl) ?_
 exact⟨trivial,rfl,trivial⟩
noncomputable def LE0:Lib:=LF.add 66 cRL a5Y
theorem a2I:dI Tryz.prog 17 (cHI (fun _ _ _ _=>True) bG):=by
 refine fB LE0 [] Tryz.func17 rfl (by decide) (fun x=>[.rounds 5 [4] []]) (fun x hp=>?_)
 obtain⟨⟨a,b,c,d,v⟩,u⟩:=x
 change Int at a;change Int at b;change Int at c;change Int at d
 refine iK (let x0z:=(bif bif a==0 then b==0 else false then c==0 else false);let x1z:=(List.length (a::b::c::d::aB Int));let x2z:=(decide (a > 1048576)==false);let x3z:=(decide (b > 1048576)==false);let x4z:=(decide (c > 1048576)==false);let x5z:=(decide (d > 1048576)==false);let x6z:=((bif a==0 then b==0 else false)==true);((((a==0)==true)=true->((a==0)==true)=true/\True)/\(((a==0)==true)=true->((a==0)==true)=true/\True)/\((a==0)=true->((a==0)==true)=true)/\(x6z=true->x6z=true/\True)/\(x6z=true->x6z=true/\True)/\((bif a==0 then b==0 else false)=true->x6z=true)/\((x0z==true)=true->(x0z==true)=true/\True)/\((x0z==true)=true->(x0z==true)=true/\True)/\(x0z=true->(x0z==true)=true)/\True)/\ifB (bif bif bif a==0 then b==0 else false then c==0 else false then d==0 else false) (True/\1=bG a b c d/\True) ((True/\True)/\(asT Int 0<=0/\0<aF x1z/\(x2z=true->x2z=true/\x2z=true/\asT Int 0<=0/\0<aF x1z/\True)/\(x2z=true->x2z=true/\True)/\(x2z=true->x2z=true/\True)/\(decide (a > 1048576)=false->x2z=true)/\True)/\ifB (bif decide (a > 1048576) then true else decide (a < -1048576)) (True/\3=bG a b c d/\True) ((asT Int 0<=1/\1<aF x1z/\(x3z=true->x3z=true/\x3z=true/\asT Int 0<=1/\1<aF x1z/\True)/\(x3z=true->x3z=true/\True)/\(x3z=true->x3z=true/\True)/\(decide (b > 1048576)=false->x3z=true)/\True)/\ifB (bif decide (b > 1048576) then true else decide (b < -1048576)) (True/\3=bG a b c d/\True) ((asT Int 0<=2/\2<aF x1z/\(x4z=true->x4z=true/\x4z=true/\asT Int 0<=2/\2<aF x1z/\True)/\(x4z=true->x4z=true/\True)/\(x4z=true->x4z=true/\True)/\(decide (c > 1048576)=false->x4z=true)/\True)/\ifB (bif decide (c > 1048576) then true else decide (c < -1048576)) (True/\3=bG a b c d/\True) ((asT Int 0<=3/\3<aF x1z/\(x5z=true->x5z=true/\x5z=true/\asT Int 0<=3/\3<aF x1z/\True)/\(x5z=true->x5z=true/\True)/\(x5z=true->x5z=true/\True)/\(decide (d > 1048576)=false->x5z=true)/\True)/\ifB (bif decide (d > 1048576) then true else decide (d < -1048576)) (True/\3=bG a b c d/\True) (True/\0=bG a b c d/\True)))))) (by kernel_rfl) ?_
 have e:∀ q:Int,(bif decide (q > 1048576) then true else decide (q < -1048576))=!decide (okc q):=fun q=>by
  by_cases h:okc q
  ·have h':=h;unfold okc at h'
   rw[decide_eq_false (p:=q > 1048576) (by omega),decide_eq_false (p:=q < -1048576) (by omega),decide_eq_true h];rfl
  ·have h':q < -1048576\/q > 1048576:=by unfold okc at h;omega
   rw[decide_eq_false h]
   rcases h' with h' | h'
   ·rw[decide_eq_true h'];cases decide (q > 1048576)<;>rfl
   ·rw[decide_eq_true h'];rfl
 dsimp only[aF,asT,aB] at *
 simp only[e]
 have z:(bif bif bif a==0 then b==0 else false then c==0 else false then d==0 else false)=decide (a=0/\b=0/\c=0/\d=0):=by
  by_cases h0:a=0<;>by_cases h1:b=0<;>by_cases h2:c=0<;>by_cases h3:d=0<;>simp[h0,h1,h2,h3]
 rw[z]
 by_cases hz:a=0/\b=0/\c=0/\d=0
 ·obtain⟨rfl,rfl,rfl,rfl⟩:=hz
  simp[ifB,bG]
 ·have hq:bG a b c d=if okc a/\okc b/\okc c/\okc d then 0 else 3:=if_neg hz
  rw[hq,decide_eq_false hz]
  by_cases oa:okc a
  ·by_cases ob:okc b
   ·by_cases oc:okc c
    ·by_cases od:okc d<;>simp[ifB,oa,ob,oc,od]
    ·simp[ifB,oa,ob,oc]
   ·simp[ifB,oa,ob]
  ·simp[ifB,oa]
noncomputable def LE1:Lib:=LE0.add 17 (cHI (fun _ _ _ _=>True) bG) a2I
theorem a0K {a b c d e f g h:Int}:nT a b c d e f g h=0↔bG a b c d=0/\bG e f g h=0:=by
 unfold nT
 by_cases h:bG a b c d=0
 ·rw[if_pos h];simp[h]
 ·rw[if_neg h];simp[h]
def wC (a b c d e f g h:Int):aC × Int × Unit:=if nT a b c d e f g h=0 then (mG (a1N a b c d e f g h),0,()) else (fJ,nT a b c d e f g h,())
def a1J:Ctr:=⟨[mJ,mJ],[tR,tI],fun x=>True,fun x=>wC x.1.1 x.1.2.1 x.1.2.2.1 x.1.2.2.2.1 x.2.1.1 x.2.1.2.1 x.2.1.2.2.1 x.2.1.2.2.2.1⟩
theorem TJ:dI Tryz.prog 19 a1J:=by
 refine fB LE1 [4,7,8] Tryz.func19 rfl (by decide) (fun x=>[]) (fun x hp=>?_)
 obtain⟨⟨a,b,c,d,v⟩,⟨e,f,g,h,z⟩,u⟩:=x
 change Int at a;change Int at b;change Int at c;change Int at d;change Int at e;change Int at f;change Int at g;change Int at h
 change Unit at v;change Unit at z
 refine iK (let x0z:=(IntKind.wrap IntKind.i64 (IntKind.wrap IntKind.i64 (IntKind.wrap IntKind.i64 (a*e)+IntKind.wrap IntKind.i64 (b*f))+IntKind.wrap IntKind.i64 (c*g))+IntKind.wrap IntKind.i64 (d*h));let x1z:=(Prod.fst (newT 14 (IntKind.wrap IntKind.i64 x0z*IntKind.wrap IntKind.i64 x0z) (dG a b c d*dG e f g h)));(List.length ((a,b,c,d,v)::(e,f,g,h,z)::aB (Int × Int × Int × Int × PUnit))<=1000000000/\True)/\ifB (oP ((a,b,c,d,v)::(e,f,g,h,z)::aB (Int × Int × Int × Int × PUnit)) != 0) (True/\{ ok:=false,x:=0,g:=aB Nat,h:=aB Nat }=Prod.fst (wC a b c d e f g h)/\True/\oP ((a,b,c,d,v)::(e,f,g,h,z)::aB (Int × Int × Int × Int × PUnit))=Prod.fst (Prod.snd (wC a b c d e f g h))/\True) ((bZ (IntKind.wrap IntKind.i64 x0z)/\True)/\((isz (IntKind.wrap IntKind.i64 x0z)<=1000000000/\isz (IntKind.wrap IntKind.i64 x0z)<=1000000000)/\(okc a/\okc b/\okc c/\okc d)/\bZ (dG a b c d)/\(okc e/\okc f/\okc g/\okc h)/\bZ (dG e f g h)/\(isz (dG a b c d)<=1000000000/\isz (dG e f g h)<=1000000000)/\(isz (IntKind.wrap IntKind.i64 x0z*IntKind.wrap IntKind.i64 x0z)<=1000000000/\isz (dG a b c d*dG e f g h)<=1000000000)/\True)/\(bZ 1/\aC.ok x1z=true/\s44 (iC 1) (aC.x x1z)/\True)/\True/\mG (iC 1-aC.x x1z)=Prod.fst (wC a b c d e f g h)/\True/\0=Prod.fst (Prod.snd (wC a b c d e f g h))/\True)) (by kernel_rfl) ?_
 dsimp only[aB,iC] at *
 rw[a7s a b c d e f g h v z]
 by_cases k:nT a b c d e f g h=0
 ·obtain⟨k1,k2⟩:=a0K.1 k
  obtain⟨hn,oa,ob,oc,od⟩:=kG k1
  obtain⟨hm,oe,of,og,oh⟩:=kG k2
  have ee:wC a b c d e f g h=(mG (a1N a b c d e f g h),0,()):=if_pos k
  obtain⟨b8J,b8K⟩:=aZ oa oe
  obtain⟨b8L,b8M⟩:=aZ ob of
  obtain⟨b8N,b8O⟩:=aZ oc og
  obtain⟨b8P,b8Q⟩:=aZ od oh
  obtain⟨q0,q1⟩:=a2C oa ob oc od oe of og oh
  have eS:IntKind.wrap IntKind.i64 (IntKind.wrap IntKind.i64 (IntKind.wrap IntKind.i64 (IntKind.wrap IntKind.i64 (a*e)+IntKind.wrap IntKind.i64 (b*f))+IntKind.wrap IntKind.i64 (c*g))+IntKind.wrap IntKind.i64 (d*h))=BQ a b c d e f g h:=by
   unfold BQ at *
   simp(disch:=omega) only[dR]
  rw[eS,ee]
  obtain⟨hk10,b8j⟩:=zC oa ob oc od
  obtain⟨b8k,b8l⟩:=zC oe of og oh
  have hu1:=a2l hk10 b8j
  have hu2:=a2l b8k b8l
  have hu3:=a2l q0 q1
  have hu4:=dY (dG a b c d) (dG e f g h)
  have hu5:=dY (BQ a b c d e f g h) (BQ a b c d e f g h)
  have hNN:=Int.mul_pos (kJ hn) (kJ hm)
  have hN0:dG a b c d*dG e f g h≠0:=by omega
  have hu6:=sN (BQ a b c d e f g h*BQ a b c d e f g h) (dG a b c d*dG e f g h) hN0 (k:=4) (by omega) (by omega)
  have hu7:rsz ((1:Int):Rat)<=1:=by decide +kernel
  have w1:bZ 1:=by unfold bZ;omega
  have wS:bZ (BQ a b c d e f g h):=by unfold bZ;omega
  have wn:bZ (dG a b c d):=by unfold bZ;omega
  have wm:bZ (dG e f g h):=by unfold bZ;omega
  have eN:newT 14 (BQ a b c d e f g h*BQ a b c d e f g h) (dG a b c d*dG e f g h)=(mG (Rat.divInt (BQ a b c d e f g h*BQ a b c d e f g h) (dG a b c d*dG e f g h)),0,()):=if_neg hN0
  rw[eN,k]
  exact⟨⟨by show 2<=1000000000;omega,trivial⟩,⟨wS,trivial⟩,⟨⟨by omega,by omega⟩,⟨oa,ob,oc,od⟩,wn,⟨oe,of,og,oh⟩,wm,⟨by omega,by omega⟩,⟨by omega,by omega⟩,trivial⟩,⟨w1,rfl,⟨by omega,by show rsz (Rat.divInt _ _)<=_;omega⟩,trivial⟩,trivial,rfl,trivial,rfl,trivial⟩
 ·have ee:wC a b c d e f g h=(fJ,nT a b c d e f g h,()):=if_neg k
  have kb:(nT a b c d e f g h != 0)=true:=by simpa using k
  rw[ee,kb]
  exact⟨⟨by show 2<=1000000000;omega,trivial⟩,trivial,rfl,trivial,rfl,trivial⟩
noncomputable def LE2:Lib:=LE1.add 19 a1J TJ
end Go.Proofs.YtidfgdchcpmnfaaGreat
namespace Go.Proofs.YtidfgdchcpmnfaaGreat
open Go.RowKit
set_option maxRecDepth 100000
set_option maxHeartbeats 4000000
set_option linter.unusedSimpArgs false
set_option linter.unusedVariables false
theorem KO {l:List Nat} (k:Nat):val (l.drop k)<=val l:=by
 have e:=val_append (l.take k) (l.drop k)
 rw[List.take_append_drop] at e
 have h1:1<=BB ^ (l.take k).length:=Nat.pow_pos iM
 have h2:val (l.drop k)<=BB ^ (l.take k).length*val (l.drop k):=Nat.le_mul_of_pos_left _ h1
 omega
theorem TY (x:Int) (h0:-9223372036854775808<=x) (h1:x<=9223372036854775807):isz x<=999999999 :=
 Nat.le_trans (qM (k:=3) (by rw[bI];omega)) (by omega)
theorem rQ {z:Int} (h0:-9223372036854775808<=z) (h1:z<=9223372036854775807):IntKind.i64.wrap z=z:=by simp[IntKind.wrap,IntKind.bits,IntKind.signed];omega
theorem b7E {x:Int} (h:-9223372036854775808<=x/\x<=9223372036854775807):aI x=x/\aN x=true:=by
 unfold aI aN
 rw[if_pos (by omega)]
 exact⟨rfl,by simp;omega⟩
theorem a9c {x:Int} (h:¬ (-9223372036854775808<=x/\x<=9223372036854775807)):aI x=0/\aN x=false:=by
 unfold aI aN
 rw[if_neg (by omega)]
 exact⟨rfl,by simp;omega⟩
theorem a2S (v:Value) (x:Int) (w:World) (hv:Raw w v x) (hl:isz x<=999999999) (h:x < -9223372036854775808) :
  Calls Tryz.prog 136 #[v] w fun e W'=>e=.returned (.tuple #[.int .i64 (aI x),.bool (aN x)])/\Below w.heap.size w W':=by
 obtain⟨b,p,n,c,rfl⟩:=hv.form
 have hl1:isz x<=1000000000:=by omega
 have hm1:isz (-9223372036854775808)<=999999999:=TY _ (by omega) (by omega)
 have hm2:isz 9223372036854775807<=999999999:=TY _ (by omega) (by omega)
 have HF:=Lib.hid (a9c (x:=x) (by omega))
 have d1:dD x (-9223372036854775808)=-1:=by unfold dD;rw[if_pos (by omega)]
 have HC1:=Lib.hid d1
 have HC2:=Lib.hid (show dD x 9223372036854775807=dD x 9223372036854775807 from rfl)
 clear d1 h
 have aX:Below w.heap.size w w:=Below.refl _ _
 go_enter Tryz.func136,Tryz.ntmps136
 go_wp2_with fail
 obtain⟨hA1,b0⟩:=bx1 w rfl [.bool b,.slice p n c] 28
 have c0:=(hv.below hA1)
 (with_reducible refine(fD _ (x) _ c0 hl1).mono ?_)
 rintro e w1 ⟨v1,rfl,hi1,hb1⟩
 obtain⟨g1,p1,n1,c1,rfl⟩:=hi1.form
 obtain rfl:n1=(dig x.natAbs).length:=hi1.len
 have hf1:=Lib.hid (bV.flag hi1)
 have bH:=(b0.to hb1)
 obtain⟨h0,l0,j0,m0⟩:=bH.cf2
 go_wp2_with fail
 (with_reducible refine(qX _ _ (by omega) (by omega)).mono ?_)
 rintro e w2 ⟨v2,rfl,hi2,hb2⟩
 obtain⟨g2,p2,n2,c2,rfl⟩:=hi2.form
 go_wp2_with fail
 (with_reducible refine(qX _ _ (by omega) (by omega)).mono ?_)
 rintro e w3 ⟨v3,rfl,hi3,hb3⟩
 obtain⟨g3,p3,n3,c3,rfl⟩:=hi3.form
 have gV:=(((bH.store2 (.bool g1) (.slice p1 (dig x.natAbs).length c1)).to hb2).to hb3)
 obtain⟨i0,k0⟩:=gV.cs2
 have n0:=(gV).1
 obtain⟨hA2,p0⟩:=bx1 w3 rfl [.bool false,.slice none 0 0] 28
 have o0:=((gV.to hA2)).1
 go_wp2_with fail
 have f0:=(((hi1.aH bH rfl rfl (.bool g1) (.slice p1 (dig x.natAbs).length c1)).below hb2).below hb3)
 obtain⟨hA3,q0,r0⟩:=bx2 w3 rfl [.bool g2,.slice p2 n2 c2] 28 [.bool g3,.slice p3 n3 c3] 28
 have d0:=(f0.below hA3).raw
 have g0:=(hi2.below hb3)
 have e0:=(g0.below hA3).raw
 (with_reducible refine(lN _ _ (x) ((-9223372036854775808)) _ d0 e0 hl hm1).mono ?_)
 rw[HC1.out]
 rintro e w4 ⟨rfl,hb4⟩
 have a0:=(Below.tr (Below.tr (Below.tr (Below.tr (Below.aH (Below.tr (Below.tr aX hA1) hb1) (b:=w.heap.size) (by omega) (.bool g1) (.slice p1 (dig x.natAbs).length c1)) hb2) hb3) hA3) hb4)
 go_wp2_with fail
 go_ret2
 exact⟨by rw[HF.out.1,HF.out.2];rfl,a0⟩
theorem a1c (v:Value) (x:Int) (w:World) (hv:Raw w v x) (hl:isz x<=999999999) (h:9223372036854775807<x) :
  Calls Tryz.prog 136 #[v] w fun e W'=>e=.returned (.tuple #[.int .i64 (aI x),.bool (aN x)])/\Below w.heap.size w W':=by
 obtain⟨b,p,n,c,rfl⟩:=hv.form
 have hl1:isz x<=1000000000:=by omega
 have hm1:isz (-9223372036854775808)<=999999999:=TY _ (by omega) (by omega)
 have hm2:isz 9223372036854775807<=999999999:=TY _ (by omega) (by omega)
 have HF:=Lib.hid (a9c (x:=x) (by omega))
 have HC1:Hid (dD x (-9223372036854775808)=1):=by unfold Hid dD;rw[if_neg (by omega),if_pos (by omega)]
 have HC2:Hid (dD x 9223372036854775807=1):=by unfold Hid dD;rw[if_neg (by omega),if_pos (by omega)]
 clear h
 have aX:Below w.heap.size w w:=Below.refl _ _
 go_enter Tryz.func136,Tryz.ntmps136
 go_wp2_with fail
 obtain⟨hA1,e0⟩:=bx1 w rfl [.bool b,.slice p n c] 28
 have g0:=(hv.below hA1)
 (with_reducible refine(fD _ (x) _ g0 hl1).mono ?_)
 rintro e w1 ⟨v1,rfl,hi1,hb1⟩
 obtain⟨g1,p1,n1,c1,rfl⟩:=hi1.form
 obtain rfl:n1=(dig x.natAbs).length:=hi1.len
 have hf1:=Lib.hid (bV.flag hi1)
 have bH:=(e0.to hb1)
 obtain⟨o0,u0,r0,v0⟩:=bH.cf2
 go_wp2_with fail
 (with_reducible refine(qX _ _ (by omega) (by omega)).mono ?_)
 rintro e w2 ⟨v2,rfl,hi2,hb2⟩
 obtain⟨g2,p2,n2,c2,rfl⟩:=hi2.form
 go_wp2_with fail
 (with_reducible refine(qX _ _ (by omega) (by omega)).mono ?_)
 rintro e w3 ⟨v3,rfl,hi3,hb3⟩
 obtain⟨g3,p3,n3,c3,rfl⟩:=hi3.form
 have gV:=(((bH.store2 (.bool g1) (.slice p1 (dig x.natAbs).length c1)).to hb2).to hb3)
 obtain⟨p0,s0⟩:=gV.cs2
 have x0:=(gV).1
 obtain⟨hA2,z0⟩:=bx1 w3 rfl [.bool false,.slice none 0 0] 28
 have y0:=((gV.to hA2)).1
 go_wp2_with fail
 have a0:=(((hi1.aH bH rfl rfl (.bool g1) (.slice p1 (dig x.natAbs).length c1)).below hb2).below hb3)
 obtain⟨hA3,a1,f0⟩:=bx2 w3 rfl [.bool g2,.slice p2 n2 c2] 28 [.bool g3,.slice p3 n3 c3] 28
 have h0:=(a0.below hA3).raw
 have m0:=(hi2.below hb3)
 have i0:=(m0.below hA3).raw
 (with_reducible refine(lN _ _ (x) ((-9223372036854775808)) _ h0 i0 hl hm1).mono ?_)
 rw[HC1.out]
 rintro e w4 ⟨rfl,hb4⟩
 have jT:=((gV.to hA3).to hb4)
 obtain⟨q0,t0⟩:=jT.cs2
 have w0:=(f0.to hb4)
 obtain⟨c0,d0⟩:=w0.cs2
 go_wp2_with fail
 have l0:=((a0.below hA3).below hb4)
 have j0:=l0.raw
 have n0:=((hi3.below hA3).below hb4)
 have k0:=n0.raw
 (with_reducible refine(lN _ _ (x) (9223372036854775807) _ j0 k0 hl hm2).mono ?_)
 rw[HC2.out]
 rintro e w5 ⟨rfl,hb5⟩
 have b0:=(Below.tr (Below.tr (Below.tr (Below.tr (Below.tr (Below.aH (Below.tr (Below.tr aX hA1) hb1) (b:=w.heap.size) (by omega) (.bool g1) (.slice p1 (dig x.natAbs).length c1)) hb2) hb3) hA3) hb4) hb5)
 go_wp2_with fail
 go_ret2
 exact⟨by rw[HF.out.1,HF.out.2];rfl,b0⟩
theorem a6g (v:Value) (x:Int) (w:World) (hv:Raw w v x) (hl:isz x<=999999999) (h:-9223372036854775808<=x/\x<=9223372036854775807) :
  Calls Tryz.prog 136 #[v] w fun e W'=>e=.returned (.tuple #[.int .i64 (aI x),.bool (aN x)])/\Below w.heap.size w W':=by
 obtain⟨b,p,n,c,rfl⟩:=hv.form
 have hl1:isz x<=1000000000:=by omega
 have hm1:isz (-9223372036854775808)<=999999999:=TY _ (by omega) (by omega)
 have hm2:isz 9223372036854775807<=999999999:=TY _ (by omega) (by omega)
 have HF:=Lib.hid (b7E h)
 have HR:=Lib.hid h
 obtain⟨cc,hcc⟩:∃ cc,dD x (-9223372036854775808)=cc:=⟨_,rfl⟩
 obtain⟨cd,hcd⟩:∃ cd,dD x 9223372036854775807=cd:=⟨_,rfl⟩
 have HC1:=Lib.hid hcc
 have HC2:=Lib.hid hcd
 have d1:decide (cc<0)=false:=by
  have:0<=cc:=by rw[<-hcc];unfold dD;rw[if_neg (by omega)];split<;>omega
  simp;omega
 have d2:decide (0<cd)=false:=by
  have:cd<=0:=by rw[<-hcd];unfold dD;split<;>(try split)<;>omega
  simp;omega
 clear hcc hcd h
 have aX:Below w.heap.size w w:=Below.refl _ _
 go_enter Tryz.func136,Tryz.ntmps136
 go_wp2_with fail
 obtain⟨hA1,i0⟩:=bx1 w rfl [.bool b,.slice p n c] 28
 have k0:=(hv.below hA1)
 (with_reducible refine(fD _ (x) _ k0 hl1).mono ?_)
 rintro e w1 ⟨v1,rfl,hi1,hb1⟩
 obtain⟨g1,p1,n1,c1,rfl⟩:=hi1.form
 obtain rfl:n1=(dig x.natAbs).length:=hi1.len
 have hf1:=Lib.hid (bV.flag hi1)
 have bH:=(i0.to hb1)
 obtain⟨s0,y0,v0,z0⟩:=bH.cf2
 go_wp2_with fail
 (with_reducible refine(qX _ _ (by omega) (by omega)).mono ?_)
 rintro e w2 ⟨v2,rfl,hi2,hb2⟩
 obtain⟨g2,p2,n2,c2,rfl⟩:=hi2.form
 go_wp2_with fail
 (with_reducible refine(qX _ _ (by omega) (by omega)).mono ?_)
 rintro e w3 ⟨v3,rfl,hi3,hb3⟩
 obtain⟨g3,p3,n3,c3,rfl⟩:=hi3.form
 have gV:=(((bH.store2 (.bool g1) (.slice p1 (dig x.natAbs).length c1)).to hb2).to hb3)
 obtain⟨t0,w0⟩:=gV.cs2
 have b1:=(gV).1
 obtain⟨hA2,i1⟩:=bx1 w3 rfl [.bool false,.slice none 0 0] 28
 have f1:=((gV.to hA2)).1
 go_wp2_with fail
 have a0:=(((hi1.aH bH rfl rfl (.bool g1) (.slice p1 (dig x.natAbs).length c1)).below hb2).below hb3)
 obtain⟨hA3,j1,j0⟩:=bx2 w3 rfl [.bool g2,.slice p2 n2 c2] 28 [.bool g3,.slice p3 n3 c3] 28
 have l0:=(a0.below hA3).raw
 have q0:=(hi2.below hb3)
 have m0:=(q0.below hA3).raw
 (with_reducible refine(lN _ _ (x) ((-9223372036854775808)) _ l0 m0 hl hm1).mono ?_)
 rw[HC1.out]
 rintro e w4 ⟨rfl,hb4⟩
 have jT:=((gV.to hA3).to hb4)
 obtain⟨u0,x0⟩:=jT.cs2
 have a1:=(j0.to hb4)
 obtain⟨f0,g0⟩:=a1.cs2
 go_wp2_with fail
 have b0:=((a0.below hA3).below hb4)
 have n0:=b0.raw
 have r0:=((hi3.below hA3).below hb4)
 have o0:=r0.raw
 (with_reducible refine(lN _ _ (x) (9223372036854775807) _ n0 o0 hl hm2).mono ?_)
 rw[HC2.out]
 rintro e w5 ⟨rfl,hb5⟩
 have SL:=(jT.to hb5)
 have p0:=(b0.below hb5)
 have d0:=(Below.tr (Below.tr (Below.tr (Below.tr (Below.tr (Below.aH (Below.tr (Below.tr aX hA1) hb1) (b:=w.heap.size) (by omega) (.bool g1) (.slice p1 (dig x.natAbs).length c1)) hb2) hb3) hA3) hb4) hb5)
 have qq:=SL
 have qc0:=qq.c0
 have qc1:=qq.c1
 have hRd:=(p0).rd
 have hBB:=d0
 have hlen:(dig x.natAbs).length<=1000000000:=hl1
 have HS:=Lib.hid (qZ x)
 go_wp2_with fail
 go_loop [6,7,26,27,28,29,30,31,32,33,34,35,36,37,38,39,40,41,42,43,44,45,46,47,48,49] (fun nn i _ _ _ _ _ _ _ _ _ _ _ _ _ _ _ _ _ _ _ _ _ _ _ _=>∃ (k:Nat) (i' z:Int),i=.int .i64 i'/\k<=(dig x.natAbs).length/\Hid (i'=(k:Int)-1)/\nn=.int .i64 z/\z=sg (decide (x<0)) (val ((dig x.natAbs).drop k))) (fun _ i _ _ _ _ _ _ _ _ _ _ _ _ _ _ _ _ _ _ _ _ _ _ _ _=>(intOf i+1).toNat)
 case atStart=>exact⟨(dig x.natAbs).length,_,0,rfl,Nat.le_refl _,rfl,rfl,by simp[val,sg]⟩
 case round =>
  obtain⟨k,i',z,rfl,hk,hk',rfl,hz⟩:=hrel
  cases k with
  | zero =>
   obtain rfl:i'=-1:=by have:=hk'.out;simpa using this
   have HZ:Hid (z=aI x):=by
    unfold Hid;rw[HF.out.1,hz]
    simp only[List.drop_zero,aK]
    exact HS.out
   clear hz
   go_wp2_with fail
   go_ret2
   exact⟨by rw[HF.out.2,<-HZ.out];rfl,hBB⟩
  | succ k =>
   obtain rfl:i'=(k:Int):=by have:=hk'.out;simp at this;omega
   have hkl:k<(dig x.natAbs).length:=by omega
   obtain⟨ba,oa,rfl,hba,hca⟩:=hRd.at (by intro e;rw[e] at hkl;simp at hkl)
   have hcell:=hca k hkl
   have ga:gr (dig x.natAbs) k<=999999999:=gQ (bP _) k
   have h0:(0:Int)<=k:=by omega
   have h1:(k:Int)<(dig x.natAbs).length:=by omega
   obtain⟨v',hvd⟩:∃ v',val ((dig x.natAbs).drop (k+1))=v':=⟨_,rfl⟩
   rw[hvd] at hz
   clear hca
   by_cases hneg:x<0
   ·have hdx:decide (x<0)=true:=decide_eq_true hneg
    obtain rfl:g1=true:=by have:=hf1.out;rw[this];exact hdx
    obtain rfl:z=-(v':Int):=by rw[hz,hdx];simp[sg]
    clear hz
    have HV:Hid (-(val ((dig x.natAbs).drop k):Int)=(-(v':Int))*1000000000-(gr (dig x.natAbs) k:Int)):=by
     have h9:=kK hkl
     rw[bI,hvd] at h9
     show _=_
     omega
    have hb3:(v':Int)*1000000000+gr (dig x.natAbs) k<=9223372036854775808:=by
     have h1:=KO (l:=dig x.natAbs) k
     rw[aK,kK hkl,bI,hvd] at h1
     have:=HR.out
     omega
    have e0:IntKind.i64.wrap (gr (dig x.natAbs) k:Int)=(gr (dig x.natAbs) k:Int):=rQ (by omega) (by omega)
    have e1:IntKind.i64.wrap (-(v':Int)*1000000000)=-(v':Int)*1000000000:=rQ (by omega) (by omega)
    have e2:IntKind.i64.wrap (-(v':Int)*1000000000-(gr (dig x.natAbs) k:Int))=-(v':Int)*1000000000-(gr (dig x.natAbs) k:Int):=rQ (by omega) (by omega)
    clear hvd
    go_wp2_with fail
    go_round
    case rel=>exact⟨k,_,_,rfl,by omega,rfl,rfl,by rw[hdx];simp only[sg,if_true,if_false,Bool.false_eq_true];exact HV.out.symm⟩
    case measure=>simp[intOf]
   ·have hdx:decide (x<0)=false:=decide_eq_false hneg
    obtain rfl:g1=false:=by have:=hf1.out;rw[this];exact hdx
    obtain rfl:z=(v':Int):=by rw[hz,hdx];simp[sg]
    clear hz
    have HV:Hid ((val ((dig x.natAbs).drop k):Int)=((v':Int))*1000000000+(gr (dig x.natAbs) k:Int)):=by
     have h9:=kK hkl
     rw[bI,hvd] at h9
     show _=_
     omega
    have hb3:(v':Int)*1000000000+gr (dig x.natAbs) k<=9223372036854775807:=by
     have h1:=KO (l:=dig x.natAbs) k
     rw[aK,kK hkl,bI,hvd] at h1
     have:=HR.out
     omega
    have e0:IntKind.i64.wrap (gr (dig x.natAbs) k:Int)=(gr (dig x.natAbs) k:Int):=rQ (by omega) (by omega)
    have e1:IntKind.i64.wrap ((v':Int)*1000000000)=(v':Int)*1000000000:=rQ (by omega) (by omega)
    have e2:IntKind.i64.wrap ((v':Int)*1000000000+(gr (dig x.natAbs) k:Int))=(v':Int)*1000000000+(gr (dig x.natAbs) k:Int):=rQ (by omega) (by omega)
    clear hvd
    go_wp2_with fail
    go_round
    case rel=>exact⟨k,_,_,rfl,by omega,rfl,rfl,by rw[hdx];simp only[sg,if_true,if_false,Bool.false_eq_true];exact HV.out.symm⟩
    case measure=>simp[intOf]
theorem a2R (v:Value) (x:Int) (w:World) (hv:Raw w v x) (hl:isz x<=999999999) :
  Calls Tryz.prog 136 #[v] w fun e W'=>e=.returned (.tuple #[.int .i64 (aI x),.bool (aN x)])/\Below w.heap.size w W':=by
 by_cases h1:x < -9223372036854775808
 ·exact a2S v x w hv hl h1
 by_cases h2:9223372036854775807<x
 ·exact a1c v x w hv hl h2
 ·exact a6g v x w hv hl ⟨by omega,by omega⟩
end Go.Proofs.YtidfgdchcpmnfaaGreat
