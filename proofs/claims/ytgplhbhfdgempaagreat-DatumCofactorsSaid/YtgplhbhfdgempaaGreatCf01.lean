/-
  Lemmas for the theorem vcofactors_holds, part 1 of 2.
-/
import Derived.Test.YtgplhbhfdgempaaGreatDb01
import Derived.Test.YtgplhbhfdgempaaGreatDb02
import Derived.Test.YtgplhbhfdgempaaGreatDb03
import Derived.Test.YtgplhbhfdgempaaGreatDb04
import Derived.Test.YtgplhbhfdgempaaGreatDb05
import Derived.Test.YtgplhbhfdgempaaGreatDb06
import Derived.Test.YtgplhbhfdgempaaGreatDb07
import Derived.Test.YtgplhbhfdgempaaGreatDb08
import Derived.Test.YtgplhbhfdgempaaGreatDb09
import Derived.Test.YtgplhbhfdgempaaGreatDb10
import Derived.Test.YtgplhbhfdgempaaGreatDb11
import Derived.Test.YtgplhbhfdgempaaGreatDb12
import Derived.Test.YtgplhbhfdgempaaGreatDb13
import Derived.Test.YtgplhbhfdgempaaGreatDb14
import Derived.Test.YtgplhbhfdgempaaGreatDb15
import Derived.Test.YtgplhbhfdgempaaGreatDb16
import Derived.Test.YtgplhbhfdgempaaGreatDb17
import Derived.Test.YtgplhbhfdgempaaGreatDb18
import Derived.Test.YtgplhbhfdgempaaGreatDb19
import Derived.Test.YtgplhbhfdgempaaGreatDb20
import Derived.Test.YtgplhbhfdgempaaGreatDb21
import Derived.Test.YtgplhbhfdgempaaGreatDb22
import Derived.Test.YtgplhbhfdgempaaGreatDb23
import Derived.Test.YtgplhbhfdgempaaGreatDb24
import Derived.Test.YtgplhbhfdgempaaGreatDb25
import Derived.Test.YtgplhbhfdgempaaGreatDb26
import Derived.Test.YtgplhbhfdgempaaGreatDb27
import Derived.Test.YtgplhbhfdgempaaGreatDb28
import Derived.Test.YtgplhbhfdgempaaGreatDb29
import Derived.Test.YtgplhbhfdgempaaGreatDb30
import Derived.Test.YtgplhbhfdgempaaGreatDb31
import Derived.Test.YtgplhbhfdgempaaGreatDb32
import Derived.Test.YtgplhbhfdgempaaGreatDb33
import Derived.Test.YtgplhbhfdgempaaGreatDb34
import Derived.Test.YtgplhbhfdgempaaGreatDb35
import Derived.Test.YtgplhbhfdgempaaGreatDb36
import Derived.Test.YtgplhbhfdgempaaGreatDb37
namespace Go.Proofs.YtgplhbhfdgempaaGreat
open Go Go.RowKit
set_option linter.unusedSimpArgs false
set_option linter.unusedVariables false
set_option maxRecDepth 20000
theorem Bx.f5 {w:World} {b:Nat} {u0 u1 u2 u3 u4 u5:Value} {cs:List Value} (h:Bx w b (u0::u1::u2::u3::u4::u5::cs)):w.frozen? ⟨b,5,none⟩=false:=(h.2 5 u5 rfl).2
def qjXz (r c:Nat) (a:Mt):Mt:=fun i j=>if i<r/\j<c then a i j else 0
def qjmz (r:Nat):Mt:=fun i j=>if i<r/\i=j then 1 else 0
theorem qzSz {r c i j:Nat} {a:Mt} (h1:i<r) (h2:j<c):qjXz r c a i j=a i j:=eY ⟨h1,h2⟩
theorem qyGz {r c i j:Nat} {a:Mt} (h:¬ (i<r/\j<c)):qjXz r c a i j=0:=dw h
theorem a1h {r c:Nat} {a b:Mt} (h:∀ i,i<r->∀ j,j<c->a i j=b i j):qjXz r c a=qjXz r c b:=by
 funext i j;unfold qjXz;split
 ·rename_i h1;exact h i h1.1 j h1.2
 ·rfl
theorem a5z {r c:Nat} {a b:Mt} (h:qjXz r c a=qjXz r c b) {i j:Nat} (h1:i<r) (h2:j<c):a i j=b i j:=by
 have:=congrFun (congrFun h i) j;rwa [qzSz h1 h2,qzSz h1 h2] at this
theorem qnYz {r f c M:Nat} (h:f<=M) (a b:Mt):qjXz r c (mm f a b)=mm M (qjXz r f a) (qjXz f c b):=by
 funext i j
 obtain⟨d,rfl⟩:∃ d,M=f+d:=⟨M-f,by omega⟩
 unfold mm
 rw[a6e,kP d (fun k _=>by rw[qyGz (by omega)];grind)]
 by_cases h1:i<r/\j<c
 ·have h2:sm f (fun k=>qjXz r f a i k*qjXz f c b k j)=sm f fun k=>a i k*b k j:=fG f fun k hk=>by rw[qzSz h1.1 hk,qzSz hk h1.2]
  rw[qzSz h1.1 h1.2,h2];grind
 ·rw[qyGz h1,kP f (fun k hk=>?_)]
  ·grind
  ·by_cases h2:i<r
   ·rw[qyGz (i:=k) (j:=j) (by omega)];grind
   ·rw[qyGz (i:=i) (by omega)];grind
theorem qqOz (r c:Nat) (a:Mt):qjXz r c (tr a)=tr (qjXz c r a):=by
 funext i j;show (if i<r/\j<c then a j i else 0)=if j<c/\i<r then a j i else 0
 by_cases h:i<r/\j<c
 ·rw[eY h,eY ⟨h.2,h.1⟩]
 ·rw[dw h,dw (by omega)]
theorem a6Q (r:Nat):qjXz r r idm=qjmz r:=by
 funext i j;unfold qjXz qjmz idm
 by_cases h1:i=j
 ·subst h1;by_cases h2:i<r
  ·simp[h2]
  ·simp[h2]
 ·simp[h1]
theorem b3G (a:Mt):tr (tr a)=a:=rfl
theorem b6H (r:Nat):tr (qjmz r)=qjmz r:=by
 funext i j;show (if j<r/\j=i then (1:Rat) else 0)=if i<r/\i=j then 1 else 0
 by_cases h:i=j
 ·subst h;rfl
 ·rw[dw (by omega),dw (by omega)]
theorem a0z (n:Nat) (a b:Mt):tr (mm n a b)=mm n (tr b) (tr a):=by
 funext i j;exact fG n fun k _=>by show a j k*b k i=b k i*a j k;grind
theorem a7j {r c M:Nat} (h:r<=M) (a:Mt):mm M (qjmz r) (qjXz r c a)=qjXz r c a:=by
 funext i j;unfold mm
 by_cases h1:i<r
 ·rw[KP i M (by omega) (fun k _ hk=>by unfold qjmz;rw[dw (by omega)];grind)]
  unfold qjmz;rw[eY ⟨h1,rfl⟩];grind
 ·rw[kP M (fun k _=>by unfold qjmz;rw[dw (by omega)];grind),qyGz (by omega)]
theorem a7y {r c M:Nat} (h:c<=M) (a:Mt):mm M (qjXz r c a) (qjmz c)=qjXz r c a:=by
 have:=rD tr (a7j (c:=r) h (tr a))
 rw[a0z,<-qqOz,b3G,b6H] at this;exact this
theorem b4k (r c:Nat) (a b:Mt):qjXz r c (ma a b)=ma (qjXz r c a) (qjXz r c b):=by
 funext i j;unfold qjXz ma;split<;>grind
theorem b4l (r c:Nat) (a b:Mt):qjXz r c (ms a b)=ms (qjXz r c a) (qjXz r c b):=by
 funext i j;unfold qjXz ms;split<;>grind
theorem a7z (n:Nat) (a b c:Mt):mm n a (ms b c)=ms (mm n a b) (mm n a c):=by
 funext i j;unfold mm ms;rw[<-a2n];exact fG n fun k _=>by grind
theorem c3C (n:Nat) (a b c:Mt):mm n a (ma b c)=ma (mm n a b) (mm n a c):=by
 funext i j;unfold mm ma;rw[<-wO];exact fG n fun k _=>by grind
theorem YD (n:Nat) (a:Mt):mm n zm a=zm:=by
 funext i j;exact kP n fun k _=>by show 0*a k j=0;grind
theorem a7C (a:Mt):ms a a=zm:=by funext i j;show a i j-a i j=0;grind
theorem b2d (a:Mt):ms a zm=a:=by funext i j;show a i j-0=a i j;grind
theorem c3Y (a:Mt):ma zm a=a:=by funext i j;show 0+a i j=a i j;grind
theorem c3S (a b:Mt):tr (ma a b)=ma (tr a) (tr b):=rfl
theorem b4m {r c:Nat} {a:Mt} (h:∀ i,i<r->∀ j,j<c->a i j=0):qjXz r c a=zm:=by
 funext i j;by_cases h1:i<r/\j<c
 ·rw[qzSz h1.1 h1.2];exact h i h1.1 j h1.2
 ·exact qyGz h1
def around (N:Nat) (s q:Mt):Mt:=mm N (mm N s q) (tr s)
section
section
variable {N:Nat} {n g b w q k s I J:Mt}
theorem c2H (hA:tr (ma n (mm N g (tr g)))=ma n (mm N g (tr g))) (hI:tr I=I) (Iq:mm N I q=q) (qI:mm N (tr q) I=tr q)
  (Aq:mm N (ma n (mm N g (tr g))) q=I):tr q=q:=by
 have h1:=rD tr Aq
 rw[a0z,hA,hI] at h1
 rw[<-qI,<-Aq,<-dZ,h1,Iq]
theorem c2G (nI:mm N n I=n) (ng:mm N n g=zm) (hs:s=ms I (mm N g (mm N w (tr b)))):mm N n s=n:=by
 rw[hs,a7z,nI,<-dZ,ng,YD,b2d]
theorem c2E (Ig:mm N I g=g) (gJ:mm N g J=g) (wb:mm N w (mm N (tr b) g)=J) (hs:s=ms I (mm N g (mm N w (tr b)))):mm N s g=zm:=by
 rw[hs,a7B,Ig,dZ,dZ,wb,gJ,a7C]
theorem c2F (bI:mm N (tr b) I=tr b) (Jb:mm N J (tr b)=tr b) (bw:mm N (mm N (tr b) g) w=J) (hs:s=ms I (mm N g (mm N w (tr b)))):mm N (tr b) s=zm:=by
 rw[hs,a7z,bI,<-dZ,<-dZ,bw,Jb,a7C]
theorem c2I (Ig:mm N I g=g) (gJ:mm N g J=g) (ng:mm N n g=zm) (qA:mm N q (ma n (mm N g (tr g)))=I) (hk:mm N (mm N (tr g) g) k=J):mm N q g=mm N g k:=by
 have h1:mm N (mm N q (ma n (mm N g (tr g)))) g=g:=by rw[qA,Ig]
 rw[dZ,b6A,ng,c3Y,dZ,<-dZ N N q] at h1
 have h2:mm N (mm N (mm N q g) (mm N (tr g) g)) k=mm N g k:=by rw[h1]
 rw[dZ,hk,dZ,gJ] at h2;exact h2
theorem c2J (qA:mm N q (ma n (mm N g (tr g)))=I):mm N q n=ms I (mm N (mm N q g) (tr g)):=by
 rw[<-qA,c3C,<-dZ];funext i j;show _=_+_-_;grind
theorem b6Y (hI:tr I=I) (hn:tr n=n) (nI:mm N n I=n) (Ig:mm N I g=g) (Iq:mm N I q=q) (qI':mm N (tr q) I=tr q) (gJ:mm N g J=g) (bI:mm N (tr b) I=tr b) (Jb:mm N J (tr b)=tr b)
  (ng:mm N n g=zm) (qA:mm N q (ma n (mm N g (tr g)))=I) (Aq:mm N (ma n (mm N g (tr g))) q=I) (hk:mm N (mm N (tr g) g) k=J)
  (wb:mm N w (mm N (tr b) g)=J) (bw:mm N (mm N (tr b) g) w=J) (hs:s=ms I (mm N g (mm N w (tr b)))) :
  tr (around N s q)=around N s q/\mm N (mm N n (around N s q)) n=n/\mm N (around N s q) (mm N n (around N s q))=around N s q/\mm N (tr b) (around N s q)=zm:=by
 have qT:tr q=q:=c2H (g:=g) (by rw[c3S,a0z,b3G,hn]) hI Iq qI' Aq
 have nS:=c2G (w:=w) (b:=b) nI ng hs
 have sn:mm N (tr s) n=n:=by have:=rD tr nS;rwa [a0z,hn] at this
 have sg:=c2E Ig gJ wb hs
 have bS:=c2F bI Jb bw hs
 have qg:=c2I Ig gJ ng qA hk
 have qn:=c2J qA
 have nqn:mm N n (mm N q n)=n:=by
  rw[qn,a7z,nI,qg,<-dZ,<-dZ,ng,YD,YD,b2d]
 have sqg:mm N s (mm N q g)=zm:=by rw[qg,<-dZ,sg,YD]
 have c5v:mm N s (mm N (mm N q n) q)=mm N s q:=by
  rw[qn,a7B,Iq,a7z,dZ,<-dZ N N s,sqg,YD,b2d]
 refine⟨?_,?_,?_,?_⟩
 ·unfold around;rw[a0z,a0z,b3G,qT,dZ]
 ·unfold around
  rw[dZ,dZ,sn,dZ,<-dZ,nS,nqn]
 ·have h1:mm N n (around N s q)=mm N n (mm N q (tr s)):=by unfold around;rw[dZ,<-dZ,nS]
  rw[h1];unfold around
  rw[dZ,<-dZ N N (tr s),sn,dZ,<-dZ N N q,<-dZ N N (mm N q n),<-dZ N N s,c5v]
 ·unfold around;rw[<-dZ,<-dZ,bS,YD,YD]
end
theorem a2N (N:Nat) (s q:Mt):qjXz N N (around N s q)=around N (qjXz N N s) (qjXz N N q):=by
 unfold around;rw[qnYz (aj N),qnYz (aj N),qqOz]
theorem PL {c M:Nat} {a x:Mt} (H:oL c a x) (h:c<=M):mm M (qjXz c c a) (qjXz c c x)=qjmz c/\mm M (qjXz c c x) (qjXz c c a)=qjmz c:=by
 rw[<-qnYz h,<-qnYz h,<-a6Q];exact⟨a1h H.r,a1h H.l⟩
theorem UK {N c:Nat} {n g b w q:Mt} (H:Gau N c n g) (hw:oL c (bg N b g) w) (hq:oL N (nor c n g) q) :
  (∀ i,i<N->∀ j,j<N->around N (uT c g b w) q i j=around N (uT c g b w) q j i) /\
  (∀ i,i<N->∀ j,j<N->mm N (mm N n (around N (uT c g b w) q)) n i j=n i j) /\
  (∀ i,i<N->∀ j,j<N->mm N (around N (uT c g b w) q) (mm N n (around N (uT c g b w) q)) i j=around N (uT c g b w) q i j) /\
  (∀ i,i<c->∀ j,j<N->mm N (tr b) (around N (uT c g b w) q) i j=0):=by
 have hc:c<=N:=by have:=H.dim;omega
 have ⟨k,hk⟩:∃ k,oL c (bg N g g) k:=⟨_,inv_of ((a1B idm).mpr fun x hx=>H.gtg fun s hs=>by
  have:=hx s hs;unfold bg at this;rwa [yX] at this)⟩
 have k1:=(PL hk hc).1
 have ⟨w1,w2⟩:=PL hw hc
 have ⟨q1,q2⟩:=PL hq (aj N)
 have e1:∀ a b:Mt,qjXz c c (bg N a b)=mm N (tr (qjXz N c a)) (qjXz N c b):=fun a b=>by unfold bg;rw[qnYz (aj N),qqOz]
 have e2:qjXz N N (nor c n g)=ma (qjXz N N n) (mm N (qjXz N c g) (tr (qjXz N c g))):=by unfold nor;rw[b4k,qnYz hc,qqOz]
 rw[e1] at k1 w1 w2;rw[e2] at q1 q2
 have hs:qjXz N N (uT c g b w)=ms (qjmz N) (mm N (qjXz N c g) (mm N (qjXz c c w) (tr (qjXz N c b)))):=by
  unfold uT;rw[b4l,a6Q,qnYz hc,qnYz hc,qqOz]
 have hA:=b6Y (b6H N) (show tr (qjXz N N n)=qjXz N N n by rw[<-qqOz];exact a1h fun i hi j hj=>H.sym j hj i hi)
  (a7y (aj N) n) (a7j (aj N) g) (a7j (aj N) q) (by rw[<-qqOz];exact a7y (aj N) (tr q)) (a7y hc g)
  (by rw[<-qqOz];exact a7y (aj N) (tr b)) (by rw[<-qqOz];exact a7j hc (tr b))
  (by rw[<-qnYz (aj N)];exact b4m H.ng) q2 q1 k1 w2 w1 hs
 rw[<-a2N,<-qqOz,<-qnYz (aj N),<-qnYz (aj N),<-qnYz (aj N),<-qqOz,<-qnYz (aj N)] at hA
 exact⟨fun i hi j hj=>(a5z hA.1 hi hj).symm,fun i hi j hj=>a5z hA.2.1 hi hj,fun i hi j hj=>a5z hA.2.2.1 hi hj,fun i hi j hj=>by
  have:=congrFun (congrFun hA.2.2.2 i) j;rwa [qzSz hi hj] at this⟩
end
set_option maxRecDepth 100000
set_option maxHeartbeats 1000000
def b0q:Ctr:=⟨[tM],[tB],fun x=>okM x.1/\wdM (show MQ from x.1)=(show MQ from x.1).length,fun x=>(mD x.1,())⟩
def b6T:Ctr:=⟨[.list tQ],[tB],fun x=>(show LQ' from x.1).length<=1000/\∀ q ∈ (show LQ' from x.1),rsz q<=100000000,fun x=>((show LQ' from x.1).any (fun q=>decide (q≠0)),())⟩
theorem NQ:aY Tryz.prog 13 b0q:=by
 refine bH ((nil0.ad FN).ad NR) ⟨[],[],[]⟩ Tryz.func13 rfl (by decide) (fun x=>[]) (fun x hp=>?_)
 obtain⟨a,u⟩:=x
 change List (List Rat) at a
 refine bP ((okM a/\(oP a/\oP (trM a))/\True)/\True/\decide (a=trM a)=mD a/\True) (by kernel_rfl) ?_
 have hZ:(⟨false,0,[],[]⟩:aF)=bV:=rfl
 dsimp only[aA,asT,aB,aC,Ty.den,Lf.den] at *
 simp only[hZ,Int.toNat_natCast,aJ,dh,bn,mg,mW,aH,nameAt,aX,aN,aZ,rowAt,iw,gJ]
 have hp:okM a/\wdM a=a.length:=hp
 obtain⟨ha,hw⟩:=hp
 have q1:=ha.r64
 have q2:=ha.c64
 have hM:isM a a.length a.length:=by have:=ha.1;rwa [hw] at this
 have hT:=hM.trp
 refine⟨⟨ha,ha.oP,?_⟩,?_⟩
 ·refine okM.oP ⟨hT.self,fun i hi j hj=>?_⟩
  rw[hT.len] at hi
  rw[hT.wd] at hj
  rw[hM.KR hi hj];exact ha.2 j hj i (by omega)
 ·unfold mD
  refine yj.mpr ⟨fun h i hi j hj=>?_,fun h=>?_⟩
  ·rw[<-hM.KR hi hj,<-h]
  ·exact hM.tab.symm.trans ((fE fun i hi j hj=>by rw[hM.KR hi hj];exact h i hi j hj).trans hT.tab)
theorem a2b:aY Tryz.prog 30 b6T:=by
 refine bH (nil0.ad a6y) ⟨[],[],[]⟩ Tryz.func30 rfl (by decide) (fun x=>[.inv {k:Nat // k<=(show LQ' from x.1).length/\((show LQ' from x.1).take k).any (fun q=>decide (q≠0))=false} (fun k=>[(3,.val tI (k.1:Int))]) (fun k=>[]) (fun k=>(show LQ' from x.1).length-k.1) ⟨0,by omega,rfl⟩ (fun _=>[])]) (fun x hp=>?_)
 obtain⟨x,u⟩:=x
 change List Rat at x
 refine bP ((asT Int 0=0/\True)/\∀ (i:{ k:Nat // k<=List.length x/\(List.any (List.take k x) fun(q:Rat)=>decide (q≠0))=false }),asT Bool true=true/\ifB (decide (aA (aB i)<aA x.length)) ((0<=aA (aB i)/\aA (aB i)<aA x.length/\rsz (List.getD x (aA (aB i)).toNat 0)<=190000000/\True)/\ifB (sgn (Rat.num (List.getD x (aA (aB i)).toNat 0)) != 0) (True/\(true=List.any x fun(q:Rat)=>decide (q≠0))/\True) (∃ (i':{ k:Nat // k<=List.length x/\(List.any (List.take k x) fun(q:Rat)=>decide (q≠0))=false }),List.length x-aB i'<List.length x-aB i/\IntKind.wrap IntKind.i64 (aA (aB i)+1)=aA (aB i')/\True)) (True/\(false=List.any x fun(q:Rat)=>decide (q≠0))/\True)) (by kernel_rfl) ?_
 have hZ:(⟨false,0,[],[]⟩:aF)=bV:=rfl
 dsimp only[aA,asT,aB,aC,Ty.den,Lf.den] at *
 simp only[hZ,Int.toNat_natCast,aJ,dh,bn,mg,mW,aH,nameAt,aX,aN,aZ,rowAt,iw,gJ]
 have hp:x.length<=1000/\∀ q ∈ x,rsz q<=100000000:=hp
 obtain⟨hl,sx⟩:=hp
 refine fun i=>⟨fun h1=>?_,fun h1=>?_⟩
 ·have hi:i.1<x.length:=by omega
  have z:rsz (x.getD i.1 0)<=100000000:=fA sx hi
  refine⟨⟨by omega,h1,by omega⟩,fun h2=>?_,fun h2=>⟨⟨i.1+1,by omega,?_⟩,by simp only;omega,by rw[bF (by omega) (by omega)];rfl⟩⟩
  ·refine(tY.mpr ⟨x.getD i.1 0,jY hi,?_⟩).symm
   show decide (x.getD i.1 0≠0)=true
   by_cases e:x.getD i.1 0=0
   ·rw[e] at h2;cases h2
   ·rw[dh];exact e
  ·have e:x.getD i.1 0=0:=mQ.mp (by simpa using h2)
   rw[mM (d:=0) hi,i.2.2]
   show (false || decide (x.getD i.1 0≠0))=false
   rw[e];rfl
 ·have h3:=i.2.2
  rw[jG (by omega)] at h3
  exact h3.symm
def b6X:Ctr:=⟨[tM],[tB],fun x=>okM x.1,fun x=>(wS x.1,())⟩
theorem TP:aY Tryz.prog 27 b6X:=by
 refine bH (nil0.ad a2b) ⟨[],[],[]⟩ Tryz.func27 rfl (by decide) (fun x=>[.inv {k:Nat // k<=(show MQ from x.1).length/\∀ i,i<k->∀ j,j<wdM (show MQ from x.1)->ent (show MQ from x.1) i j=0} (fun k=>[(7,.val tI (k.1:Int))]) (fun k=>[]) (fun k=>(show MQ from x.1).length-k.1) ⟨0,by omega,fun i h=>absurd h (by omega)⟩ (fun _=>[])]) (fun x hp=>?_)
 obtain⟨a,u⟩:=x
 change List (List Rat) at a
 refine bP ((asT Int 0=0/\True)/\∀ (i:{ k:Nat // k<=List.length a/\∀ (i:Nat),i<k->∀ (j:Nat),j<wdM a->ent a i j=0 }),asT Bool true=true/\ifB (decide (aA (aB i)<aA a.length)) ((0<=aA (aB i)/\aA (aB i)<aA a.length/\True)/\((List.length (List.getD a (aA (aB i)).toNat (aC Rat))<=1000/\∀ (q:Rat),q ∈ List.getD a (aA (aB i)).toNat (aC Rat)->rsz q<=100000000)/\True)/\ifB (List.any (List.getD a (aA (aB i)).toNat (aC Rat)) fun(q:Rat)=>decide (q≠0)) (True/\false=wS a/\True) (∃ (i':{ k:Nat // k<=List.length a/\∀ (i:Nat),i<k->∀ (j:Nat),j<wdM a->ent a i j=0 }),List.length a-aB i'<List.length a-aB i/\IntKind.wrap IntKind.i64 (aA (aB i)+1)=aA (aB i')/\True)) (True/\true=wS a/\True)) (by kernel_rfl) ?_
 try simp only[aJ,dh,bn]
 try dsimp only[Ty.den,Lf.den,asT] at *
 try simp only[uF,uD,trF,uG]
 have hZ:(⟨false,0,[],[]⟩:aF)=bV:=rfl
 try dsimp only[aA,asT,aB,aC,Ty.den,Lf.den] at *
 try simp only[hZ,Int.toNat_natCast,aJ,dh,bn,mg,mW,aH,nameAt,aX,aN,aZ,rowAt,iw,gJ]
 try simp only[jK,List.all_cons,List.all_nil,yx,nI,qw,jd,uy,ne_eq,ak,qg,nS,tC,xk,imp_self,AO,and_self,mg,mW,iD,qZ,qO,List.length_cons,List.length_nil]
 try simp only[wdF,iT,jA]
 have ha:okM a:=hp
 have q1:=ha.r64
 have q2:=ha.c64
 refine fun i=>⟨fun h1=>?_,fun h1=>(jw fun k hk j hj=>i.2.2 k (by omega) j hj).symm⟩
 have hi:i.1<a.length:=by omega
 have hr:=ha.row hi
 have hmem:a.getD i.1 [] ∈ a:=by rw[ay,dn hi];exact jm hi
 refine⟨⟨by omega,h1⟩,⟨by rw[hr];omega,fun q hq=>ha.ent hmem hq⟩,fun h2=>?_,fun h2=>⟨⟨i.1+1,by omega,fun k hk j hj=>?_⟩,by simp only;omega,?_⟩⟩
 ·obtain⟨q,hq,hq2⟩:=tY.mp h2
  obtain⟨j,hj,e⟩:=Bc hq
  refine(jq fun h=>oz hq2 ?_).symm
  have e5:ent a i.1 j=q:=by
   show (a.getD i.1 []).getD j 0=_
   rw[ay (l:=a.getD i.1 []),dn hj];exact e
  exact e5.symm.trans (h i.1 hi j (by omega))
 ·by_cases h3:k<i.1
  ·exact i.2.2 k h3 j hj
  ·rw[show k=i.1 by omega]
   have hj2:j<(a.getD i.1 []).length:=by omega
   have:=vC.mp h2 (a.getD i.1 [])[j] (jm hj2)
   have e:ent a i.1 j=(a.getD i.1 [])[j]:=by
    show (a.getD i.1 []).getD j 0=_
    rw[ay (l:=a.getD i.1 []),dn hj2];rfl
   rw[e];simpa using this
 ·rw[bF (by omega) (by omega)];rfl
theorem a1L {a b:MQ} {R C:Nat} (sa:szM a 1000000) (sb:szM b 1000000) (hM:isM (mulM a b) R C) (hw:wdM a=b.length) (h64:b.length<=7) {i j:Nat} (hi:i<R) (hj:j<C):rsz (ent (mulM a b) i j)<=14000008:=by
 have l1:(mulM a b).length=a.length:=aZ
 have hi2:i<a.length:=by have:=hM.len;omega
 have l2:wdM (mulM a b)=wdM b:=QE (by omega)
 have hj2:j<wdM b:=by have:=hM.wd;omega
 unfold mulM
 rw[kN hi2 hj2]
 have:=BK (K:=2000000) (f:=fun k=>ent a i k*ent b k j) b.length (fun k hk=>by
  have y1:=sa i hi2 k (by omega)
  have y2:=sb k hk j hj2
  have y3:=oI (ent a i k) (ent b k j)
  show rsz (ent a i k*ent b k j)<=_
  omega)
 have y4:b.length*(2000000+1)<=7*2000001:=oh h64 (aj _)
 show rsz (sm b.length fun k=>ent a i k*ent b k j)<=_
 omega
def b6R:Ctr:=⟨[tM,tM],[tB],fun x=>RZ x.1 x.2.1/\(show MQ from x.2.1).length<=7,fun x=>(lY x.1 x.2.1,())⟩
theorem a1q:aY Tryz.prog 63 b6R:=by
 refine bH ((((nil0.ad zD).ad QA).ad NQ).ad TP) ⟨[],[],[]⟩ Tryz.func63 rfl (by decide) (fun x=>[]) (fun x hp=>?_)
 obtain⟨a,b,u⟩:=x
 change List (List Rat) at a
 change List (List Rat) at b
 refine bP (let A₀:=(List.getD b 0 (aC Rat)).length;((okM a/\wdM a=List.length a)/\(((!mD a)==false)=true->((!mD a)==false)=true/\((!mD a)==false)=true/\(okM a/\okM b/\wdM a=List.length b/\szM a 1000000/\szM b 1000000)/\True)/\(((!mD a)==false)=true->((!mD a)==false)=true/\okM (mulM a b)/\True)/\(((!mD a)==false)=true->((!mD a)==false)=true/\True)/\((!mD a)=false->((!mD a)==false)=true)/\True)/\ifB (bif !mD a then true else !wS (mulM a b)) (True/\false=lY a b/\True) ((okE b/\True)/\(asT Int 0<=0/\0<aA b.length/\(((aA (rkM b)==aA A₀)==true)=true->((aA (rkM b)==aA A₀)==true)=true/\True)/\(((aA (rkM b)==aA A₀)==true)=true->((aA (rkM b)==aA A₀)==true)=true/\okE a/\True)/\(((aA (rkM b)==aA A₀)==true)=true->((aA (rkM b)==aA A₀)==true)=true/\((aA (rkM b)==aA A₀)==true)=true/\True)/\(((aA (rkM b)==aA A₀)==true)=true->((aA (rkM b)==aA A₀)==true)=true/\((aA (rkM b)==aA A₀)==true)=true/\True)/\((aA (rkM b)==aA A₀)=true->((aA (rkM b)==aA A₀)==true)=true)/\True)/\True/\(bif aA (rkM b)==aA A₀ then aA (rkM b)==IntKind.wrap IntKind.i64 (aA a.length-aA (rkM a)) else false)=lY a b/\True)) (by kernel_rfl) ?_
 try simp only[aJ,dh,bn]
 try dsimp only[Ty.den,Lf.den,asT] at *
 try simp only[uF,uD,trF,uG]
 have hZ:(⟨false,0,[],[]⟩:aF)=bV:=rfl
 try dsimp only[aA,asT,aB,aC,Ty.den,Lf.den] at *
 try simp only[hZ,Int.toNat_natCast,aJ,dh,bn,mg,mW,aH,nameAt,aX,aN,aZ,rowAt,iw,gJ]
 try simp only[jK,List.all_cons,List.all_nil,yx,nI,qw,jd,uy,ne_eq,ak,qg,nS,tC,xk,imp_self,AO,and_self,mg,mW,iD,qZ,qO,List.length_cons,List.length_nil]
 try simp only[wdF,iT,jA]
 have hp:RZ a b/\b.length<=7:=hp
 obtain⟨hp,b7⟩:=hp
 obtain⟨ea,eb,hw,hl,sa,sb⟩:=hp
 have ha:=ea.1
 have hb:=eb.1
 have q1:=ha.r64
 have q2:=hb.r64
 have q3:=hb.c64
 have q4:=hb.pos
 have ra:rkM a<=a.length:=PZ a
 have rb:rkM b<=b.length:=PZ b
 have hM:isM (mulM a b) a.length (wdM b):=ha.1.mul (by have:=hb.1;rwa [hl,<-hw] at this)
 have okP:okM (mulM a b):=⟨hM.self,fun i hi j hj=>by
  rw[hM.len] at hi;rw[hM.wd] at hj
  exact jc (a1L sa sb hM (by omega) b7 hi hj) (by omega)⟩
 refine⟨⟨⟨ha,hw⟩,fun h=>⟨h,h,ha,hb,by omega,sa,sb⟩,fun h=>⟨h,okP⟩⟩,fun h=>?_,fun h=>⟨eb,⟨by omega,by omega,fun h=>⟨h,ea⟩⟩,?_⟩⟩
 ·unfold lY
  rcases h with h|h
  ·rw[h];rfl
  ·rw[h,Bool.and_false];rfl
 ·unfold lY
  rw[h.1,h.2,bF (by omega) (by omega)]
  by_cases h3:rkM b=wdM b
  ·rw[show (((rkM b:Nat):Int)==((wdM b:Nat):Int))=true by rw[h3];exact beq_self_eq_true _,jw h3]
   show (((rkM b:Nat):Int)==(a.length:Int)-(rkM a:Int))=decide (rkM b+rkM a=a.length)
   by_cases h4:rkM b+rkM a=a.length
   ·rw[jw h4];exact jd.mpr (by omega)
   ·rw[jq h4];exact nS.mpr (by omega)
  ·rw[show (((rkM b:Nat):Int)==((wdM b:Nat):Int))=false from nS.mpr (by omega),jq h3];rfl
theorem b2b {a b:MQ} {R C:Nat} (ha:isM a R C) (hb:isM b R C) (h:∀ i,i<R->∀ j,j<C->ent a i j=ent b i j):a=b:=by
 rw[<-ha.tab,<-hb.tab];exact fE h
def LD (n g b:MQ):MQ:=mulM (mulM (sM g b) (oN (KL n g))) (trM (sM g b))
theorem b0E {n g b:MQ} {N c:Nat} (hn:isM n N N) (hg:isM g N c) (hb:isM b N c) (hG:lY n g=true) (hR:kR (bgM g b)=true) :
  isM (LD n g b) N N/\mD (LD n g b)=true/\mulM (mulM n (LD n g b)) n=n/\mulM (LD n g b) (mulM n (LD n g b))=LD n g b/\wS (mulM (trM b) (LD n g b))=true/\∀ i,i<N->∀ j,j<N->ent (LD n g b) i j=around N (uT c (ent g) (ent b) (ent (oN (bgM g b)))) (ent (oN (KL n g))) i j:=by
 have H:=(VH hn hg).mp hG
 have hw:=a4U hg hb hR
 have a1:isM (KL n g) N N:=MX (c:=c) hn
 have t:=hg.trp
 have e0:∀ i,i<N->∀ j,j<N->nor c (ent n) (ent g) i j=ent (KL n g) i j:=fun i hi j hj=>by
  unfold KL
  rw[hn.c1I hi hj,hg.MP t hi hj]
  show ent n i j+mm c (ent g) (tr (ent g)) i j=_
  congr 1
  exact kJ (fun _ _=>rfl) fun k hk=>(hg.KR hk hj).symm
 have hq:oL N (nor c (ent n) (ent g)) (ent (oN (KL n g))):=(a3v a1 (a3M hn hg hG)).congr e0 (fun _ _ _ _=>rfl)
 obtain⟨c1,c2,c3,c4⟩:=UK H hw hq
 have s1:isM (sM g b) N N:=QB hg
 have i1:=a1.inv
 have t1:=s1.trp
 have q1:isM (LD n g b) N N:=(s1.mul i1).mul t1
 have eQ:∀ i,i<N->∀ j,j<N->ent (LD n g b) i j=around N (uT c (ent g) (ent b) (ent (oN (bgM g b)))) (ent (oN (KL n g))) i j:=fun i hi j hj=>by
  unfold LD around
  rw[(s1.mul i1).MP t1 hi hj]
  refine kJ (fun k hk=>?_) fun k hk=>?_
  ·rw[s1.MP i1 hi hk];exact kJ (fun l hl=>b5E hg hb hi hl) (fun _ _=>rfl)
  ·rw[s1.KR hk hj];exact b5E hg hb hj hk
 refine⟨q1,(a4v q1).mpr fun i hi j hj=>by rw[eQ i hi j hj,eQ j hj i hi];exact c1 i hi j hj,b2b ((hn.mul q1).mul hn) hn fun i hi j hj=>?_,b2b (q1.mul (hn.mul q1)) q1 fun i hi j hj=>?_,(a0I (hb.trp.mul q1)).mpr fun i hi j hj=>?_,eQ⟩
 ·rw[(hn.mul q1).MP hn hi hj]
  exact(kJ (fun k hk=>by rw[hn.MP q1 hi hk];exact kJ (fun _ _=>rfl) fun l hl=>eQ l hl k hk) fun _ _=>rfl).trans (c2 i hi j hj)
 ·rw[q1.MP (hn.mul q1) hi hj]
  exact(kJ (fun k hk=>eQ i hi k hk) fun k hk=>by rw[hn.MP q1 hk hj];exact kJ (fun _ _=>rfl) fun l hl=>eQ l hl j hj).trans ((c3 i hi j hj).trans (eQ i hi j hj).symm)
 ·rw[hb.trp.MP q1 hi hj]
  exact(kJ (fun k hk=>hb.KR hi hk) fun k hk=>eQ k hk j hj).trans (c4 i hi j hj)
theorem b7a {n g b:MQ} {N:Nat} (hn:isM n N N) (nC:CdM n 100) (n7:N<=7) (hP:yZ g b) (hl:g.length=N):CdM (LD n g b) 94000:=by
 have F:=a3S hP
 have hg:=F.g1
 rw[hl] at hg
 have s1:=F.s1
 rw[hl] at s1
 have a1:isM (KL n g) N N:=MX (c:=wdM g) hn
 have a2:=a7I hn hg F.c7 nC F.g2
 have i1:=a1.inv
 have h7:2 ^ N*(310+2)<=128*312:=oh (a3R n7) (aj _)
 have i2:CdM (oN (KL n g)) 39936:=(a2.inv a1).mono (by omega)
 exact((F.s2.mul i2 s1 i1).mul (F.s2.trp s1) (s1.mul i1) s1.trp).mono (by omega)
def qjGz (n g b:MR) (l:Option LR):Int :=
 if (bW n=0/\bW g=0/\bW b=0)/\okR (l.getD [])=true then
  if ((n.length=wdM n/\g.length=n.length)/\b.length=n.length/\wdM b=wdM g)/\(l.isSome=true->(l.getD []).length=n.length) then
   if lY (mq n) (mq g)=true then
    if kR (bgM (mq g) (mq b))=true then 0 else 14
   else 12
  else 4
 else 1
theorem b0d {n g b:MR} {l:Option LR} (h:qjGz n g b l=0):a8v n g b/\okR (l.getD [])=true/\(l.isSome=true->(l.getD []).length=n.length):=by
 unfold qjGz at h
 by_cases h0:(bW n=0/\bW g=0/\bW b=0)/\okR (l.getD [])=true
 ·rw[eY h0] at h
  by_cases h1:((n.length=wdM n/\g.length=n.length)/\b.length=n.length/\wdM b=wdM g)/\(l.isSome=true->(l.getD []).length=n.length)
  ·rw[eY h1] at h
   by_cases h2:lY (mq n) (mq g)=true
   ·rw[eY h2] at h
    by_cases h3:kR (bgM (mq g) (mq b))=true
    ·exact⟨⟨h0.1.1,h0.1.2.1,h0.1.2.2,h1.1.1.1,h1.1.1.2,h1.1.2.1,h1.1.2.2,h2,h3⟩,h0.2,h1.2⟩
    ·rw[dw h3] at h;exact absurd h (by decide)
   ·rw[dw h2] at h;exact absurd h (by decide)
  ·rw[dw h1] at h;exact absurd h (by decide)
 ·rw[dw h0] at h;exact absurd h (by decide)
theorem b0e (n g b:MR):qjGz n g b none=if bW n=0/\bW g=0/\bW b=0 then if (n.length=wdM n/\g.length=n.length)/\b.length=n.length/\wdM b=wdM g then if lY (mq n) (mq g)=true then if kR (bgM (mq g) (mq b))=true then 0 else 14 else 12 else 4 else 1:=by
 have e0:okR ([]:LR)=true:=rfl
 unfold qjGz
 simp only[Option.getD_none,e0,mW,Option.isSome_none,ug,false_implies]
theorem b7b {n g b:MR} (h:¬ qjGz n g b none=0):zO n g b=([],qjGz n g b none,()):=by
 rw[b0e] at h ⊢
 unfold zO
 by_cases h0:bW n=0/\bW g=0/\bW b=0
 ·rw[eY h0] at h ⊢
  rw[eY h0]
  by_cases h1:(n.length=wdM n/\g.length=n.length)/\b.length=n.length/\wdM b=wdM g
  ·rw[eY h1] at h ⊢
   rw[eY h1]
   by_cases h2:lY (mq n) (mq g)=true
   ·rw[eY h2] at h ⊢
    rw[eY h2]
    by_cases h3:kR (bgM (mq g) (mq b))=true
    ·rw[eY h3] at h;exact absurd rfl h
    ·rw[dw h3,dw h3]
   ·rw[dw h2,dw h2]
  ·rw[dw h1,dw h1]
 ·rw[dw h0,dw h0]
theorem b7c {n g b:MR} (F:a8v n g b):zO n g b=(LD (mq n) (mq g) (mq b),0,()):=by
 unfold zO
 rw[eY ⟨F.cn,F.cg,F.cb⟩,eY ⟨⟨F.e1,F.e2⟩,F.e3,F.e4⟩,eY F.hG,eY F.hR];rfl
theorem b0x {a b c:MR}:gW [a,b,c]=0↔bW a=0/\bW b=0/\bW c=0:=by rw[a4X];simp
theorem two' {a b:MR} (ha:dV a) (hb:dV b):∀ x ∈ [a,b],dV x:=fun x h=>by
 rcases oq.mp h with rfl|h
 ·exact ha
 ·rw[lN.mp h];exact hb
theorem a6n {a b c:MR} (ha:dV a) (hb:dV b) (hc:dV c):∀ x ∈ [a,b,c],dV x:=fun x h=>by
 rcases oq.mp h with rfl|h
 ·exact ha
 ·exact two' hb hc x h
abbrev tFr:Ty:=.pair (.pair tMR .unit) (.pair tMR .unit)
def b6O:Ctr:=⟨[tMR,tFr,.nls tR],[tI],fun x=>(smK 100 x.1/\dV x.1)/\(smK 100 x.2.1.1.1/\dV x.2.1.1.1)/\(smK 100 x.2.1.2.1/\dV x.2.1.2.1)/\jO (Option.getD (α:=LR) x.2.2.1 []),fun x=>(qjGz x.1 x.2.1.1.1 x.2.1.2.1 x.2.2.1,())⟩
theorem a0U:aY Tryz.prog 21 b6O:=by
 refine bH ((((nil0.ad IJ).ad WQ).ad a1q).ad a1Z) ⟨[],[],[]⟩ Tryz.func21 rfl (by decide) (fun x=>[]) (fun x hp=>?_)
 obtain⟨n,x,l,u⟩:=x
 change List (List aF) at n
 change (List (List aF) × Unit) × List (List aF) × Unit at x
 change Option (List aF) at l
 refine bP (let A₂:=(List.getD n 0 (aC aF)).length;let dO:=(Ty.list (Ty.lf Lf.aU));let dU:=(List.map (fun(xs:Ty.den dO)=>List.map (fun(x:Ty.den (Ty.lf Lf.aU))=>aF.x x) xs) n);let dX:=x.1.1;let A₀:=(asT (List (List aF)) dX);let aP:=(List.getD A₀ 0 (aC aF)).length;let dB:=(List.map (fun(xs:Ty.den dO)=>List.map (fun(x:Ty.den (Ty.lf Lf.aU))=>aF.x x) xs) A₀);let iG:=x.2.1;let A₁:=(asT (List (List aF)) iG);let aV:=(List.getD A₁ 0 (aC aF)).length;let eH:=(List.map (fun(xs:Ty.den dO)=>List.map (fun(x:Ty.den (Ty.lf Lf.aU))=>aF.x x) xs) A₁);let jQ:=(Option.getD l (aC aF));((List.length (n::asT (List (List aF)) dX::asT (List (List aF)) iG::aC (List (List aF)))<=1000000/\∀ (a:List (List aF)),a ∈ n::asT (List (List aF)) dX::asT (List (List aF)) iG::aC (List (List aF))->dV a)/\True)/\ifB (gW (n::asT (List (List aF)) dX::asT (List (List aF)) iG::aC (List (List aF))) != 0) (True/\gW (n::asT (List (List aF)) dX::asT (List (List aF)) iG::aC (List (List aF)))=qjGz n A₀ A₁ l/\True) ((jO jQ/\True)/\ifB (!okL jQ) (True/\1=qjGz n A₀ A₁ l/\True) ((asT Int 0<=0/\0<aA n.length/\(((aA n.length != aA A₂)==false)=true->((aA n.length != aA A₂)==false)=true/\True)/\(((aA n.length != aA A₂)==false)=true->((aA n.length != aA A₂)==false)=true/\True)/\(((aA n.length != aA A₂)==false)=true->((aA n.length != aA A₂)==false)=true/\True)/\(((aA n.length != aA A₂)==false)=true->((aA n.length != aA A₂)==false)=true/\True)/\(((aA n.length != aA A₂)==false)=true->((aA n.length != aA A₂)==false)=true/\((aA n.length != aA A₂)==false)=true/\True)/\((aA n.length != aA A₂)=false->((aA n.length != aA A₂)==false)=true)/\(((bif aA n.length != aA A₂ then true else aA A₀.length != aA n.length)==false)=true->((bif aA n.length != aA A₂ then true else aA A₀.length != aA n.length)==false)=true/\True)/\(((bif aA n.length != aA A₂ then true else aA A₀.length != aA n.length)==false)=true->((bif aA n.length != aA A₂ then true else aA A₀.length != aA n.length)==false)=true/\True)/\(((bif aA n.length != aA A₂ then true else aA A₀.length != aA n.length)==false)=true->((bif aA n.length != aA A₂ then true else aA A₀.length != aA n.length)==false)=true/\True)/\(((bif aA n.length != aA A₂ then true else aA A₀.length != aA n.length)==false)=true->((bif aA n.length != aA A₂ then true else aA A₀.length != aA n.length)==false)=true/\((bif aA n.length != aA A₂ then true else aA A₀.length != aA n.length)==false)=true/\True)/\((bif aA n.length != aA A₂ then true else aA A₀.length != aA n.length)=false->((bif aA n.length != aA A₂ then true else aA A₀.length != aA n.length)==false)=true)/\(((bif bif aA n.length != aA A₂ then true else aA A₀.length != aA n.length then true else aA A₁.length != aA n.length)==false)=true->((bif bif aA n.length != aA A₂ then true else aA A₀.length != aA n.length then true else aA A₁.length != aA n.length)==false)=true/\True)/\(((bif bif aA n.length != aA A₂ then true else aA A₀.length != aA n.length then true else aA A₁.length != aA n.length)==false)=true->((bif bif aA n.length != aA A₂ then true else aA A₀.length != aA n.length then true else aA A₁.length != aA n.length)==false)=true/\asT Int 0<=0/\0<aA A₁.length/\True)/\(((bif bif aA n.length != aA A₂ then true else aA A₀.length != aA n.length then true else aA A₁.length != aA n.length)==false)=true->((bif bif aA n.length != aA A₂ then true else aA A₀.length != aA n.length then true else aA A₁.length != aA n.length)==false)=true/\True)/\(((bif bif aA n.length != aA A₂ then true else aA A₀.length != aA n.length then true else aA A₁.length != aA n.length)==false)=true->((bif bif aA n.length != aA A₂ then true else aA A₀.length != aA n.length then true else aA A₁.length != aA n.length)==false)=true/\True)/\(((bif bif aA n.length != aA A₂ then true else aA A₀.length != aA n.length then true else aA A₁.length != aA n.length)==false)=true->((bif bif aA n.length != aA A₂ then true else aA A₀.length != aA n.length then true else aA A₁.length != aA n.length)==false)=true/\True)/\(((bif bif aA n.length != aA A₂ then true else aA A₀.length != aA n.length then true else aA A₁.length != aA n.length)==false)=true->((bif bif aA n.length != aA A₂ then true else aA A₀.length != aA n.length then true else aA A₁.length != aA n.length)==false)=true/\True)/\(((bif bif aA n.length != aA A₂ then true else aA A₀.length != aA n.length then true else aA A₁.length != aA n.length)==false)=true->((bif bif aA n.length != aA A₂ then true else aA A₀.length != aA n.length then true else aA A₁.length != aA n.length)==false)=true/\asT Int 0<=0/\0<aA A₀.length/\True)/\(((bif bif aA n.length != aA A₂ then true else aA A₀.length != aA n.length then true else aA A₁.length != aA n.length)==false)=true->((bif bif aA n.length != aA A₂ then true else aA A₀.length != aA n.length then true else aA A₁.length != aA n.length)==false)=true/\True)/\(((bif bif aA n.length != aA A₂ then true else aA A₀.length != aA n.length then true else aA A₁.length != aA n.length)==false)=true->((bif bif aA n.length != aA A₂ then true else aA A₀.length != aA n.length then true else aA A₁.length != aA n.length)==false)=true/\True)/\(((bif bif aA n.length != aA A₂ then true else aA A₀.length != aA n.length then true else aA A₁.length != aA n.length)==false)=true->((bif bif aA n.length != aA A₂ then true else aA A₀.length != aA n.length then true else aA A₁.length != aA n.length)==false)=true/\((bif bif aA n.length != aA A₂ then true else aA A₀.length != aA n.length then true else aA A₁.length != aA n.length)==false)=true/\True)/\((bif bif aA n.length != aA A₂ then true else aA A₀.length != aA n.length then true else aA A₁.length != aA n.length)=false->((bif bif aA n.length != aA A₂ then true else aA A₀.length != aA n.length then true else aA A₁.length != aA n.length)==false)=true)/\(((bif bif bif aA n.length != aA A₂ then true else aA A₀.length != aA n.length then true else aA A₁.length != aA n.length then true else aA aV != aA aP)==false)=true->((bif bif bif aA n.length != aA A₂ then true else aA A₀.length != aA n.length then true else aA A₁.length != aA n.length then true else aA aV != aA aP)==false)=true/\True)/\(((bif bif bif aA n.length != aA A₂ then true else aA A₀.length != aA n.length then true else aA A₁.length != aA n.length then true else aA aV != aA aP)==false)=true->((bif bif bif aA n.length != aA A₂ then true else aA A₀.length != aA n.length then true else aA A₁.length != aA n.length then true else aA aV != aA aP)==false)=true/\True)/\(((bif bif bif aA n.length != aA A₂ then true else aA A₀.length != aA n.length then true else aA A₁.length != aA n.length then true else aA aV != aA aP)==false&&Option.isSome l==true)=true->((bif bif bif aA n.length != aA A₂ then true else aA A₀.length != aA n.length then true else aA A₁.length != aA n.length then true else aA aV != aA aP)==false&&Option.isSome l==true)=true/\True)/\(((bif bif bif aA n.length != aA A₂ then true else aA A₀.length != aA n.length then true else aA A₁.length != aA n.length then true else aA aV != aA aP)==false&&Option.isSome l==true)=true->((bif bif bif aA n.length != aA A₂ then true else aA A₀.length != aA n.length then true else aA A₁.length != aA n.length then true else aA aV != aA aP)==false&&Option.isSome l==true)=true/\True)/\(((bif bif bif aA n.length != aA A₂ then true else aA A₀.length != aA n.length then true else aA A₁.length != aA n.length then true else aA aV != aA aP)==false&&Option.isSome l==true)=true->((bif bif bif aA n.length != aA A₂ then true else aA A₀.length != aA n.length then true else aA A₁.length != aA n.length then true else aA aV != aA aP)==false&&Option.isSome l==true)=true/\((bif bif bif aA n.length != aA A₂ then true else aA A₀.length != aA n.length then true else aA A₁.length != aA n.length then true else aA aV != aA aP)==false&&Option.isSome l==true)=true/\True)/\(((bif bif bif aA n.length != aA A₂ then true else aA A₀.length != aA n.length then true else aA A₁.length != aA n.length then true else aA aV != aA aP)==false)=true->((bif bif bif aA n.length != aA A₂ then true else aA A₀.length != aA n.length then true else aA A₁.length != aA n.length then true else aA aV != aA aP)==false)=true/\(Option.isSome l=true->((bif bif bif aA n.length != aA A₂ then true else aA A₀.length != aA n.length then true else aA A₁.length != aA n.length then true else aA aV != aA aP)==false&&Option.isSome l==true)=true)/\True)/\((bif bif bif aA n.length != aA A₂ then true else aA A₀.length != aA n.length then true else aA A₁.length != aA n.length then true else aA aV != aA aP)=false->((bif bif bif aA n.length != aA A₂ then true else aA A₀.length != aA n.length then true else aA A₁.length != aA n.length then true else aA aV != aA aP)==false)=true)/\True)/\ifB (bif bif bif bif aA n.length != aA A₂ then true else aA A₀.length != aA n.length then true else aA A₁.length != aA n.length then true else aA aV != aA aP then true else bif Option.isSome l then aA jQ.length != aA n.length else false) (True/\4=qjGz n A₀ A₁ l/\True) ((bY (fun(x:Ty.den dO)=>aW (bY (fun(x:Ty.den (Ty.lf Lf.aU))=>aW ((aF.ok x=true)::aC Prop)) x::aC Prop)) n/\bY (fun(x:Ty.den dO)=>aW (bY (fun(x:Ty.den (Ty.lf Lf.aU))=>aW ((aF.ok x=true)::aC Prop)) x::aC Prop)) A₀/\(RZ dU dB/\List.length dB<=7)/\True)/\ifB (!lY dU dB) (True/\12=qjGz n A₀ A₁ l/\True) ((bY (fun(x:Ty.den dO)=>aW (bY (fun(x:Ty.den (Ty.lf Lf.aU))=>aW ((aF.ok x=true)::aC Prop)) x::aC Prop)) A₀/\bY (fun(x:Ty.den dO)=>aW (bY (fun(x:Ty.den (Ty.lf Lf.aU))=>aW ((aF.ok x=true)::aC Prop)) x::aC Prop)) A₁/\yZ dB eH/\True)/\ifB (!kR (bgM dB eH)) (True/\14=qjGz n A₀ A₁ l/\True) (True/\0=qjGz n A₀ A₁ l/\True)))))) (by kernel_rfl) ?_
 try simp only[aJ,dh,bn]
 try dsimp only[Ty.den,Lf.den,asT] at *
 try simp only[uF,uD,trF,uG]
 have hZ:(⟨false,0,[],[]⟩:aF)=bV:=rfl
 try dsimp only[aA,asT,aB,aC,Ty.den,Lf.den] at *
 try simp only[hZ,Int.toNat_natCast,aJ,dh,bn,mg,mW,aH,nameAt,aX,aN,aZ,rowAt,iw,gJ]
 try simp only[jK,List.all_cons,List.all_nil,yx,nI,qw,jd,uy,ne_eq,ak,qg,nS,tC,xk,imp_self,AO,and_self,mg,mW,iD,qZ,qO,List.length_cons,List.length_nil]
 try simp only[wdF,iT,jA]
 have hp:(smK 100 n/\dV n)/\(smK 100 x.1.1/\dV x.1.1)/\(smK 100 x.2.1/\dV x.2.1)/\jO (l.getD []):=hp
 obtain⟨⟨g,u1⟩,b,u2⟩:=x
 obtain⟨⟨pn,n'⟩,⟨pg,g'⟩,⟨pb,b'⟩,hl⟩:=hp
 dsimp only at pg g' pb b' ⊢
 refine⟨⟨by omega,a6n n' g' b'⟩,fun h=>?_,fun h=>⟨hl,fun h2=>?_,fun h2=>?_⟩⟩
 ·unfold qjGz;rw[a4Y h,dw (fun hh=>h (b0x.mpr hh.1))]
 ·unfold qjGz;rw[dw (fun hh=>by have:okL (l.getD [])=true:=hh.2;rw[h2] at this;cases this)]
 ·obtain⟨cn,cg,cb⟩:=b0x.mp h
  have h0:(bW n=0/\bW g=0/\bW b=0)/\okR (l.getD [])=true:=⟨⟨cn,cg,cb⟩,h2⟩
  have n0:=(gX cn).1.2.2.1
  have g0:=(gX cg).1.2.2.1
  have b0:=(gX cb).1.2.2.1
  have hq:(bif l.isSome then ((l.getD []).length:Int) != (n.length:Int) else false)=false↔(l.isSome=true->(l.getD []).length=n.length):=by
   cases l.isSome
   ·simp
   ·simp only[cond_true,tC,forall_const];omega
  refine⟨⟨by omega,by omega,fun h=>⟨h,by omega,by omega⟩,fun h=>⟨h,by omega,by omega⟩,fun h=>⟨h,fun h3=>⟨h,h3⟩⟩⟩,fun h3=>?_,fun h3=>?_⟩
  ·unfold qjGz
   rw[eY h0,dw (fun hh=>?_)]
   rcases h3 with h3|h3
   ·obtain⟨⟨⟨e1,e2⟩,e3,e4⟩,_⟩:=hh
    rcases h3 with((h3|h3)|h3)|h3
    ·exact h3 e1
    ·exact h3 e2
    ·exact h3 e3
    ·exact h3 e4
   ·rw[hq.mpr hh.2] at h3;cases h3
  ·obtain⟨⟨⟨⟨e1,e2⟩,e3⟩,e4⟩,h4⟩:=h3
   have h1:((n.length=wdM n/\g.length=n.length)/\b.length=n.length/\wdM b=wdM g)/\(l.isSome=true->(l.getD []).length=n.length):=⟨⟨⟨e1,e2⟩,e3,e4⟩,hq.mp h4⟩
   refine⟨⟨lG (gX cn).2,lG (gX cg).2,SL pn pg (by omega) cn cg e1 e2,by rw[kT];exact(pg.at cg).2.1⟩,fun h5=>?_,fun h5=>⟨⟨lG (gX cg).2,lG (gX cb).2,AU pg pb cg cb (by omega) e4⟩,fun h6=>?_,fun h6=>?_⟩⟩
   ·unfold qjGz;rw[eY h0,eY h1,dw (by rw[h5];decide)]
   ·unfold qjGz;rw[eY h0,eY h1,eY h5,dw (by rw[h6];decide)]
   ·unfold qjGz;rw[eY h0,eY h1,eY h5,eY h6]
theorem okM.short' {a:MQ} (h:okM a):dV (liftM a):=by
 refine⟨by have:=h.1.2.2.2.1;simp;omega,fun r hr=>?_⟩
 obtain⟨s,hs,rfl⟩:=ni.mp hr
 refine⟨by have:=h.1.2.1 s hs;have:=h.1.2.2.2.2.2;simp;omega,fun q hq=>?_⟩
 obtain⟨x,hx,rfl⟩:=ni.mp hq
 have h1:=h.ent hs hx
 have ⟨h2,h3⟩:=IE x
 exact⟨by omega,by omega⟩
end Go.Proofs.YtgplhbhfdgempaaGreat
