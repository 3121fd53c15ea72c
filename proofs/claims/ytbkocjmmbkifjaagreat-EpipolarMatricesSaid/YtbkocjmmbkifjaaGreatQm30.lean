/-
  Lemmas for the theorem vmatrices28_holds, part 30 of 33.
-/
import Derived.Test.YtbkocjmmbkifjaaGreatQm29
namespace Go.Proofs.YtbkocjmmbkifjaaGreat
open Go Go.RowKit
set_option maxRecDepth 100000
set_option maxHeartbeats 1000000
set_option linter.unusedVariables false
set_option linter.unusedSimpArgs false
def cdI (n:Int):Prop:=-1048576<=n/\n<=1048576
abbrev EN:Type:=Int × Int × Unit
def cdP (p:EN):Prop:=cdI p.1/\cdI p.2.1
def EI (p:EN):List Int:=[p.1,p.2.1,1]
noncomputable def c2p:Ctr:=⟨[b3S],[.arr 3 tI],fun x=>True,fun x=>(EI x.1,())⟩
theorem a5W:aS Tryz.prog 210 c2p:=by
 refine bH Lib.nil ⟨[2],[],[]⟩ Tryz.func210 rfl (by decide) (fun x=>[]) (fun x hp=>?_)
 obtain⟨p,u⟩:=x
 change EN at p
 refine dD (True/\asT Int p.1::asT Int p.2.1::1::aJ Int=EI p/\True) (by kernel_rfl) ?_
 have hZ:(⟨false,0,[],[]⟩:aG)=bM:=rfl
 try simp only[aO,ay,ak]
 try dsimp only[aB,asT,aA,aJ,Ty.den,Lf.den] at *
 try simp only[hZ,Int.toNat_natCast,aO,ay,ak,ni,lg,jc,iq]
 try simp only[fU,fQ,List.all_cons,List.all_nil,oq,iw,jo,jh,ql,ne_eq,aj,je,jf,jl,mg,vw,qg,wu,ni,lg,jw,iy,List.length_cons,List.length_nil]
 rfl
def m33 (K:Nat) (f:MQ):Prop:=isM f 3 3/\szM f K
theorem cdI.word {n:Int} (h:cdI n):gB n:=⟨by have:=h.1;omega,by have:=h.2;omega⟩
theorem cdI.sz {n:Int} (h:cdI n):rsz (dR n)<=2:=by
 have h1:=a0q n
 have h2:isz n<=1:=qU (by obtain⟨a,b⟩:=h;unfold BB;omega)
 exact dh h1 (by omega)
theorem m33.ok {K:Nat} {f:MQ} (h:m33 K f) (hK:K<=1000000):okM f/\szM f 1000000/\wdM f=3/\f.length=3:=⟨⟨by rw[h.1.len,h.1.wd];exact h.1,fun i hi j hj=>dh (h.2 i hi j hj) (by omega)⟩,fun i hi j hj=>dh (h.2 i hi j hj) (by omega),h.1.wd,h.1.len⟩
def fP (p:EN):List Rat:=(EI p).map fun i=>dR i
noncomputable def c2c:Ctr:=⟨[tM,b3S],[.list tQ],fun x=>m33 100 x.1/\cdP x.2.1,fun x=>(mvL x.1 (fP x.2.1),())⟩
theorem a4Q:aS Tryz.prog 209 c2c:=by
 refine bH (((nil0.ad a6c).ad a7M).ad a5W) ⟨[],[],[]⟩ Tryz.func209 rfl (by decide) (fun x=>[.inv {k:Nat // k<=3} (fun k=>[(12,.val tI (k.1:Int)),(5,.own 18 0),(18,.any)]) (fun k=>[(18,.row 47 tQ ((fP (show EN from x.2.1)).take k.1) 0)]) (fun k=>3-k.1) ⟨0,by omega⟩ (fun _=>[])]) (fun x hp=>?_)
 obtain⟨f,p,u⟩:=x
 change List (List Rat) at f
 change EN at p
 refine dD (let A₀:=(asT Int p.1::asT Int p.2.1::1::aJ Int);(True/\True)/\(asT Int 0=0/\(True/\asT (List Rat) (aJ Rat)=aJ Rat)/\(asT (List Rat) (aJ Rat)=aJ Rat/\0=0/\asT Bool true=true)/\True)/\∀ (i:{ k:Nat // k<=3 }),let A₁:=(List.getD A₀ (aB (aA i)).toNat 0);let A₂:=(List.take (aA i) (fP p));asT Bool true=true/\ifB (decide (aB (aA i)<3)) ((0<=aB (aA i)/\aB (aA i)<3/\True)/\(gB A₁/\List.length A₂+List.length (dR A₁::aJ Rat)<=1000000000/\True)/\∃ (i':{ k:Nat // k<=3 }),3-aA i'<3-aA i/\IntKind.wrap IntKind.i64 (aB (aA i)+1)=aB (aA i')/\List.take (aA i) (fP p)++dR A₁::aJ Rat=List.take (aA i') (fP p)/\True) (((okM f/\szM f 1000000/\List.length A₂=wdM f/\∀ (q:Rat),q ∈ List.take (aA i) (fP p)->rsz q<=1000000)/\True)/\True/\mvL f A₂=mvL f (fP p)/\True)) (by kernel_rfl) ?_
 have hZ:(⟨false,0,[],[]⟩:aG)=bM:=rfl
 try simp only[aO,ay,ak]
 try dsimp only[aB,asT,aA,aJ,Ty.den,Lf.den] at *
 try simp only[hZ,Int.toNat_natCast,aO,ay,ak,ni,lg,jc,iq]
 try simp only[fU,fQ,List.all_cons,List.all_nil,oq,iw,jo,jh,ql,ne_eq,aj,je,jf,jl,mg,vw,qg,wu,ni,lg,jw,iy,List.length_cons,List.length_nil]
 obtain⟨hf,hp⟩:m33 100 f/\cdP p:=hp
 obtain⟨ho,hs,hw,hl⟩:=hf.ok (by omega)
 have h3:(EI p).length=3:=rfl
 have hv:∀ n ∈ EI p,cdI n:=fun n hn=>by
  simp only[EI,qm,Bz,or_false] at hn
  rcases hn with rfl|rfl|rfl
  ·exact hp.1
  ·exact hp.2
  ·exact⟨by omega,by omega⟩
 refine fun i=>⟨fun h1=>⟨⟨by omega,h1⟩,⟨(aV (p:=cdI) hv (i:=i.1) (d:=0) (by omega)).word,by rw[jy];omega⟩,⟨i.1+1,by omega⟩,by simp only;omega,by rw[bI (by omega) (by omega)];rfl,?_⟩,fun h1=>?_⟩
 ·show _=List.take (i.1+1) (fP p)
  rw[Dh]
  congr 1
  unfold fP
  rw[tq,dw (show i.1<(EI p).length by omega),dn,show [p.1,p.2.1,1]=EI p from rfl,dw (show i.1<(EI p).length by omega)];rfl
 ·have e:List.take i.1 (fP p)=fP p:=jg (by show (fP p).length<=_;unfold fP;rw[xw];omega)
  rw[e]
  refine⟨⟨ho,hs,hw.symm ▸ rfl,fun q hq=>?_⟩,rfl⟩
  obtain⟨n,hn,rfl⟩:=uj.mp hq
  exact dh (hv n hn).sz (by omega)
theorem a5V {p:EN} (hp:cdP p):∀ n ∈ EI p,cdI n:=fun n hn=>by
 simp only[EI,qm,Bz,or_false] at hn
 rcases hn with rfl|rfl|rfl
 ·exact hp.1
 ·exact hp.2
 ·exact⟨by omega,by omega⟩
theorem lW (p:EN):(fP p).length=3:=rfl
theorem BX {p:EN} (hp:cdP p):∀ q ∈ fP p,rsz q<=2:=fun q hq=>by
 obtain⟨n,hn,rfl⟩:=uj.mp hq
 exact(a5V hp n hn).sz
theorem b3X (p:EN) {i:Nat} (hi:i<3):dR ((EI p).getD i 0)=(fP p).getD i 0:=by
 unfold fP
 rw[dn,dn,tq,dw (show i<(EI p).length from hi)];rfl
theorem pV {K:Nat} {f:MQ} (hf:m33 K f) (p:EN):(mvL f (fP p)).length=3:=by rw[a5d];exact hf.1.len
theorem zG {f:MQ} (hf:m33 100 f) {p:EN} (hp:cdP p):∀ q ∈ mvL f (fP p),rsz q<=1000:=fun q hq=>dh (b5S hf.1 hf.2 (BX hp) (lW p) q hq) (by omega)
theorem a5C {f:MQ} (hf:m33 100 f) {p:dZ} (h1:cdP p.1) (h2:cdP p.2.1):YV (fP p.2.1) (mvL f (fP p.1)):=⟨by rw[pV hf,lW],by rw[lW];omega,fun i hi=>⟨dh (aV (BX h2) hi) (by omega),dh (aV (zG hf h1) (by rw[pV hf];exact hi)) (by omega)⟩⟩
theorem m33.tr {K:Nat} {f:MQ} (h:m33 K f):m33 K (trM f):=by
 unfold trM
 rw[h.1.wd,h.1.len]
 have e:isM (tab 3 3 (_root_.Go.Proofs.YtbkocjmmbkifjaaGreat.tr (ent f))) 3 3:=IK (by omega) (by omega) (by omega) (by omega)
 refine⟨e,fun i hi j hj=>?_⟩
 rw[e.len] at hi
 rw[e.wd] at hj
 rw[a4H hi hj]
 exact h.2 j (by rw[h.1.len];exact hj) i (by rw[h.1.wd];exact hi)
def pU (f:MQ) (p:dZ):Rat:=fG (fP p.2.1) (mvL f (fP p.1)) 3
noncomputable def c0y:Ctr:=⟨[tM,IJ],[tQ],fun x=>m33 100 x.1/\cdP x.2.1.1/\cdP x.2.1.2.1,fun x=>(pU x.1 x.2.1,())⟩
theorem a5B:aS Tryz.prog 117 c0y:=by
 refine bH (((((nil0.ad a6c).ad b1M).ad b1N).ad a5W).ad a4Q) ⟨[4,6],[],[]⟩ Tryz.func117 rfl (by decide) (fun x=>[.inv {k:Nat // k<=3} (fun k=>[(17,.val tI (k.1:Int))]) (fun k=>[(4,.box [⟨tR,bM⟩]),(6,.box [⟨tQ,fG (fP (show dZ from x.2.1).2.1) (mvL x.1 (fP (show dZ from x.2.1).1)) k.1⟩])]) (fun k=>3-k.1) ⟨0,by omega⟩ (fun _=>[])]) (fun x hp=>?_)
 obtain⟨f,p,u⟩:=x
 change List (List Rat) at f
 change dZ at p
 refine dD (let A₁:=(mvL f (fP p.1));let A₂:=p.2.1;let A₀:=(asT Int A₂.1::asT Int A₂.2.1::1::aJ Int);((m33 100 f/\cdP p.1)/\True)/\(gB 0/\True)/\(True/\True)/\(asT Int 0=0/\asT aG bM=bM/\dR 0=fG (fP A₂) A₁ 0/\True)/\∀ (i:{ k:Nat // k<=3 }),let eU:=(aB (aA i)).toNat;asT Bool true=true/\ifB (decide (aB (aA i)<3)) ((0<=aB (aA i)/\aB (aA i)<3/\True)/\(gB (List.getD A₀ eU 0)/\0<=aB (aA i)/\aB (aA i)<aB A₁.length/\s44 (dR (List.getD A₀ eU 0)) (List.getD A₁ eU 0)/\s44 (fG (fP A₂) A₁ (aA i)) (dR (List.getD A₀ eU 0)*List.getD A₁ eU 0)/\True)/\∃ (i':{ k:Nat // k<=3 }),3-aA i'<3-aA i/\IntKind.wrap IntKind.i64 (aB (aA i)+1)=aB (aA i')/\asT aG bM=bM/\fG (fP A₂) A₁ (aA i)+dR (List.getD A₀ eU 0)*List.getD A₁ eU 0=fG (fP A₂) A₁ (aA i')/\True) (True/\fG (fP A₂) A₁ (aA i)=pU f p/\True)) (by kernel_rfl) ?_
 have hZ:(⟨false,0,[],[]⟩:aG)=bM:=rfl
 try simp only[aO,ay,ak]
 try dsimp only[aB,asT,aA,aJ,Ty.den,Lf.den] at *
 try simp only[hZ,Int.toNat_natCast,aO,ay,ak,ni,lg,jc,iq]
 try simp only[fU,fQ,List.all_cons,List.all_nil,oq,iw,jo,jh,ql,ne_eq,aj,je,jf,jl,mg,vw,qg,wu,ni,lg,jw,iy,List.length_cons,List.length_nil]
 obtain⟨hf,h1,h2⟩:m33 100 f/\cdP p.1/\cdP p.2.1:=hp
 have hd:=a5C hf h1 h2
 refine⟨⟨hf,h1⟩,⟨by omega,by omega⟩,rfl,fun i=>⟨fun h=>?_,fun h=>?_⟩⟩
 ·have hi:i.1<3:=by omega
  have e:dR ([p.2.1.1,p.2.1.2.1,1].getD i.1 0)=(fP p.2.1).getD i.1 0:=b3X p.2.1 hi
  have b1:rsz ((fP p.2.1).getD i.1 0)<=2:=aV (BX h2) (by rw[lW];exact hi)
  have b2:rsz ((mvL f (fP p.1)).getD i.1 0)<=1000:=aV (zG hf h1) (by rw[pV hf];exact hi)
  have b3:=yU hd (k:=i.1) (by rw[lW];omega)
  have b4:=oD ((fP p.2.1).getD i.1 0) ((mvL f (fP p.1)).getD i.1 0)
  have l3:=pV hf p.1
  have w0:gB ([p.2.1.1,p.2.1.2.1,1].getD i.1 0):=(aV (p:=cdI) (a5V h2) (i:=i.1) (d:=0) hi).word
  rw[e,l3]
  exact⟨⟨by omega,h⟩,⟨w0,by omega,by omega,⟨by omega,by omega⟩,⟨by omega,by omega⟩⟩,⟨i.1+1,by omega⟩,by simp only;omega,by rw[bI (by omega) (by omega)];rfl,rfl⟩
 ·rw[show i.1=3 by omega];rfl
def qO (f:MQ) (p:dZ):List Rat:=[(mvL f (fP p.1)).getD 0 0,(mvL f (fP p.1)).getD 1 0,(mvL (trM f) (fP p.2.1)).getD 0 0,(mvL (trM f) (fP p.2.1)).getD 1 0]
def UN (f:MQ) (p:dZ):Rat:=fG (qO f p) (qO f p) 4
def yJ (f:MQ) (p:dZ):aG × Int × Unit:=if UN f p=0 then (bM,13,()) else (kC (pU f p*pU f p / UN f p),0,())
noncomputable def c0A:Ctr:=⟨[tM,IJ],[tR,tI],fun x=>m33 100 x.1/\cdP x.2.1.1/\cdP x.2.1.2.1,fun x=>yJ x.1 x.2.1⟩
theorem b3O:aS Tryz.prog 118 c0A:=by
 refine bH ((((((((nil0.ad a6c).ad b1M).ad b1N).ad c1F).ad TA).ad a4Q).ad TA).ad a5B) ⟨[4,10,12,13,14],[],[]⟩ Tryz.func118 rfl (by decide) (fun x=>[.inv {k:Nat // k<=4} (fun k=>[(44,.val tI (k.1:Int))]) (fun k=>[(4,.box [⟨tR,bM⟩]),(10,.box [⟨tQ,fG (qO x.1 (show dZ from x.2.1)) (qO x.1 (show dZ from x.2.1)) k.1⟩])]) (fun k=>4-k.1) ⟨0,by omega⟩ (fun _=>[])]) (fun x hp=>?_)
 obtain⟨f,p,u⟩:=x
 change List (List Rat) at f
 change dZ at p
 refine dD (let A₂:=(mvL f (fP p.1));let eU:=p.2.1;let gQ:=(tab (wdM f) f.length (tr (ent f)));let A₁:=(mvL gQ (fP eU));let A₀:=(List.getD A₂ 0 0::List.getD A₂ 1 0::List.getD A₁ 0 0::List.getD A₁ 1 0::aJ Rat);(okM f/\True)/\((m33 100 f/\cdP p.1)/\(m33 100 gQ/\cdP eU)/\True)/\(gB 0/\True)/\(asT Int 0<=0/\0<aB A₂.length/\asT Int 0<=1/\1<aB A₂.length/\asT Int 0<=0/\0<aB A₁.length/\asT Int 0<=1/\1<aB A₁.length/\True)/\(asT Int 0=0/\asT aG bM=bM/\dR 0=fG (qO f p) (qO f p) 0/\True)/\∀ (i:{ k:Nat // k<=4 }),let iF:=(aB (aA i)).toNat;let jR:=(fG (qO f p) (qO f p) (aA i));let pY:=(TT 14 (pU f p*pU f p) jR);asT Bool true=true/\ifB (decide (aB (aA i)<aB A₀.length)) ((0<=aB (aA i)/\aB (aA i)<aB A₀.length/\True)/\(s44 (List.getD A₀ iF 0) (List.getD A₀ iF 0)/\s44 jR (List.getD A₀ iF 0*List.getD A₀ iF 0)/\True)/\∃ (i':{ k:Nat // k<=4 }),4-aA i'<4-aA i/\IntKind.wrap IntKind.i64 (aB (aA i)+1)=aB (aA i')/\asT aG bM=bM/\fG (qO f p) (qO f p) (aA i)+List.getD A₀ iF 0*List.getD A₀ iF 0=fG (qO f p) (qO f p) (aA i')/\True) (((m33 100 f/\cdP p.1/\cdP eU)/\True)/\(s44 (pU f p) (pU f p)/\(rsz (pU f p*pU f p)<=400000000/\rsz jR<=400000000)/\True)/\ifB (Prod.fst pY.2 != 0) (True/\bM=Prod.fst (yJ f p)/\True/\13=Prod.fst (yJ f p).2/\True) (True/\Prod.fst pY=Prod.fst (yJ f p)/\True/\0=Prod.fst (yJ f p).2/\True))) (by kernel_rfl) ?_
 have hZ:(⟨false,0,[],[]⟩:aG)=bM:=rfl
 try simp only[aO,ay,ak]
 try dsimp only[aB,asT,aA,aJ,Ty.den,Lf.den] at *
 try simp only[hZ,Int.toNat_natCast,aO,ay,ak,ni,lg,jc,iq]
 try simp only[fU,fQ,List.all_cons,List.all_nil,oq,iw,jo,jh,ql,ne_eq,aj,je,jf,jl,mg,vw,qg,wu,ni,lg,jw,iy,List.length_cons,List.length_nil]
 obtain⟨hf,h1,h2⟩:m33 100 f/\cdP p.1/\cdP p.2.1:=hp
 have ht:=hf.tr
 rw[show tab (wdM f) f.length (tr (ent f))=trM f from rfl]
 have la:=pV hf p.1
 have lb:=pV ht p.2.1
 have sa:=zG hf h1
 have sb:=zG ht h2
 have hr:rsz (pU f p)<=200000000:=yU (a5C hf h1 h2) (by rw[lW];omega)
 have hr2:=oD (pU f p) (pU f p)
 have s4:∀ q ∈ qO f p,rsz q<=1000:=fun q hq=>by
  simp only[qO,qm,Bz,or_false] at hq
  rcases hq with rfl|rfl|rfl|rfl
  ·exact aV sa (by omega)
  ·exact aV sa (by omega)
  ·exact aV sb (by omega)
  ·exact aV sb (by omega)
 have hd:YV (qO f p) (qO f p):=⟨rfl,by show 4<=64;omega,fun i hi=>⟨dh (aV s4 hi) (by omega),dh (aV s4 hi) (by omega)⟩⟩
 rw[show [(mvL f (fP p.1)).getD 0 0,(mvL f (fP p.1)).getD 1 0,(mvL (trM f) (fP p.2.1)).getD 0 0,(mvL (trM f) (fP p.2.1)).getD 1 0]=qO f p from rfl,la,lb]
 have q3:fG (qO f p) (qO f p) 4=UN f p:=rfl
 refine⟨(hf.ok (by omega)).1,⟨⟨hf,h1⟩,ht,h2⟩,⟨by omega,by omega⟩,by omega,rfl,fun i=>⟨fun h=>?_,fun h=>?_⟩⟩
 ·have hi:i.1<(qO f p).length:=by show i.1<4;omega
  have b1:=aV s4 hi (d:=0)
  have b2:=oD ((qO f p).getD i.1 0) ((qO f p).getD i.1 0)
  have b3:=yU hd (k:=i.1) (by omega)
  exact⟨⟨by omega,h⟩,⟨by omega,⟨by omega,by omega⟩⟩,⟨i.1+1,by omega⟩,by simp only;omega,by rw[bI (by omega) (by omega)];rfl,rfl⟩
 ·rw[show i.1=4 by have:=i.2;omega,q3]
  have b3:rsz (UN f p)<=200000000:=yU hd (k:=4) (by show 4<=4;omega)
  refine⟨⟨hf,h1,h2⟩,⟨by omega,by omega,by omega⟩,?_⟩
  unfold TT yJ
  by_cases h0:UN f p=0
  ·rw[jv h0,jv h0]
   exact⟨fun _=>⟨rfl,rfl⟩,fun h=>absurd h (by decide)⟩
  ·rw[jq h0,jq h0]
   exact⟨fun h=>absurd rfl h,fun _=>⟨rfl,rfl⟩⟩
def szL (l:LQ'):Prop:=l.length<=1000/\∀ q ∈ l,rsz q<=100000000
theorem SV {α:Type} {xs ys:List α} {i:Nat} {d:α} (hi:i<xs.length) (hy:i<ys.length) (h:xs.take i=ys.take i) (h2:xs.getD i d=ys.getD i d):xs.take (i+1)=ys.take (i+1):=by
 rw[Dh,Dh,h]
 rw[dn,dw hi,dn,dw hy] at h2
 rw[dw hi,dw hy]
 have h2:xs[i]=ys[i]:=h2
 rw[h2]
noncomputable def c0z:Ctr:=⟨[.list tQ,.list tQ],[tB],fun x=>szL x.1/\szL x.2.1,fun x=>(decide ((show LQ' from x.1)=(show LQ' from x.2.1)),())⟩
def SS (a:MQ):Prop:=a.length<=1000/\∀ r ∈ a,szL r
noncomputable def c2k:Ctr:=⟨[tM,tM],[tB],fun x=>SS x.1/\SS x.2.1,fun x=>(decide ((show MQ from x.1)=(show MQ from x.2.1)),())⟩
abbrev LKq:LK:=.mat 39 47 tQ
def a7I (n:Nat):List Rat:=List.replicate n 0
def EM (R C:Nat):MQ:=tab R C fun _ _=>0
noncomputable def c2Y:nI:=.mk LKq [tI,tI] (fun x=>0<=(show Int from x.1)/\(show Int from x.1)<=1000/\0<=(show Int from x.2.1)/\(show Int from x.2.1)<=1000) (fun x=>EM (show Int from x.1).toNat (show Int from x.2.1).toNat)
theorem a2o:aS Tryz.prog 165 (cIQ gB (fun i=>(i:Rat))):=by
 refine bH (nil0.ad b4R) ⟨[2],[],[]⟩ Tryz.func165 rfl (by decide) (fun x=>[]) (fun x hp=>?_)
 obtain⟨n,u⟩:=x
 change Int at n
 refine dD ((gB n/\True)/\True/\dR n=dR n/\True) (by kernel_rfl) ?_
 have hZ:(⟨false,0,[],[]⟩:aG)=bM:=rfl
 dsimp only[aB,asT,aA,aJ,Ty.den,Lf.den] at *
 simp only[hZ,Int.toNat_natCast,aO,ay,ak,ni,lg,iE,nameAt,cO,jQ,lD,rowAt,jc,iq]
 exact hp
theorem b3I:NOk Tryz.prog 158 c2Y:=by
 refine a0e (nil0.ad a2o) ⟨[],[],[(9,tQ),(27,tQ)]⟩ Tryz.func158 rfl (by decide) (fun x=>[.inv {k:Nat // k<=(show Int from x.1).toNat} (fun k=>[(6,.val tI (k.1:Int)),(5,.own 9 0),(9,.any),(28,.any)]) (fun k=>[(9,.mat 39 47 tQ none (EM k.1 (show Int from x.2.1).toNat) 0)]) (fun k=>(show Int from x.1).toNat-k.1) ⟨0,by omega⟩ (fun k=>[.inv {q:Nat // q<=(show Int from x.2.1).toNat} (fun q=>[(8,.val tI (q.1:Int)),(7,.own 15 0),(15,.any),(24,.any)]) (fun q=>[(9,.mat 39 47 tQ none (EM k.1 (show Int from x.2.1).toNat) 0),(15,.row 47 tQ (a7I q.1) 0)]) (fun q=>(show Int from x.2.1).toNat-q.1) ⟨0,by omega⟩ (fun _=>[])])]) (fun x hp=>?_)
 obtain⟨m,n,u⟩:=x
 change Int at m
 change Int at n
 refine dD ((asT Int 0=0/\asT (List (List Rat)) (aJ (List Rat))=aJ (List Rat)/\True)/\∀ (i:{ k:Nat // k<=Int.toNat m }),asT Bool true=true/\ifB (decide (aB (aA i)<m)) ((asT Int 0=0/\EM (aA i) n.toNat=EM (aA i) n.toNat/\asT (List Rat) (aJ Rat)=aJ Rat/\True)/\∀ (i_1:{ q:Nat // q<=Int.toNat n }),asT Bool true=true/\ifB (decide (aB (aA i_1)<n)) ((gB 0/\List.length (a7I (aA i_1))+List.length (dR 0::aJ Rat)<=1000000000/\True)/\∃ (i':{ q:Nat // q<=Int.toNat n }),Int.toNat n-aA i'<Int.toNat n-aA i_1/\IntKind.wrap IntKind.i64 (aB (aA i_1)+1)=aB (aA i')/\EM (aA i) n.toNat=EM (aA i) n.toNat/\a7I (aA i_1)++dR 0::aJ Rat=a7I (aA i')/\True) ((iE none (EM (aA i) n.toNat)+1<=1000000000/\True)/\∃ (i':{ k:Nat // k<=Int.toNat m }),Int.toNat m-aA i'<Int.toNat m-aA i/\IntKind.wrap IntKind.i64 (aB (aA i)+1)=aB (aA i')/\EM (aA i) n.toNat++a7I (aA i_1)::aJ (List Rat)=EM (aA i') n.toNat/\True)) (EM m.toNat n.toNat=EM (aA i) n.toNat)) (by kernel_rfl) ?_
 have hZ:(⟨false,0,[],[]⟩:aG)=bM:=rfl
 dsimp only[aB,asT,aA,aJ,Ty.den,Lf.den] at *
 simp only[hZ,Int.toNat_natCast,aO,ay,ak,ni,lg,iE,nameAt,cO,jQ,lD,rowAt,jc,iq]
 have hp:0<=m/\m<=1000/\0<=n/\n<=1000:=hp
 obtain⟨m0,m1,n0,n1⟩:=hp
 refine fun i=>⟨fun h1 q=>⟨fun h2=>⟨⟨by unfold gB;omega,by simp[a7I];have:=q.2;omega⟩,⟨q.1+1,by omega⟩,by simp only;omega,by rw[bI (by omega) (by omega)];rfl,?_⟩,fun h2=>⟨by show (EM _ _).length+1<=_;unfold EM;rw[lD];have:=i.2;omega,⟨i.1+1,by omega⟩,by simp only;omega,by rw[bI (by omega) (by omega)];rfl,?_⟩⟩,fun h1=>?_⟩
 ·show List.replicate q.1 0++[((0:Int):Rat)]=List.replicate (q.1+1) 0
  rw[List.replicate_succ'];rfl
 ·have hq:q.1=n.toNat:=by have:=q.2;omega
  rw[hq]
  show tab i.1 n.toNat (fun _ _=>0)++[List.replicate n.toNat 0]=tab (i.1+1) n.toNat (fun _ _=>0)
  unfold tab
  rw[Aw]
  simp
  apply List.ext_getElem<;>simp
 ·have hi:i.1=m.toNat:=by have:=i.2;omega
  rw[hi]
def trU (a:MQ) (r c:Nat):MQ:=tab (wdM a) a.length fun i j=>if j<r\/j=r/\i<c then ent a j i else 0
noncomputable def c2o:Ctr:=⟨[tM],[tM],fun x=>okM x.1,fun x=>(trM x.1,())⟩
theorem b3H:aS Tryz.prog 71 c2o:=by
 refine bH (nil0.an b3I) ⟨[],[],[]⟩ Tryz.func71 rfl (by decide) (fun x=>[.inv {k:Nat // k<=(show MQ from x.1).length} (fun r=>[(4,.val tI (r.1:Int))]) (fun r=>[(12,.mat 39 47 tQ none (trU (show MQ from x.1) r.1 0) 0)]) (fun r=>(show MQ from x.1).length-r.1) ⟨0,by omega⟩ (fun r=>[.inv {k:Nat // k<=wdM (show MQ from x.1)} (fun c=>[(5,.val tI (c.1:Int))]) (fun c=>[(12,.mat 39 47 tQ none (trU (show MQ from x.1) r.1 c.1) 0)]) (fun c=>wdM (show MQ from x.1)-c.1) ⟨0,by omega⟩ (fun _=>[])])]) (fun x hp=>?_)
 obtain⟨a,u⟩:=x
 change List (List Rat) at a
 refine dD (let A₀:=(List.getD a 0 (aJ Rat)).length;(asT Int 0<=0/\0<aB a.length/\(0<=aB A₀/\aB A₀<=1000/\0<=aB a.length/\aB a.length<=1000)/\True)/\(asT Int 0=0/\EM (aB A₀).toNat (aB a.length).toNat=trU a 0 0/\True)/\∀ (i:{ k:Nat // k<=List.length a }),let A₁:=(List.getD a (aB (aA i)).toNat (aJ Rat));asT Bool true=true/\ifB (decide (aB (aA i)<aB a.length)) ((asT Int 0=0/\trU a (aA i) 0=trU a (aA i) 0/\True)/\∀ (i_1:{ k:Nat // k<=wdM a }),let eU:=(trU a (aA i) (aA i_1));let gQ:=(aB (aA i_1)).toNat;let A₂:=(rowAt eU (nameAt none gQ));asT Bool true=true/\(0<=aB (aA i)/\aB (aA i)<aB a.length/\True)/\ifB (decide (aB (aA i_1)<aB A₁.length)) ((0<=aB (aA i_1)/\aB (aA i_1)<aB (iE none eU)/\Int.toNat (aB (aA i_1))<iE none eU/\0<=aB (aA i)/\aB (aA i)<aB a.length/\0<=aB (aA i_1)/\aB (aA i_1)<aB A₁.length/\0<=aB (aA i)/\aB (aA i)<aB A₂.length/\Int.toNat (aB (aA i))<List.length A₂/\True)/\∃ (i':{ k:Nat // k<=wdM a }),wdM a-aA i'<wdM a-aA i_1/\IntKind.wrap IntKind.i64 (aB (aA i_1)+1)=aB (aA i')/\List.set eU (nameAt none gQ) (List.set A₂ (aB (aA i)).toNat (List.getD A₁ gQ 0))=trU a (aA i) (aA i')/\True) (∃ (i':{ k:Nat // k<=List.length a }),List.length a-aA i'<List.length a-aA i/\IntKind.wrap IntKind.i64 (aB (aA i)+1)=aB (aA i')/\trU a (aA i) (aA i_1)=trU a (aA i') 0/\True)) (True/\trU a (aA i) 0=trM a/\True)) (by kernel_rfl) ?_
 have hZ:(⟨false,0,[],[]⟩:aG)=bM:=rfl
 dsimp only[aB,asT,aA,aJ,Ty.den,Lf.den] at *
 simp only[hZ,Int.toNat_natCast,aO,ay,ak,ni,lg,iE,nameAt,cO,jQ,lD,rowAt,jc,iq]
 have ha:okM a:=hp
 have q1:=ha.r64
 have q2:=ha.c64
 have q5:=ha.pos
 rw[show (a.getD 0 []).length=wdM a from rfl]
 refine⟨⟨Int.le_refl 0,by omega,by omega,by omega,by omega,by omega⟩,BP fun p _ q _=>(jq (by omega)).symm,fun i=>⟨fun h1 c=>?_,fun h1=>BP fun p _ q hq=>jv (by omega)⟩⟩
 have hi:i.1<a.length:=by omega
 rw[ha.row hi]
 refine⟨⟨by omega,h1⟩,fun h2=>?_,fun h2=>⟨⟨i.1+1,by omega⟩,by simp only;omega,by rw[bI (by omega) (by omega)];rfl,BP fun p hp q _=>?_⟩⟩
 ·have hc:c.1<wdM a:=by omega
  have e1:(trU a i.1 c.1).length=wdM a:=lD
  have e2:((trU a i.1 c.1).getD c.1 []).length=a.length:=by unfold trU;rw[IL hc];simp
  rw[e1,e2]
  refine⟨⟨by omega,by omega,hc,by omega,by omega,by omega,by omega,by omega,by omega,hi⟩,⟨c.1+1,by omega⟩,by simp only;omega,by rw[bI (by omega) (by omega)];rfl,(b1v _ hc).trans (BP fun p _ q _=>?_)⟩
  show (if p=c.1/\q=i.1 then ent a i.1 c.1 else if q<i.1\/q=i.1/\p<c.1 then ent a q p else 0)=if q<i.1\/q=i.1/\p<c.1+1 then ent a q p else 0
  by_cases e:p=c.1/\q=i.1
  ·rw[jv e,jv (by omega),e.1,e.2]
  ·rw[jq e]
   by_cases e3:q<i.1\/q=i.1/\p<c.1
   ·rw[jv e3,jv (by omega)]
   ·rw[jq e3,jq (by omega)]
 ·show (if q<i.1\/q=i.1/\p<c.1 then ent a q p else 0)=if q<i.1+1\/q=i.1+1/\p<0 then ent a q p else 0
  by_cases e3:q<i.1\/q=i.1/\p<c.1
  ·rw[jv e3,jv (by omega)]
  ·rw[jq e3,jq (by omega)]
noncomputable def c2f:Ctr:=⟨[tZ,tZ],[tQ],fun x=>isz x.1<=390000000/\isz x.2.1<=390000000/\(show Int from x.2.1)≠0,fun x=>(Rat.divInt x.1 x.2.1,())⟩
theorem b3t:aS Tryz.prog 162 c2f:=by
 intro F w vs x hF hvs hp
 obtain⟨v,vs',rfl,h1,u,vs'',rfl,h2,h3⟩:=hvs
 have h3:vs''=[]:=h3
 subst h3
 refine(pW v u x.1 x.2.1 w (nN h1) (nN h2) (dh hp.1 (by omega)) (dh hp.2.1 (by omega)) hp.2.2).mono ?_
 rintro e w' ⟨r,rfl,hr,hb⟩
 exact⟨_,rfl,XG hr,hb⟩
theorem b1H:aS Tryz.prog 77 (c0C 1000000000 sgn):=(b2b fun v x w h1 l1=>nC v x w h1 l1)
noncomputable def c0r:Ctr:=⟨[tZ,tZ],[tR,tI],fun x=>isz x.1<=390000000/\isz x.2.1<=390000000,fun x=>newT 14 x.1 x.2.1⟩
theorem a7p:aS Tryz.prog 160 c0r:=by
 refine bH ((nil0.ad b3t).ad b1H) ⟨[4],[],[]⟩ Tryz.func160 rfl (by decide) (fun x=>[]) (fun x hp=>?_)
 obtain⟨x,y,u⟩:=x
 change Int at x
 change Int at y
 refine dD ((isz y<=1000000000/\True)/\ifB (sgn y==0) (True/\bM=Prod.fst (newT 14 x y)/\True/\14=Prod.fst (newT 14 x y).2/\True) (((isz x<=390000000/\isz y<=390000000/\y≠0)/\True)/\True/\kC (Rat.divInt x y)=Prod.fst (newT 14 x y)/\True/\0=Prod.fst (newT 14 x y).2/\True)) (by kernel_rfl) ?_
 have hZ:(⟨false,0,[],[]⟩:aG)=bM:=rfl
 try simp only[aO,ay,ak]
 try dsimp only[aB,asT,aA,aJ,Ty.den,Lf.den] at *
 try simp only[hZ,Int.toNat_natCast,aO,ay,ak,ni,lg,jc,iq]
 try simp only[fU,fQ,List.all_cons,List.all_nil,oq,iw,jo,jh,ql,ne_eq,aj,je,jf,jl,mg,vw,qg,wu,ni,lg,jw,iy,List.length_cons,List.length_nil]
 obtain⟨l1,l2⟩:isz x<=390000000/\isz y<=390000000:=hp
 refine⟨by omega,fun h=>?_,fun h=>?_⟩
 ·have h0:y=0:=Am.1 (show sgn y=0 by simpa using h)
  unfold newT;rw[jv h0];exact⟨rfl,rfl⟩
 ·have h0:y≠0:=fun e=>by rw[e] at h;exact absurd h (by decide)
  refine⟨⟨l1,l2,h0⟩,?_⟩
  unfold newT;rw[jq h0];exact⟨rfl,rfl⟩
theorem b1I:aS Tryz.prog 161 (cZ2 fun x y=>x*y):=(DK fun v u x y w h1 h2 l1 l2=>kR v u x y w h1 h2 l1 l2)
theorem b9w:aS Tryz.prog 78 (cQ1 (fun x=>rsz x<=999999999) (fun x=>x)):=(a7Y fun v x w a h=>jB v x w a h)
noncomputable def c1Y:Ctr:=⟨[tQ,tQ],[tR,tI],fun x=>rsz x.1<=190000000/\rsz x.2.1<=190000000,fun x=>TT 14 x.1 x.2.1⟩
theorem b0C:aS Tryz.prog 74 c1Y:=by
 refine bH (((nil0.ad a7p).ad b1I).ad b9w) ⟨[4,6,7],[],[]⟩ Tryz.func74 rfl (by decide) (fun x=>[]) (fun x hp=>?_)
 obtain⟨x,y,u⟩:=x
 change Rat at x
 change Rat at y
 refine dD ((rsz x<=999999999/\True)/\(rsz y<=999999999/\True)/\((isz (Rat.num x)<=1000000000/\isz (aB (Rat.den y))<=1000000000)/\(isz (aB (Rat.den x))<=1000000000/\isz (Rat.num y)<=1000000000)/\(isz (Rat.num x*aB (Rat.den y))<=390000000/\isz (aB (Rat.den x)*Rat.num y)<=390000000)/\True)/\True/\Prod.fst (newT 14 (Rat.num x*aB (Rat.den y)) (aB (Rat.den x)*Rat.num y))=Prod.fst (TT 14 x y)/\True/\Prod.fst (newT 14 (Rat.num x*aB (Rat.den y)) (aB (Rat.den x)*Rat.num y)).2=Prod.fst (TT 14 x y).2/\True) (by kernel_rfl) ?_
 have hZ:(⟨false,0,[],[]⟩:aG)=bM:=rfl
 try simp only[aO,ay,ak]
 try dsimp only[aB,asT,aA,aJ,Ty.den,Lf.den] at *
 try simp only[hZ,Int.toNat_natCast,aO,ay,ak,ni,lg,jc,iq]
 try simp only[fU,fQ,List.all_cons,List.all_nil,oq,iw,jo,jh,ql,ne_eq,aj,je,jf,jl,mg,vw,qg,wu,ni,lg,jw,iy,List.length_cons,List.length_nil]
 obtain⟨l1,l2⟩:rsz x<=190000000/\rsz y<=190000000:=hp
 have hb1:=dL x
 have hb2:=dG x
 have hb3:=dL y
 have hb4:=dG y
 have hc1:=dH x.num y.den
 have hc4:=dH x.den y.num
 have e:newT 14 (x.num*y.den) (x.den*y.num)=TT 14 x y:=by
  unfold newT TT
  by_cases hy:y=0
  ·rw[jv hy,jv (by rw[hy];simp)]
  ·have hn0:y.num≠0:=fun h=>hy ((rG y).1 h)
   have hd0:(x.den:Int)*y.num≠0:=fun h=>by
    have:=x.den_nz
    rcases Int.mul_eq_zero.1 h with h|h<;>omega
   rw[jq hy,jq hd0,NR]
 rw[e]
 exact⟨by omega,by omega,⟨⟨by omega,by omega⟩,⟨by omega,by omega⟩,by omega,by omega⟩,rfl,rfl⟩
theorem a0z {α:Type}:∀ {l:List α},l.length=3->∃ a b c,l=[a,b,c]
 | [a,b,c],_=>⟨a,b,c,rfl⟩
theorem m33.form {K:Nat} {f:MQ} (h:m33 K f):∃ a b c d e g i j k:Rat,f=[[a,b,c],[d,e,g],[i,j,k]]:=by
 have l1:=h.1.1
 have l2:=h.1.2.1
 obtain⟨r,s,t,rfl⟩:=a0z l1
 obtain⟨a,b,c,rfl⟩:=a0z (l2 r (by simp))
 obtain⟨d,e,g,rfl⟩:=a0z (l2 s (by simp))
 obtain⟨i,j,k,rfl⟩:=a0z (l2 t (by simp))
 exact⟨a,b,c,d,e,g,i,j,k,rfl⟩
theorem m33.flat {K:Nat} {f:MQ} (h:m33 K f):f.flatten.length=9/\∀ q ∈ f.flatten,rsz q<=K:=by
 obtain⟨a,b,c,d,e,g,i,j,k,rfl⟩:=h.form
 refine⟨rfl,fun q hq=>?_⟩
 have hq:q ∈ [a,b,c,d,e,g,i,j,k]:=hq
 have h2:∀ x y:Nat,x<3->y<3->rsz (ent [[a,b,c],[d,e,g],[i,j,k]] x y)<=K:=fun x y hx hy=>h.2 x hx y hy
 simp only[qm,Bz,or_false] at hq
 rcases hq with rfl|rfl|rfl|rfl|rfl|rfl|rfl|rfl|rfl
 ·exact h2 0 0 (by omega) (by omega)
 ·exact h2 0 1 (by omega) (by omega)
 ·exact h2 0 2 (by omega) (by omega)
 ·exact h2 1 0 (by omega) (by omega)
 ·exact h2 1 1 (by omega) (by omega)
 ·exact h2 1 2 (by omega) (by omega)
 ·exact h2 2 0 (by omega) (by omega)
 ·exact h2 2 1 (by omega) (by omega)
 ·exact h2 2 2 (by omega) (by omega)
theorem m33.rows {K:Nat} {f:MQ} (h:m33 K f):f.length=3/\∀ i,i<3->(f.getD i []).length=3/\∀ j,j<3->rsz (lv (f.getD i []) j)<=K:=⟨h.1.len,fun i hi=>⟨h.1.2.1 _ (rQ (by rw[h.1.len];exact hi)),fun j hj=>h.2 i (by rw[h.1.len];exact hi) j (by rw[h.1.wd];exact hj)⟩⟩
theorem cdI.mul {a b:Int} (ha:cdI a) (hb:cdI b):(a*b).natAbs<=1099511627776:=by
 rw[Int.natAbs_mul]
 exact dh (xg (show a.natAbs<=1048576 by obtain⟨x,y⟩:=ha;omega) (show b.natAbs<=1048576 by obtain⟨x,y⟩:=hb;omega)) (by omega)
noncomputable def c0h:Ctr:=⟨[tM],[.list tQ],fun x=>(show MQ from x.1).length<=1000/\∀ r ∈ (show MQ from x.1),r.length<=1000,fun x=>((show MQ from x.1).flatten,())⟩
theorem a1d:aS Tryz.prog 119 c0h:=by
 refine bH Lib.nil ⟨[],[],[]⟩ Tryz.func119 rfl (by decide) (fun x=>[.inv {k:Nat // k<=(show MQ from x.1).length} (fun k=>[(8,.val tI (k.1:Int)),(3,.own 14 0),(14,.any)]) (fun k=>[(14,.row 47 tQ (((show MQ from x.1).take k.1).flatten) 0)]) (fun k=>(show MQ from x.1).length-k.1) ⟨0,by omega⟩ (fun _=>[])]) (fun x hp=>?_)
 obtain⟨f,u⟩:=x
 change List (List Rat) at f
 refine dD ((asT Int 0=0/\(True/\asT (List Rat) (aJ Rat)=aJ Rat)/\(asT (List Rat) (aJ Rat)=aJ Rat/\0=0/\asT Bool true=true)/\True)/\∀ (i:{ k:Nat // k<=List.length f }),asT Bool true=true/\ifB (decide (aB (aA i)<aB f.length)) ((0<=aB (aA i)/\aB (aA i)<aB f.length/\True)/\(List.length (List.flatten (List.take (aA i) f))+List.length (List.getD f (aB (aA i)).toNat (aJ Rat))<=1000000000/\True)/\∃ (i':{ k:Nat // k<=List.length f }),List.length f-aA i'<List.length f-aA i/\IntKind.wrap IntKind.i64 (aB (aA i)+1)=aB (aA i')/\List.flatten (List.take (aA i) f)++List.getD f (aB (aA i)).toNat (aJ Rat)=List.flatten (List.take (aA i') f)/\True) (True/\List.flatten (List.take (aA i) f)=List.flatten f/\True)) (by kernel_rfl) ?_
 have hZ:(⟨false,0,[],[]⟩:aG)=bM:=rfl
 try simp only[aO,ay,ak]
 try dsimp only[aB,asT,aA,aJ,Ty.den,Lf.den] at *
 try simp only[hZ,Int.toNat_natCast,aO,ay,ak,ni,lg,jc,iq]
 try simp only[fU,fQ,List.all_cons,List.all_nil,oq,iw,jo,jh,ql,ne_eq,aj,je,jf,jl,mg,vw,qg,wu,ni,lg,jw,iy,List.length_cons,List.length_nil]
 obtain⟨hl,hr⟩:f.length<=1000/\∀ r ∈ f,r.length<=1000:=hp
 have hf:∀ k,(f.take k).flatten.length<=1000000:=fun k=>by
  have h1:=MZ (K:=1000) (x:=f.take k) fun r h=>hr r (zu h)
  have h2:(f.take k).length<=1000:=by rw[jy];omega
  omega
 exact fun i=>⟨fun h1=>⟨⟨by omega,h1⟩,by have:=hf i.1;have:(f.getD i.1 []).length<=1000:=aV hr (by omega);omega,⟨i.1+1,by omega⟩,by simp only;omega,by rw[bI (by omega) (by omega)];rfl,(JH (by omega)).symm⟩,fun h1=>by rw[jg (by omega)]⟩
def qM (p:dZ):List Int:=[p.2.1.1*p.1.1,p.2.1.1*p.1.2.1,p.2.1.1*1,p.2.1.2.1*p.1.1,p.2.1.2.1*p.1.2.1,p.2.1.2.1*1,1*p.1.1,1*p.1.2.1,1*1]
theorem b3z (p:dZ) {k c:Nat} (hk:k<3) (hc:c<3):(qM p).getD (3*k+c) 0=(EI p.2.1).getD k 0*(EI p.1).getD c 0:=by
 have h1:k=0\/k=1\/k=2:=by omega
 have h2:c=0\/c=1\/c=2:=by omega
 rcases h1 with rfl|rfl|rfl<;>rcases h2 with rfl|rfl|rfl<;>rfl
theorem a0n {p:dZ} (h1:cdP p.1) (h2:cdP p.2.1):∀ n ∈ qM p,n.natAbs<=1099511627776:=fun n hn=>by
 have o:cdI 1:=⟨by omega,by omega⟩
 simp only[qM,qm,Bz,or_false] at hn
 rcases hn with rfl|rfl|rfl|rfl|rfl|rfl|rfl|rfl|rfl
 ·exact h2.1.mul h1.1
 ·exact h2.1.mul h1.2
 ·exact h2.1.mul o
 ·exact h2.2.mul h1.1
 ·exact h2.2.mul h1.2
 ·exact h2.2.mul o
 ·exact o.mul h1.1
 ·exact o.mul h1.2
 ·exact o.mul o
noncomputable def c0x:Ctr:=⟨[IJ],[.list tI],fun x=>cdP x.1.1/\cdP x.1.2.1,fun x=>(qM x.1,())⟩
theorem b0P:aS Tryz.prog 122 c0x:=by
 refine bH Lib.nil ⟨[],[],[]⟩ Tryz.func122 rfl (by decide) (fun x=>[.inv {k:Nat // k<=3} (fun k=>[(22,.val tI (k.1:Int)),(5,.own 38 0),(38,.any)]) (fun k=>[(38,.row 3 tI ((qM (show dZ from x.1)).take (3*k.1)) 0)]) (fun k=>3-k.1) ⟨0,by omega⟩ (fun k=>[
  .inv {c:Nat // c<=3} (fun c=>[(25,.val tI (c.1:Int)),(5,.own 38 0),(38,.any)]) (fun c=>[(38,.row 3 tI ((qM (show dZ from x.1)).take (3*k.1+c.1)) 0)]) (fun c=>3-c.1) ⟨0,by omega⟩ (fun _=>[])])]) (fun x hp=>?_)
 obtain⟨p,u⟩:=x
 change dZ at p
 refine dD (let A₀:=(asT Int p.2.1.1::asT Int p.2.1.2.1::1::aJ Int);let A₁:=(asT Int p.1.1::asT Int p.1.2.1::1::aJ Int);(asT Int 0=0/\(True/\asT (List Int) (aJ Int)=aJ Int)/\(asT (List Int) (aJ Int)=aJ Int/\0=0/\asT Bool true=true)/\True)/\∀ (i:{ k:Nat // k<=3 }),asT Bool true=true/\ifB (decide (aB (aA i)<3)) ((asT Int 0=0/\List.take (3*aA i) (qM p)=List.take (3*aA i+0) (qM p)/\True)/\∀ (i_1:{ c:Nat // c<=3 }),let A₂:=(List.getD A₀ (aB (aA i)).toNat 0*List.getD A₁ (aB (aA i_1)).toNat 0);let eU:=(3*aA i+aA i_1);asT Bool true=true/\ifB (decide (aB (aA i_1)<3)) ((0<=aB (aA i)/\aB (aA i)<aB A₀.length/\0<=aB (aA i_1)/\aB (aA i_1)<aB A₁.length/\List.length (List.take eU (qM p))+List.length (IntKind.wrap IntKind.i64 A₂::aJ Int)<=1000000000/\True)/\∃ (i':{ c:Nat // c<=3 }),3-aA i'<3-aA i_1/\IntKind.wrap IntKind.i64 (aB (aA i_1)+1)=aB (aA i')/\List.take eU (qM p)++IntKind.wrap IntKind.i64 A₂::aJ Int=List.take (3*aA i+aA i') (qM p)/\True) (∃ (i':{ k:Nat // k<=3 }),3-aA i'<3-aA i/\IntKind.wrap IntKind.i64 (aB (aA i)+1)=aB (aA i')/\List.take eU (qM p)=List.take (3*aA i') (qM p)/\True)) (True/\List.take (3*aA i) (qM p)=qM p/\True)) (by kernel_rfl) ?_
 have hZ:(⟨false,0,[],[]⟩:aG)=bM:=rfl
 try simp only[aO,ay,ak]
 try dsimp only[aB,asT,aA,aJ,Ty.den,Lf.den] at *
 try simp only[hZ,Int.toNat_natCast,aO,ay,ak,ni,lg,jc,iq]
 try simp only[fU,fQ,List.all_cons,List.all_nil,oq,iw,jo,jh,ql,ne_eq,aj,je,jf,jl,mg,vw,qg,wu,ni,lg,jw,iy,List.length_cons,List.length_nil]
 obtain⟨h1,h2⟩:cdP p.1/\cdP p.2.1:=hp
 have hl:(qM p).length=9:=rfl
 refine fun i=>⟨fun g1=>⟨rfl,fun c=>⟨fun g2=>?_,fun g2=>⟨⟨i.1+1,by omega⟩,by simp only;omega,by rw[bI (by omega) (by omega)];rfl,?_⟩⟩⟩,fun g1=>?_⟩
 ·have hi:i.1<3:=by omega
  have hc:c.1<3:=by omega
  have hn:3*i.1+c.1<(qM p).length:=by rw[hl];omega
  have e:[p.2.1.1,p.2.1.2.1,1].getD i.1 0*[p.1.1,p.1.2.1,1].getD c.1 0=(qM p).getD (3*i.1+c.1) 0:=(b3z p hi hc).symm
  have hz:=aV (a0n h1 h2) hn (d:=0)
  refine⟨⟨by omega,by omega,by omega,by omega,by rw[jy];omega⟩,⟨c.1+1,by omega⟩,by simp only;omega,by rw[bI (by omega) (by omega)];rfl,?_⟩
  rw[e,bI (by omega) (by omega)]
  show _=List.take (3*i.1+c.1+1) (qM p)
  rw[Dh,dn,dw hn];rfl
 ·show _=List.take (3*(i.1+1)) (qM p)
  rw[show 3*i.1+c.1=3*(i.1+1) by have:=c.2;omega]
 ·rw[jg (by rw[hl];omega)]
theorem KH:aS Tryz.prog 58 (cIQ gB (fun i=>(i:Rat))):=by
 refine bH (nil0.ad b4R) ⟨[2],[],[]⟩ Tryz.func58 rfl (by decide) (fun x=>[]) (fun x hp=>?_)
 obtain⟨n,u⟩:=x
 change Int at n
 refine dD ((gB n/\True)/\True/\dR n=dR n/\True) (by kernel_rfl) ?_
 have hZ:(⟨false,0,[],[]⟩:aG)=bM:=rfl
 try simp only[aO,ay,ak]
 try dsimp only[aB,asT,aA,aJ,Ty.den,Lf.den] at *
 try simp only[hZ,Int.toNat_natCast,aO,ay,ak,ni,lg,jc,iq]
 try simp only[fU,fQ,List.all_cons,List.all_nil,oq,iw,jo,jh,ql,ne_eq,aj,je,jf,jl,mg,vw,qg,wu,ni,lg,jw,iy,List.length_cons,List.length_nil]
 exact hp
def yD (x y:LQ'):Prop:=x.length=y.length/\x.length<=64/\∀ i,i<x.length->rsz (lv x i)<=10000/\rsz (lv y i)<=10000
theorem EW {x y:LQ'} {A B:Nat} {k:Nat} (h:∀ i,i<k->rsz (lv x i)<=A/\rsz (lv y i)<=B):rsz (fG x y k)<=k*(A+B+1)+1 :=
 a0w (K:=A+B) (f:=fun i=>lv x i*lv y i) k (fun i hi=>by
  have ⟨a,b⟩:=h i hi
  have:=oD (lv x i) (lv y i);show rsz (lv x i*lv y i)<=_;omega)
theorem yD.sz {x y:LQ'} (h:yD x y) {k:Nat} (hk:k<=x.length):rsz (fG x y k)<=2000000:=by
 have h1:=EW (x:=x) (y:=y) (A:=10000) (B:=10000) (k:=k) fun i hi=>h.2.2 i (by omega)
 have h2:=h.2.1
 have:k*20001<=64*20001:=xg (by omega) (by omega)
 omega
noncomputable def c0e:Ctr:=⟨[.list tQ,.list tQ],[tQ],fun x=>yD x.1 x.2.1,fun x=>(fG x.1 x.2.1 (show LQ' from x.1).length,())⟩
theorem a8t:aS Tryz.prog 18 c0e:=by
 refine bH (((nil0.ad b1J).ad a4g).ad KH) ⟨[4,5],[],[]⟩ Tryz.func18 rfl (by decide) (fun x=>[.inv {k:Nat // k<=(show LQ' from x.1).length} (fun k=>[(10,.val tI (k.1:Int))]) (fun k=>[(4,.box [⟨tR,bM⟩]),(5,.box [⟨tQ,fG x.1 x.2.1 k.1⟩])]) (fun k=>(show LQ' from x.1).length-k.1) ⟨0,by omega⟩ (fun _=>[])]) (fun x hp=>?_)
 obtain⟨x,y,u⟩:=x
 change List Rat at x
 change List Rat at y
 refine dD ((gB 0/\True)/\(asT Int 0=0/\asT aG bM=bM/\dR 0=fG x y 0/\True)/\∀ (i:{ k:Nat // k<=List.length x }),asT Bool true=true/\ifB (decide (aB (aA i)<aB x.length)) ((0<=aB (aA i)/\aB (aA i)<aB x.length/\0<=aB (aA i)/\aB (aA i)<aB y.length/\s19 (List.getD x (aB (aA i)).toNat 0) (List.getD y (aB (aA i)).toNat 0)/\s19 (fG x y (aA i)) (List.getD x (aB (aA i)).toNat 0*List.getD y (aB (aA i)).toNat 0)/\True)/\∃ (i':{ k:Nat // k<=List.length x }),List.length x-aA i'<List.length x-aA i/\IntKind.wrap IntKind.i64 (aB (aA i)+1)=aB (aA i')/\asT aG bM=bM/\fG x y (aA i)+List.getD x (aB (aA i)).toNat 0*List.getD y (aB (aA i)).toNat 0=fG x y (aA i')/\True) (True/\fG x y (aA i)=fG x y x.length/\True)) (by kernel_rfl) ?_
 have hZ:(⟨false,0,[],[]⟩:aG)=bM:=rfl
 try simp only[aO,ay,ak]
 try dsimp only[aB,asT,aA,aJ,Ty.den,Lf.den] at *
 try simp only[hZ,Int.toNat_natCast,aO,ay,ak,ni,lg,jc,iq]
 try simp only[fU,fQ,List.all_cons,List.all_nil,oq,iw,jo,jh,ql,ne_eq,aj,je,jf,jl,mg,vw,qg,wu,ni,lg,jw,iy,List.length_cons,List.length_nil]
 have hp:yD x y:=hp
 have hs:=fun k (hk:k<=x.length)=>hp.sz hk
 obtain⟨hl,h64,hr⟩:=hp
 refine⟨⟨by omega,by omega⟩,rfl,fun i=>⟨fun h1=>?_,fun h1=>?_⟩⟩
 ·have hi:i.1<x.length:=by omega
  have a1:rsz (x.getD i.1 0)<=10000:=(hr i.1 hi).1
  have a2:rsz (y.getD i.1 0)<=10000:=(hr i.1 hi).2
  have a3:=hs i.1 i.2
  have a4:=oD (x.getD i.1 0) (y.getD i.1 0)
  exact⟨⟨by omega,h1,by omega,by omega,⟨by omega,by omega⟩,⟨by omega,by omega⟩⟩,⟨i.1+1,by omega⟩,by simp only;omega,by rw[bI (by omega) (by omega)];rfl,rfl⟩
 ·rw[show i.1=x.length by have:=i.2;omega]
def GX (p:dZ):List Rat:=(qM p).map fun i=>dR i
def GZ (f:MQ) (p:dZ):Rat:=fG (GX p) f.flatten 9
theorem GY (p:dZ):(GX p).length=9:=rfl
theorem b3A (p:dZ) {i:Nat} (hi:i<9):dR ((qM p).getD i 0)=(GX p).getD i 0:=by
 unfold GX
 rw[dn,dn,tq,dw (show i<(qM p).length from hi)];rfl
theorem a5z {p:dZ} (h1:cdP p.1) (h2:cdP p.2.1):∀ q ∈ GX p,rsz q<=3:=fun q hq=>by
 obtain⟨n,hn,rfl⟩:=uj.mp hq
 have:=a0n h1 h2 n hn
 exact dh (a0q n) (Nat.add_le_add_right (qU (k:=2) (by unfold BB;omega)) 1)
theorem a5E {f:MQ} (hf:m33 100 f) {p:dZ} (h1:cdP p.1) (h2:cdP p.2.1):yD (GX p) f.flatten:=⟨by rw[hf.flat.1,GY],by rw[GY];omega,fun i hi=>⟨dh (aV (a5z h1 h2) hi) (by omega),dh (aV hf.flat.2 (by rw[hf.flat.1];exact hi)) (by omega)⟩⟩
noncomputable def c2g:Ctr:=⟨[tM,IJ],[tQ],fun x=>m33 100 x.1/\cdP x.2.1.1/\cdP x.2.1.2.1,fun x=>(GZ x.1 x.2.1,())⟩
theorem a5D:aS Tryz.prog 43 c2g:=by
 refine bH (((((nil0.ad b1J).ad a4g).ad KH).ad b0P).ad a1d) ⟨[4,5],[],[]⟩ Tryz.func43 rfl (by decide) (fun x=>[.inv {k:Nat // k<=9} (fun k=>[(12,.val tI (k.1:Int))]) (fun k=>[(4,.box [⟨tR,bM⟩]),(5,.box [⟨tQ,fG (GX (show dZ from x.2.1)) (show MQ from x.1).flatten k.1⟩])]) (fun k=>9-k.1) ⟨0,by omega⟩ (fun _=>[])]) (fun x hp=>?_)
 obtain⟨f,p,u⟩:=x
 change List (List Rat) at f
 change dZ at p
 refine dD (let A₁:=p.2.1;let A₂:=p.1.2.1;let eU:=A₁.2.1;let gQ:=p.1.1;let A₀:=(asT Int A₁.1*asT Int gQ::asT Int A₁.1*asT Int A₂::asT Int A₁.1*1::asT Int eU*asT Int gQ::asT Int eU*asT Int A₂::asT Int eU*1::1*asT Int gQ::1*asT Int A₂::1*1::aJ Int);(gB 0/\True)/\((cdP p.1/\cdP A₁)/\True)/\(asT Int 0=0/\asT aG bM=bM/\dR 0=fG (GX p) (List.flatten f) 0/\True)/\∀ (i:{ k:Nat // k<=9 }),let iF:=(aB (aA i)).toNat;asT Bool true=true/\ifB (decide (aB (aA i)<aB A₀.length)) ((0<=aB (aA i)/\aB (aA i)<aB A₀.length/\True)/\(gB (List.getD A₀ iF 0)/\(List.length f<=1000/\∀ (r:List Rat),r ∈ f->List.length r<=1000)/\0<=aB (aA i)/\aB (aA i)<aB (List.flatten f).length/\s19 (dR (List.getD A₀ iF 0)) (List.getD (List.flatten f) iF 0)/\s19 (fG (GX p) (List.flatten f) (aA i)) (dR (List.getD A₀ iF 0)*List.getD (List.flatten f) iF 0)/\True)/\∃ (i':{ k:Nat // k<=9 }),9-aA i'<9-aA i/\IntKind.wrap IntKind.i64 (aB (aA i)+1)=aB (aA i')/\asT aG bM=bM/\fG (GX p) (List.flatten f) (aA i)+dR (List.getD A₀ iF 0)*List.getD (List.flatten f) iF 0=fG (GX p) (List.flatten f) (aA i')/\True) (True/\fG (GX p) (List.flatten f) (aA i)=GZ f p/\True)) (by kernel_rfl) ?_
 have hZ:(⟨false,0,[],[]⟩:aG)=bM:=rfl
 try simp only[aO,ay,ak]
 try dsimp only[aB,asT,aA,aJ,Ty.den,Lf.den] at *
 try simp only[hZ,Int.toNat_natCast,aO,ay,ak,ni,lg,jc,iq]
 try simp only[fU,fQ,List.all_cons,List.all_nil,oq,iw,jo,jh,ql,ne_eq,aj,je,jf,jl,mg,vw,qg,wu,ni,lg,jw,iy,List.length_cons,List.length_nil]
 obtain⟨hf,h1,h2⟩:m33 100 f/\cdP p.1/\cdP p.2.1:=hp
 have hd:=a5E hf h1 h2
 have hl:=hf.flat.1
 have hn:∀ n ∈ qM p,gB n:=fun n h=>by have:=a0n h1 h2 n h;exact⟨by omega,by omega⟩
 rw[show [p.2.1.1*p.1.1,p.2.1.1*p.1.2.1,p.2.1.1*1,p.2.1.2.1*p.1.1,p.2.1.2.1*p.1.2.1,p.2.1.2.1*1,1*p.1.1,1*p.1.2.1,1*1]=qM p from rfl]
 refine⟨⟨by omega,by omega⟩,⟨h1,h2⟩,rfl,fun i=>⟨fun h=>?_,fun h=>?_⟩⟩
 ·have hi:i.1<9:=by omega
  have b1:rsz ((GX p).getD i.1 0)<=3:=aV (a5z h1 h2) hi
  have b2:rsz (f.flatten.getD i.1 0)<=100:=aV hf.flat.2 (by rw[hl];exact hi)
  have b3:=hd.sz (k:=i.1) (by rw[GY];omega)
  have b4:=oD ((GX p).getD i.1 0) (f.flatten.getD i.1 0)
  have w0:gB ((qM p).getD i.1 0):=aV hn hi
  have hr:∀ r ∈ f,r.length<=1000:=fun r hr=>by have:=hf.1.2.1 r hr;omega
  have h3:=hf.1.len
  rw[b3A p hi,hl]
  exact⟨⟨by omega,h⟩,⟨w0,⟨by omega,hr⟩,by omega,by omega,⟨by omega,by omega⟩,⟨by omega,by omega⟩⟩,⟨i.1+1,by omega⟩,by simp only;omega,by rw[bI (by omega) (by omega)];rfl,rfl⟩
 ·rw[show i.1=9 by have:=i.2;omega];rfl
def SQ (f:MQ) (p:dZ):List Rat:=[fG (f.getD 0 []) (fP p.1) 3,fG (f.getD 1 []) (fP p.1) 3,fG ((trM f).getD 0 []) (fP p.2.1) 3,fG ((trM f).getD 1 []) (fP p.2.1) 3]
def a7A (f:MQ) (p:dZ):Rat:=fG (SQ f p) (SQ f p) 4
def a2s (f:MQ) (p:dZ):aG × Int × Unit:=if a7A f p=0 then (bM,13,()) else (kC (GZ f p*GZ f p / a7A f p),0,())
theorem NW {f:MQ} (hf:m33 100 f) {p:EN} (hp:cdP p) {i:Nat} (hi:i<3):yD (f.getD i []) (fP p)/\rsz (fG (f.getD i []) (fP p) 3)<=1000:=by
 obtain⟨h1,h2⟩:=hf.rows
 obtain⟨h3,h4⟩:=h2 i hi
 have h5:∀ j,j<3->rsz (lv (fP p) j)<=2:=fun j hj=>aV (BX hp) (by rw[lW];exact hj)
 refine⟨⟨by rw[h3,lW],by omega,fun j hj=>⟨dh (h4 j (by omega)) (by omega),dh (h5 j (by omega)) (by omega)⟩⟩,?_⟩
 exact dh (EW (A:=100) (B:=2) fun j hj=>⟨h4 j hj,h5 j hj⟩) (by omega)
noncomputable def c2n:Ctr:=⟨[tM,IJ],[tR,tI],fun x=>m33 100 x.1/\cdP x.2.1.1/\cdP x.2.1.2.1,fun x=>a2s x.1 x.2.1⟩
theorem b3P:aS Tryz.prog 41 c2n:=by
 refine bH (((((((nil0.ad a4g).ad b9x).ad b0C).ad KH).ad a8t).ad a5D).ad b3H) ⟨[4,10,11],[],[]⟩ Tryz.func41 rfl (by decide) (fun x=>[]) (fun x hp=>?_)
 obtain⟨f,p,u⟩:=x
 change List (List Rat) at f
 change dZ at p
 refine dD (let eU:=p.2.1;let gQ:=(List.getD (trM f) 0 (aJ Rat));let iF:=(List.getD (trM f) 1 (aJ Rat));let pY:=(List.getD f 0 (aJ Rat));let lG:=(List.getD f 1 (aJ Rat));let yG:=(asT Int p.1.2.1);let oO:=(asT Int eU.2.1);let A₁:=(dR (asT Int eU.1)::dR oO::dR 1::aJ Rat);let CB:=(asT Int p.1.1);let A₂:=(dR CB::dR yG::dR 1::aJ Rat);let A₀:=(fG pY A₂ pY.length::fG lG A₂ lG.length::fG gQ A₁ gQ.length::fG iF A₁ iF.length::aJ Rat);let a0K:=(fG A₀ A₀ A₀.length);let jR:=(TT 14 (GZ f p*GZ f p) a0K);(gB CB/\gB yG/\gB 1/\gB (asT Int eU.1)/\gB oO/\gB 1/\True)/\(okM f/\True)/\(asT Int 0<=0/\0<aB f.length/\yD pY A₂/\asT Int 0<=1/\1<aB f.length/\yD lG A₂/\asT Int 0<=0/\0<aB (trM f).length/\yD gQ A₁/\asT Int 0<=1/\1<aB (trM f).length/\yD iF A₁/\True)/\((m33 100 f/\cdP p.1/\cdP eU)/\True)/\(s19 (GZ f p) (GZ f p)/\yD A₀ A₀/\(rsz (GZ f p*GZ f p)<=190000000/\rsz a0K<=190000000)/\True)/\ifB (Prod.fst jR.2 != 0) (True/\bM=Prod.fst (a2s f p)/\True/\13=Prod.fst (a2s f p).2/\True) (True/\Prod.fst jR=Prod.fst (a2s f p)/\True/\0=Prod.fst (a2s f p).2/\True)) (by kernel_rfl) ?_
 have hZ:(⟨false,0,[],[]⟩:aG)=bM:=rfl
 try simp only[aO,ay,ak]
 try dsimp only[aB,asT,aA,aJ,Ty.den,Lf.den] at *
 try simp only[hZ,Int.toNat_natCast,aO,ay,ak,ni,lg,jc,iq]
 try simp only[fU,fQ,List.all_cons,List.all_nil,oq,iw,jo,jh,ql,ne_eq,aj,je,jf,jl,mg,vw,qg,wu,ni,lg,jw,iy,List.length_cons,List.length_nil]
 obtain⟨hf,h1,h2⟩:m33 100 f/\cdP p.1/\cdP p.2.1:=hp
 have ht:=hf.tr
 have r0:=NW hf h1 (i:=0) (by omega)
 have r1:=NW hf h1 (i:=1) (by omega)
 have r2:=NW ht h2 (i:=0) (by omega)
 have r3:=NW ht h2 (i:=1) (by omega)
 have l0:=(hf.rows.2 0 (by omega)).1
 have l1:=(hf.rows.2 1 (by omega)).1
 have l2:=(ht.rows.2 0 (by omega)).1
 have l3:=(ht.rows.2 1 (by omega)).1
 have lf:=hf.rows.1
 have lt:=ht.rows.1
 have o:cdI 1:=⟨by omega,by omega⟩
 rw[show [dR p.1.1,dR p.1.2.1,dR 1]=fP p.1 from rfl,show [dR p.2.1.1,dR p.2.1.2.1,dR 1]=fP p.2.1 from rfl,l0,l1,l2,l3,lf,lt]
 have hr:rsz (GZ f p)<=2000000:=(a5E hf h1 h2).sz (by rw[GY];omega)
 have hr2:=oD (GZ f p) (GZ f p)
 have s4:∀ q ∈ SQ f p,rsz q<=1000:=fun q hq=>by
  simp only[SQ,qm,Bz,or_false] at hq
  rcases hq with rfl|rfl|rfl|rfl
  ·exact r0.2
  ·exact r1.2
  ·exact r2.2
  ·exact r3.2
 have hd:yD (SQ f p) (SQ f p):=⟨rfl,by show 4<=64;omega,fun i hi=>⟨dh (aV s4 hi) (by omega),dh (aV s4 hi) (by omega)⟩⟩
 rw[show [fG (f.getD 0 []) (fP p.1) 3,fG (f.getD 1 []) (fP p.1) 3,fG ((trM f).getD 0 []) (fP p.2.1) 3,fG ((trM f).getD 1 []) (fP p.2.1) 3]=SQ f p from rfl]
 have q3:fG (SQ f p) (SQ f p) (0+1+1+1+1)=a7A f p:=rfl
 rw[q3]
 have b3:rsz (a7A f p)<=2000000:=hd.sz (k:=4) (by show 4<=4;omega)
 refine⟨⟨h1.1.word,h1.2.word,o.word,h2.1.word,h2.2.word,o.word⟩,(hf.ok (by omega)).1,⟨by omega,by omega,r0.1,by omega,by omega,r1.1,by omega,by omega,r2.1,by omega,by omega,r3.1⟩,⟨hf,h1,h2⟩,⟨by omega,hd,by omega,by omega⟩,?_⟩
 unfold TT a2s
 by_cases h0:a7A f p=0
 ·rw[jv h0,jv h0]
  exact⟨fun _=>⟨rfl,rfl⟩,fun h=>absurd h (by decide)⟩
 ·rw[jq h0,jq h0]
  exact⟨fun h=>absurd rfl h,fun _=>⟨rfl,rfl⟩⟩
end Go.Proofs.YtbkocjmmbkifjaaGreat
