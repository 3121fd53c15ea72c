/-
  The law EpipolarInliers of chapter 28 holds for every input; no condition but those of the given statement.
-/
import Derived.Carry
import Derived.Lib.SmallJoins
import Derived.OpenShut
import Derived.Test.YtbkocjmmbkifjaaGreatRows
import Derived.Test.YtbkocjmmbkifjaaGreatQi31
namespace Go.Proofs.YtbkocjmmbkifjaaGreat
open Go Go.RowKit
set_option maxRecDepth 100000
set_option maxHeartbeats 4000000
noncomputable def a7a:Ctr:=a1U [tM] [.list tZ,tQ] [((f0,()),(([1,0,0]:List Int),(1:Rat),()))]
theorem a5N:aT Tryz.prog 86 a7a:=by
 refine zT (L:=LZd) (sg:=sg0) (n:=14) fun p hp=>?_
 rcases qj.1 hp with rfl|hp
 ·kernel_rfl
 cases hp
noncomputable def a7b:Ctr:=a1U [tM] [tB] [((f0,()),(true,()))]
theorem a0T:aT Tryz.prog 85 a7b:=by
 refine zT (L:=LZd) (sg:=sg0) (n:=14) fun p hp=>?_
 rcases qj.1 hp with rfl|hp
 ·kernel_rfl
 cases hp
noncomputable def b2T:Ctr:=a1U [tM] [VP,tI] [((mR0,()),(pB,(0:Int),())),((mS0,()),(pA,(0:Int),()))]
theorem a8n:aT Tryz.prog 98 b2T:=by
 refine zT (L:=LZd) (sg:=sg0) (n:=14) fun p hp=>?_
 rcases qj.1 hp with rfl|hp
 ·kernel_rfl
 rcases qj.1 hp with rfl|hp
 ·kernel_rfl
 cases hp
noncomputable def LZe:Lib:=((LZd.add 86 a7a a5N).add 85 a7b a0T).add 98 b2T a8n
noncomputable def b2R:Ctr:=a1U [tM] [.list b0f,tI] [((f0,()),(c0C,(0:Int),()))]
theorem a8l:aT Tryz.prog 21 b2R:=by
 refine zT (L:=LZe) (sg:=sg0) (n:=14) fun p hp=>?_
 rcases qj.1 hp with rfl|hp
 ·kernel_rfl
 cases hp
noncomputable def b2U:Ctr:=a1U [b0g,b0g] [tM,tI] [((sta 0,sta 10,()),(f0,(0:Int),()))]
theorem a8o:aT Tryz.prog 11 b2U:=by
 refine zT (L:=LZd) (sg:=sg0) (n:=14) fun p hp=>?_
 rcases qj.1 hp with rfl|hp
 ·kernel_rfl
 cases hp
noncomputable def b2S:Ctr:=a1U [tM,b0g,b0g] [tM,tI] [((f0,sta 0,sta 10,()),(f0,(0:Int),()))]
theorem a8m:aT Tryz.prog 26 b2S:=by
 refine zT (L:=LZd) (sg:=sg0) (n:=14) fun p hp=>?_
 rcases qj.1 hp with rfl|hp
 ·kernel_rfl
 cases hp
noncomputable def LZf:Lib:=(((LZd.add 11 b2U a8o).add 26 b2S a8m).add 21 b2R a8l).add 85 a7b a0T
def b3I:Ctr:=⟨[],[tB],fun _=>True,fun _=>(true,())⟩
theorem a5O:aT Tryz.prog 10 b3I:=by
 refine XJ (a3J (L:=LZf) (sg:=sg0) (n:=14) (ts:=[]) (rs:=[tB]) (pre:=fun _=>True) (f:=fun _=>(true,())) fun x _=>?_)
 obtain⟨⟩:=x
 kernel_rfl
section
open Go Go.ChangeShapes Go.WideShapes Go.ChangeAt Go.RowKit Go.Joins
set_option linter.unusedVariables false
theorem own:ownKnob Tryz.prog.godebug=none:=by kernel_rfl
section
variable {H:Type} {enc:TypeId × Value->H} {W:World} {base:Nat}
end
end
section
open Go Go.ChangeShapes Go.WideShapes Go.ChangeAt Go.RowKit Go.Joins
set_option linter.unusedVariables false
set_option linter.unusedSimpArgs false
theorem laidOut:laidOutB Tryz.prog=true:=by kernel_rfl
theorem a6X:Tryz.prog.cellsOf 47=4:=by kernel_rfl
theorem a6W:Tryz.prog.cellsOf 45=2:=by kernel_rfl
theorem a5n:Tryz.prog.cellsOf 43=1:=by kernel_rfl
theorem a5m:Tryz.prog.cellsOf 4=1:=by kernel_rfl
theorem a6Y:Tryz.prog.cellsOf 148=1:=by kernel_rfl
def TW (q:aF):Prop:=∀ K,1<=K->q.n<=K->q.m<=K->rsz q.x<=K
def b8o {α:Type} (p:α->Prop) (xs:List α):Prop:=∀ x ∈ xs,p x
def good:(t:Ty)->t.den->Prop
 | .bool,_=>True
 | .int k,n=>(Lit.int k n).wf=true
 | .lf .iZ,q=>TW q
 | .lf _,_=>True
 | .list t,xs=>List.length (α:=t.den) xs<=9223372036854775807/\b8o (good t) xs
 | .arr n t,xs=>List.length (α:=t.den) xs=n/\b8o (good t) xs
 | .pair a b,x=>good a x.1/\good b x.2
 | .unit,_=>True
 | .ref _,_=>True
 | .clo _ _,_=>True
 | .nls _,_=>True
noncomputable def dZ:Ty->Option TypeId->List Field->Nat->Bool
 | .pair a b,none,f::fs,o=>f.offset==o&&Tryz.prog.cellsOf f.type==a.n&&dZ a (some f.type) [] 0&&dZ b none fs (o+a.n)
 | .unit,none,[],_=>true
 | .bool,some T,_,_=>match Tryz.prog.underlying T with
  | some .bool=>true
  | _=>false
 | .int k,some T,_,_=>match Tryz.prog.underlying T with
  | some (.int k')=>k==k'
  | _=>false
 | .lf .iZ,some T,_,_=>T==47
 | .list t,some T,_,_=>match Tryz.prog.underlying T with
  | some (.slice e)=>Tryz.prog.cellsOf e==t.n&&decide (0<t.n)&&dZ t (some e) [] 0
  | _=>false
 | .arr n t,some T,_,_=>match Tryz.prog.underlying T with
  | some (.array m e)=>m==n&&Tryz.prog.cellsOf e==t.n&&Tryz.prog.cellsOf T==n*t.n&&dZ t (some e) [] 0
  | _=>false
 | .pair a b,some T,_,_=>match Tryz.prog.underlying T with
  | some (.struct fs)=>Tryz.prog.cellsOf T==a.n+b.n&&(match fs.toList with
   | f::fs'=>f.offset==0&&Tryz.prog.cellsOf f.type==a.n&&dZ a (some f.type) [] 0&&dZ b none fs' a.n
   | []=>false)
  | _=>false
 | _,_,_,_=>false
section
variable {H:Type} {enc:TypeId × Value->H} {W:World}
theorem a6O {a:Addr} {v:Value} (h:W.cell? a=some v):a=⟨a.block,a.off,none⟩/\a.block<W.heap.size:=by
 have h1:=World.cell?_spot h
 refine⟨by obtain⟨b,o,s⟩:=a;cases h1;rfl,?_⟩
 exact World.block_lt_of_cell? W a h
theorem b3q {n:Nat} {cs:List Value} {y:DataW H × List MemPlace} (h:DataW.trod enc Tryz.prog W 0 (fun _=>true) true n 43 cs=some y):∃ p l c,cs=[.slice p l.length c]/\Rd W (.slice p l.length c) l/\∀ g ∈ l,g<4294967296:=by
 rcases open_ints (k:=.u32) jw Tryz.underlying148 a6Y h with⟨rfl,_⟩|⟨a,len,cap,zs,rfl,_,h1,h2,h3,_,h4,h5⟩
 ·exact⟨none,[],0,rfl,.inl ⟨none,rfl,rfl⟩,by simp⟩
 ·simp at h3
  by_cases hc:cap=0
  ·have hl:len=0:=by omega
   subst hc hl
   exact⟨some a,[],0,rfl,.inl ⟨_,rfl,rfl⟩,by simp⟩
  ·obtain⟨ha,hb⟩:=a6O (h4 0 (by omega))
   have ha:a=⟨a.block,a.off,none⟩:=by simpa [Addr.add] using ha
   have hb:a.block<W.heap.size:=by simpa [Addr.add] using hb
   have hz:∀ n ∈ zs,0<=n/\n<4294967296:=fun n hn=>by
    have:=h5 n hn
    simp[Lit.wf,IntKind.min,IntKind.max,IntKind.signed,IntKind.bits] at this
    omega
   have hL:((zs.take len).map Int.toNat).length=len:=by simp;omega
   refine⟨some a,(zs.take len).map Int.toNat,cap,by rw[hL],.inr ⟨a.block,a.off,cap,by rw[<-ha],by rw[hL];exact h1,by unfold maxLen at h2;omega,hb,fun i hi=>?_⟩,fun g hg=>?_⟩
   ·rw[hL] at hi
    have hi':i<zs.length:=by omega
    have hc:=h4 i hi'
    have hm:zs[i] ∈ zs:=um hi'
    have:=hz _ hm
    have hg:((gr ((zs.take len).map Int.toNat) i:Nat):Int)=zs.getD i 0:=by
     have e1:gr ((zs.take len).map Int.toNat) i=(zs[i]).toNat:=by simp[gr,List.getD,hi,hi']
     have e2:zs.getD i 0=zs[i]:=by simp[List.getD,hi']
     rw[e1,e2];omega
    rw[hg,<-hc,ha]
    rw[add_plain]
   ·obtain⟨x,hx,rfl⟩:=uq.1 hg
    have:=hz x (Aw hx)
    omega
theorem c1b {α:Type} {l:List α} (h:l.length=4):∃ a b c d,l=[a,b,c,d]:=by
 match l,h with
 | [a,b,c,d],_=>exact⟨a,b,c,d,rfl⟩
theorem b4R {n:Nat} {cs:List Value} {y:DataW H × List MemPlace} (h:DataW.trod enc Tryz.prog W 0 (fun _=>true) true n 47 cs=some y):∃ x:aF,Lf.rep W cs .iZ x/\TW x:=by
 obtain⟨xs,m,_,_,hl,hlen,hf⟩:=DataW.trod_struct Tryz.underlying47 h
 rw[a6X] at hl
 obtain⟨c0,c1,c2,c3,rfl⟩:=c1b hl
 match xs,hlen with
 | [y0,y1],_ =>
 have k0:=hf 0 _ rfl
 have k1:=hf 1 _ rfl
 obtain⟨xs0,m0,_,_,_,hlen0,hf0⟩:=DataW.trod_struct Tryz.underlying45 k0
 obtain⟨xs1,m1,_,_,_,hlen1,hf1⟩:=DataW.trod_struct Tryz.underlying45 k1
 match xs0,hlen0,xs1,hlen1 with
 | [z0,z1],_,[z2,z3],_ =>
 have a0:=hf0 0 _ rfl
 have a1:=hf0 1 _ rfl
 have a2:=hf1 0 _ rfl
 have a3:=hf1 1 _ rfl
 simp[a6W,a5m,a5n] at a0 a1 a2 a3
 obtain⟨b,e0,_⟩:=DataW.trod_bool Tryz.underlying4 a0
 obtain⟨d,e2,_⟩:=DataW.trod_bool Tryz.underlying4 a2
 simp at e0 e2
 subst e0 e2
 obtain⟨p,l,c,e1,r1,l1⟩:=b3q a1
 obtain⟨q,k,e,e3,r3,l3⟩:=b3q a3
 simp at e1 e3
 subst e1 e3
 have hq:fH W (.agg #[.bool b,.slice p l.length c,.bool d,.slice q k.length e]) _ _:=⟨_,_,_,_,_,_,_,_,rfl,⟨b,_,l,rfl,r1,l1,rfl,rfl⟩,⟨d,_,k,rfl,r3,l3,rfl,rfl⟩,rfl,rfl⟩
 exact⟨⟨_,_,l,k⟩,⟨b,p,c,d,q,e,rfl,hq,r1,r3⟩,fun K h1 h2 h3=>hq.jK ⟨b,p,_,c,d,q,_,e,rfl,h2,h3⟩ h1⟩
theorem YL {α:Type} {Q:Nat->α->Prop}:∀ n,(∀ i,i<n->∃ x,Q i x)->∃ xs:List α,xs.length=n/\∀ i (h:i<xs.length),Q i xs[i]
 | 0,_=>⟨[],rfl,fun i h=>by simp at h⟩
 | n+1,h=>by
  obtain⟨xs,h1,h2⟩:=YL n (fun i hi=>h i (by omega))
  obtain⟨x,hx⟩:=h n (by omega)
  refine⟨xs++[x],by simp[h1],fun i hi=>?_⟩
  by_cases e:i<xs.length
  ·rw[List.getElem_append_left e];exact h2 i e
  ·have:i=n:=by simp at hi;omega
   subst this
   rw[List.getElem_append_right (by omega)]
   simpa using hx
theorem xO {α:Type} {R:List Value->α->Prop} {b o ce:Nat}:∀ (xs:List α) (k:Nat),(∀ i (h:i<xs.length),∃ c,c.length=ce/\(∀ j v,c[j]?=some v->W.cell? ⟨b,o+((k+i)*ce+j),none⟩=some v)/\R c xs[i])->∃ ds,(∀ j v,ds[j]?=some v->W.cell? ⟨b,o+(k*ce+j),none⟩=some v)/\chunks R ds xs
 | [],k,_=>⟨[],fun j v h=>by simp at h,rfl⟩
 | x::xs,k,h=>by
  obtain⟨c,h1,h2,h3⟩:=h 0 (by simp)
  obtain⟨ds,h4,h5⟩:=xO xs (k+1) (fun i hi=>by
   obtain⟨c,h1,h2,h3⟩:=h (i+1) (by simpa using hi)
   exact⟨c,h1,fun j v hj=>by rw[show k+1+i=k+(i+1) by omega];exact h2 j v hj,h3⟩)
  refine⟨c++ds,fun j v hj=>?_,c,ds,rfl,h3,h5⟩
  by_cases e:j<c.length
  ·rw[zq e] at hj
   exact h2 j v hj
  ·rw[List.getElem?_append_right (by omega)] at hj
   have:=h4 _ _ hj
   rw[zy,Nat.one_mul] at this
   rwa [show k*ce+ce+(j-c.length)=k*ce+j by omega] at this
theorem yH {α:Type} {R:List Value->α->Prop} {ce:Nat}:∀ (xs:List α) (cs:List Value),cs.length=xs.length*ce->(∀ i (h:i<xs.length),R ((cs.drop (i*ce)).take ce) xs[i])->chunks R cs xs
 | [],cs,h,_=>qg (by simpa using h)
 | x::xs,cs,h,hR=>by
  rw[List.length_cons,zn] at h
  refine⟨cs.take ce,cs.drop ce,(Aj ce cs).symm,?_,yH (ce:=ce) xs (cs.drop ce) (by rw[Af];omega) (fun i hi=>?_)⟩
  ·have:=hR 0 (by simp)
   rwa [Nat.zero_mul,List.drop_zero] at this
  ·have:=hR (i+1) (by simpa using hi)
   rwa [zn,Dx,<-Dh] at this
theorem a6Z {a:Addr} {n:Nat} {cs:List Value} (h:W.cells? 0 a n=some cs):cs.length=n/\∀ j v,cs[j]?=some v->W.cell? (a.add j)=some v:=by
 unfold World.cells? at h
 rw[jq (qw _)] at h
 refine⟨by simpa using mapM_some_length h,fun j v hj=>?_⟩
 have hl:cs.length=n:=by simpa using mapM_some_length h
 have hjn:j<n:=by rw[<-hl];exact(ou.1 hj).1
 have:=mapM_some_get h j j (by simp[hjn])
 rw[hj] at this
 exact this
abbrev a1R (W:World) (q:Nat):Prop:=q<W.heap.size
theorem kM:(t:Ty)->(T:Option TypeId)->(fs:List Field)->(o:Nat)->dZ t T fs o=true->(n:Nat)->(cs:List Value) ->
  (∀ T',T=some T'->(∃ y,DataW.trod enc Tryz.prog W 0 (fun _=>true) true n T' cs=some y)->∃ x:t.den,rep (a1R W) W t cs x/\good t x) /\
  (T=none->cs.length=o+t.n->(∀ f ∈ fs,∃ y,DataW.trod enc Tryz.prog W 0 (fun _=>true) true n f.type ((cs.drop f.offset).take (Tryz.prog.cellsOf f.type))=some y)->∃ x:t.den,rep (a1R W) W t (cs.drop o) x/\good t x)
 | .bool,some T,fs,o,hm,n,cs=>by
  refine⟨fun T' e ⟨y,hy⟩=>?_,fun e=>(by cases e)⟩
  cases e
  unfold dZ at hm
  split at hm<;>first|(cases hm;done)|skip
  rename_i hu
  obtain⟨b,rfl,_⟩:=DataW.trod_bool hu hy
  exact⟨b,rfl,trivial⟩
 | .int k,some T,fs,o,hm,n,cs=>by
  refine⟨fun T' e ⟨y,hy⟩=>?_,fun e=>(by cases e)⟩
  cases e
  unfold dZ at hm
  split at hm<;>first|(cases hm;done)|skip
  rename_i k' hu
  have hk:k=k':=by simpa using hm
  subst hk
  obtain⟨b,rfl,_,hw⟩:=DataW.trod_int hu hy
  exact⟨b,rfl,hw⟩
 | .lf .iZ,some T,fs,o,hm,n,cs=>by
  refine⟨fun T' e ⟨y,hy⟩=>?_,fun e=>(by cases e)⟩
  cases e
  have hT:T=47:=by unfold dZ at hm;simpa using hm
  subst hT
  exact b4R hy
 | .list t,some T,fs,o,hm,n,cs=>by
  refine⟨fun T' e ⟨y,hy⟩=>?_,fun e=>(by cases e)⟩
  cases e
  unfold dZ at hm
  split at hm<;>first|(cases hm;done)|skip
  rename_i e hu
  simp only[aj,je,ay] at hm
  obtain⟨⟨hc,hp⟩,hmt⟩:=hm
  rcases DataW.trod_slice hu hy with⟨rfl,_⟩|⟨a,len,cap,elems,rest,m,_,rfl,_,_,h1,h2,h3,h4,_,_⟩
  ·exact⟨([]:List t.den),⟨none,0,rfl,ak _,by omega,.inl rfl⟩,by show 0<=_;omega,fun x hx=>by cases hx⟩
  ·rw[hc] at h4
   obtain⟨xs,hxl,hxs⟩:=YL (Q:=fun i (x:t.den)=>(∃ c,c.length=t.n/\(∀ j v,c[j]?=some v->W.cell? ((a.add (i*t.n)).add j)=some v)/\rep (a1R W) W t c x)/\good t x) len (fun i hi=>by
    have h5:=h4 i hi
    rw[dn (by omega),Option.bind_eq_some_iff] at h5
    obtain⟨c,h6,h7⟩:=h5
    obtain⟨x,h8,h9⟩:=(kM t (some e) [] 0 hmt m c).1 e rfl ⟨_,h7⟩
    obtain⟨k1,k2⟩:=a6Z h6
    exact⟨x,⟨c,k1,k2,h8⟩,h9⟩)
   have hcap:cap<=9223372036854775807:=by unfold maxLen at h2;omega
   refine⟨xs,?_,⟨?_,?_⟩⟩
   ·refine⟨some a,cap,by rw[show List.length (α:=t.den) xs=len from hxl],by rw[show List.length (α:=t.den) xs=len from hxl];exact h1,hcap,?_⟩
    by_cases h0:len=0
    ·exact .inl (qg (by rw[hxl,h0]))
    ·right
     obtain⟨⟨c,k1,k2,_⟩,_⟩:=hxs 0 (by omega)
     obtain⟨v,hv⟩:∃ v,c[0]?=some v:=⟨_,dn (by omega)⟩
     have hcell:=k2 0 v hv
     rw[Nat.zero_mul,show (a.add 0).add 0=a by simp[Addr.add]] at hcell
     obtain⟨ha,hb⟩:=a6O hcell
     obtain⟨ds,d1,d2⟩:=xO (W:=W) (R:=rep (a1R W) W t) (b:=a.block) (o:=a.off) (ce:=t.n) xs 0 (fun i hi=>by
      obtain⟨⟨c,k1,k2,k3⟩,_⟩:=hxs i hi
      refine⟨c,k1,fun j v hj=>?_,k3⟩
      have:=k2 j v hj
      rw[ha,add_plain,add_plain] at this
      rw[qm,<-Nat.add_assoc];exact this)
     exact⟨a.block,a.off,ds,by rw[<-ha],hb,fun j v hj=>by have:=d1 j v hj;rwa [Nat.zero_mul,qm] at this,d2⟩
   ·show xs.length<=_;omega
   ·intro x hx
    obtain⟨i,hi,rfl⟩:=Cb hx
    exact(hxs i hi).2
 | .arr k t,some T,fs,o,hm,n,cs=>by
  refine⟨fun T' e ⟨y,hy⟩=>?_,fun e=>(by cases e)⟩
  cases e
  unfold dZ at hm
  split at hm<;>first|(cases hm;done)|skip
  rename_i m e hu
  simp only[aj,je] at hm
  obtain⟨⟨⟨hk,hc⟩,hC⟩,hmt⟩:=hm
  subst hk
  obtain⟨ys,q,_,_,hl,hyl,hys⟩:=DataW.trod_array hu hy
  rw[hC] at hl
  rw[hc] at hys
  obtain⟨xs,hxl,hxs⟩:=YL (Q:=fun i (x:t.den)=>rep (a1R W) W t ((cs.drop (i*t.n)).take t.n) x/\good t x) m (fun i hi=>by
   have h5:=hys i hi
   rw[dn (by omega)] at h5
   exact(kM t (some e) [] 0 hmt q _).1 e rfl ⟨_,h5⟩)
  refine⟨xs,⟨hxl,yH (ce:=t.n) xs cs (by rw[hl,hxl]) (fun i hi=>(hxs i hi).1)⟩,hxl,fun x hx=>?_⟩
  obtain⟨i,hi,rfl⟩:=Cb hx
  exact(hxs i hi).2
 | .pair a b,some T,fs,o,hm,n,cs=>by
  refine⟨fun T' e ⟨y,hy⟩=>?_,fun e=>(by cases e)⟩
  cases e
  unfold dZ at hm
  split at hm<;>first|(cases hm;done)|skip
  rename_i gs hu
  simp only[aj,je] at hm
  obtain⟨hC,hm⟩:=hm
  split at hm<;>first|(cases hm;done)|skip
  rename_i f fs' hgs
  simp only[aj,je] at hm
  obtain⟨⟨⟨ho,hc⟩,hma⟩,hmb⟩:=hm
  obtain⟨ys,q,_,_,hl,hyl,hys⟩:=DataW.trod_struct hu hy
  rw[hC] at hl
  have hget:∀ (i:Nat) (g:Field),gs[i]?=some g->∃ y,DataW.trod enc Tryz.prog W 0 (fun _=>true) true q g.type ((cs.drop g.offset).take (Tryz.prog.cellsOf g.type))=some y:=fun i g hg=>by
   have hi:i<gs.size:=(zk.1 hg).1
   have:=hys i g hg
   rw[dn (by omega)] at this
   exact⟨_,this⟩
  have h0:=hget 0 f (by rw[<-Array.getElem?_toList,hgs];rfl)
  rw[ho,hc,List.drop_zero] at h0
  obtain⟨x,hx,gx⟩:=(kM a (some f.type) [] 0 hma q _).1 _ rfl h0
  obtain⟨z,hz,gz⟩:=(kM b none fs' a.n hmb q cs).2 rfl hl (fun g hg=>by
   obtain⟨i,hi⟩:=List.getElem?_of_mem hg
   exact hget (i+1) g (by rw[<-Array.getElem?_toList,hgs];exact hi))
  exact⟨(x,z),⟨_,_,(Aj a.n cs).symm,hx,hz⟩,gx,gz⟩
 | .pair a b,none,[],o,hm,n,cs=>by simp[dZ] at hm
 | .pair a b,none,f::fs',o,hm,n,cs=>by
  refine⟨fun T' e=>(by cases e),fun _ hl hg=>?_⟩
  unfold dZ at hm
  simp only[aj,je] at hm
  obtain⟨⟨⟨ho,hc⟩,hma⟩,hmb⟩:=hm
  have h0:=hg f (jl ..)
  rw[ho,hc] at h0
  obtain⟨x,hx,gx⟩:=(kM a (some f.type) [] 0 hma n _).1 _ rfl h0
  obtain⟨z,hz,gz⟩:=(kM b none fs' (o+a.n) hmb n cs).2 rfl (by rw[hl];show o+(a.n+b.n)=_;omega) (fun g hg'=>hg g (iy _ hg'))
  refine⟨(x,z),⟨(cs.drop o).take a.n,cs.drop (o+a.n),?_,hx,hz⟩,gx,gz⟩
  rw[<-Dh,Aj]
 | .unit,none,[],o,hm,n,cs=>by
  refine⟨fun T' e=>(by cases e),fun _ hl _=>⟨(),?_,trivial⟩⟩
  show cs.drop o=[]
  exact List.drop_eq_nil_of_le (by rw[hl];exact ak _)
 | .unit,none,_::_,o,hm,n,cs=>by simp[dZ] at hm
 | .unit,some _,_,_,hm,_,_=>by simp[dZ] at hm
 | .bool,none,_,_,hm,_,_=>by simp[dZ] at hm
 | .int _,none,_,_,hm,_,_=>by simp[dZ] at hm
 | .lf .iZ,none,_,_,hm,_,_=>by simp[dZ] at hm
 | .lf .rat,_,_,_,hm,_,_=>by simp[dZ] at hm
 | .lf .big,_,_,_,hm,_,_=>by simp[dZ] at hm
 | .lf .FN,_,_,_,hm,_,_=>by simp[dZ] at hm
 | .lf .str,_,_,_,hm,_,_=>by simp[dZ] at hm
 | .list _,none,_,_,hm,_,_=>by simp[dZ] at hm
 | .arr _ _,none,_,_,hm,_,_=>by simp[dZ] at hm
 | .ref _,_,_,_,hm,_,_=>by simp[dZ] at hm
 | .clo _ _,_,_,_,hm,_,_=>by simp[dZ] at hm
 | .nls _,_,_,_,hm,_,_=>by simp[dZ] at hm
theorem a1S {t:Ty} {T:TypeId} {v:Value} {d:DataW H} {p:List MemPlace} {b0:Nat} (hm:dZ t (some T) [] 0=true) (hv:Value.okWide Tryz.prog W .any b0 T v) (h:DataW.Trod enc Tryz.prog W 0 (fun _=>true) true T v d p) :
  ∃ x:t.den,iR (a1R W) W t v x/\good t x:=by
 obtain⟨n,hn⟩:=h
 obtain⟨x,hx,gx⟩:=(kM t (some T) [] 0 hm n v.cells.toList).1 T rfl ⟨_,hn⟩
 refine⟨x,⟨v.cells.toList,?_,hx⟩,gx⟩
 cases t with
 | bool =>
  unfold dZ at hm
  split at hm<;>first|(cases hm;done)|skip
  rename_i hu
  simp only[Value.okWide,hu,Cell.okWide,Cell.ok] at hv
  split at hv<;>simp_all [Value.cells,Ty.toV,Ty.agg]
 | int k =>
  unfold dZ at hm
  split at hm<;>first|(cases hm;done)|skip
  rename_i k' hu
  simp only[Value.okWide,hu,Cell.okWide,Cell.ok] at hv
  split at hv<;>simp_all [Value.cells,Ty.toV,Ty.agg]
 | lf l =>
  cases l<;>try (simp[dZ] at hm;done)
  have hT:T=47:=by unfold dZ at hm;simpa using hm
  subst hT
  simp only[Value.okWide,Tryz.underlying47] at hv
  obtain⟨cs,rfl,_⟩:=hv
  simp[Ty.toV,Ty.agg,Lf.agg,Value.cells]
 | list t =>
  unfold dZ at hm
  split at hm<;>first|(cases hm;done)|skip
  rename_i e hu
  simp only[Value.okWide,hu,Cell.okWide,Cell.ok] at hv
  split at hv<;>simp_all [Value.cells,Ty.toV,Ty.agg]
 | arr k t =>
  unfold dZ at hm
  split at hm<;>first|(cases hm;done)|skip
  rename_i m e hu
  simp only[Value.okWide,hu] at hv
  obtain⟨cs,rfl,_⟩:=hv
  simp[Ty.toV,Ty.agg,Value.cells]
 | pair a b =>
  unfold dZ at hm
  split at hm<;>first|(cases hm;done)|skip
  rename_i gs hu
  simp only[Value.okWide,hu] at hv
  obtain⟨cs,rfl,_⟩:=hv
  simp[Ty.toV,Ty.agg,Value.cells]
 | _=>simp[dZ] at hm
end
end
section
open Go Go.ChangeShapes Go.WideShapes Go.ChangeAt Go.RowKit Go.Joins
set_option linter.unusedVariables false
set_option maxRecDepth 100000 in
theorem xU {pre:(nest [(.list (.list (.lf .iZ))),(.list (.pair (.pair (.int .i64) (.pair (.int .i64) .unit)) (.pair (.pair (.int .i64) (.pair (.int .i64) .unit)) .unit))),(.lf .iZ)]).den->Prop} (h:aT Tryz.prog 7 ⟨[(.list (.list (.lf .iZ))),(.list (.pair (.pair (.int .i64) (.pair (.int .i64) .unit)) (.pair (.pair (.int .i64) (.pair (.int .i64) .unit)) .unit))),(.lf .iZ)],[.bool],pre,fun _=>(true,())⟩) (hp:∀ (x0:Ty.den (.list (.list (.lf .iZ)))) (x1:Ty.den (.list (.pair (.pair (.int .i64) (.pair (.int .i64) .unit)) (.pair (.pair (.int .i64) (.pair (.int .i64) .unit)) .unit)))) (x2:Ty.den (.lf .iZ)),good (.list (.list (.lf .iZ))) x0->good (.list (.pair (.pair (.int .i64) (.pair (.int .i64) .unit)) (.pair (.pair (.int .i64) (.pair (.int .i64) .unit)) .unit))) x1->good (.lf .iZ) x2->pre (x0,x1,x2,())):Rows.EpipolarInliersSaid:=by
 have lifted:∀ (os:Os) (started:os.Started) (H:Type) (enc:TypeId × Value->H),ReturnsInHanded {} Tryz.checked os 7 .any (Rows.epipolarInliersSpec.pre6 enc Tryz.prog Tryz.f7 Rows.epipolarInliersRow.domain false) (Rows.epipolarInliersSpec.post enc Tryz.prog Tryz.f7 false true false false):=by
  intro os started H enc
  refine returnsInHanded_of_change (C:=Tryz.checked) own started (by kernel_rfl) Tryz.func7
   (ChangeSpec.witness6 (enc:=enc) (C:=Tryz.checked) false ⟨#[],#[.slice none 0 0,.slice none 0 0,.agg #[.bool false,.slice none 0 0,.bool false,.slice none 0 0]],[]⟩ 8 (by kernel_rfl) (by kernel_rfl) (by kernel_rfl) (by kernel_rfl)) ?_
  intro W base args ds gs before hval0 hW hcnd _
  have hval:∀ (j:Nat) t v,Tryz.f7.params[j]?=some t->args[j]?=some v->Value.okWide Tryz.prog W .any base t v:=hval0
  have hW':=hW
  obtain⟨p,q,hA0,hV,rfl,hfz,hnd⟩:=hW
  have hA:DataW.TrodAll enc Tryz.prog W 0 (fun _=>true) true Tryz.f7.params.toList args.toList ds p:=hA0
  rw[Tryz.params7] at hA hval
  obtain⟨v0,vs0,d0,ds0,p0,q0,hargs,rfl,rfl,h0,r0⟩:=trodAll_cons hA
  obtain⟨v1,vs1,d1,ds1,p1,q1,rfl,rfl,rfl,h1,r1⟩:=trodAll_cons r0
  obtain⟨v2,vs2,d2,ds2,p2,q2,rfl,rfl,rfl,h2,r2⟩:=trodAll_cons r1
  obtain⟨rfl,rfl,rfl⟩:=trodAll_nil r2
  obtain rfl:args=#[v0,v1,v2]:=by cases args;simp_all
  obtain⟨rfl,rfl⟩:=trodVars_none hV
  obtain⟨x0,k0,g0⟩:=a1S (t:=.list (.list (.lf .iZ))) (by kernel_rfl) (hval 0 32 v0 rfl rfl) h0
  have l0:∀ x ∈ p0,x.block<W.heap.size:=fun x hx=>hW'.lt x (by simp[hx])
  obtain⟨x1,k1,g1⟩:=a1S (t:=.list (.pair (.pair (.int .i64) (.pair (.int .i64) .unit)) (.pair (.pair (.int .i64) (.pair (.int .i64) .unit)) .unit))) (by kernel_rfl) (hval 1 82 v1 rfl rfl) h1
  have l1:∀ x ∈ p1,x.block<W.heap.size:=fun x hx=>hW'.lt x (by simp[hx])
  obtain⟨x2,k2,g2⟩:=a1S (t:=.lf .iZ) (by kernel_rfl) (hval 2 47 v2 rfl rfl) h2
  have l2:∀ x ∈ p2,x.block<W.heap.size:=fun x hx=>hW'.lt x (by simp[hx])
  refine(h (a1R W) W [v0,v1,v2] (x0,x1,x2,()) (fun q hq=>hq) ⟨_,_,rfl,k0,_,_,rfl,k1,_,_,rfl,k2,rfl⟩ (hp x0 x1 x2 g0 g1 g2)).mono fun e W' ⟨v,he,hr,hg⟩=>?_
  subst he
  have hr:iR _ W' .bool v true:=hr
  rw[b3F hr]
  exact⟨_,rfl,_,_,_,[],_,[],hW',trodAll_cons_mk (shut_bool Tryz.underlying4 _) trodAll_mk0,(trodAll_cons_mk (Below.trod laidOut (by kernel_rfl) (Bd (by kernel_rfl)) h0 hg l0) (trodAll_cons_mk (Below.trod laidOut (by kernel_rfl) (Bd (by kernel_rfl)) h1 hg l1) (trodAll_cons_mk (Below.trod laidOut (by kernel_rfl) (Bd (by kernel_rfl)) h2 hg l2) trodAll_mk0))),rfl,hg.frame _,fun h=>by cases h⟩
 exact OpenClaim.holds_of_wide 7 Tryz.f7 rfl rfl rfl rfl rfl rfl rfl ⟨rfl,rfl,rfl,rfl,rfl⟩ rfl rfl rfl rfl rfl (by kernel_rfl) Tryz.func7 (by kernel_rfl)
  (Bd (by kernel_rfl)) (by unfold Func.isWrapper;first|(rw[jq (by decide +kernel)];kernel_rfl)|(rw[jk (by decide +kernel)];exact⟨rfl,rfl⟩))
  (fun os started H enc _=>lifted os started H enc)
end
set_option linter.unusedVariables false
set_option linter.unusedSimpArgs false
noncomputable def c0f:Ctr:=⟨[.list tI,.list tI],[tB],fun x=>(show List Int from x.1).length<=1000000,fun x=>(decide ((show List Int from x.1)=(show List Int from x.2.1)),())⟩
theorem b1b:aT Tryz.prog 48 c0f:=by
 refine bY Lib.nil ⟨[],[],[]⟩ Tryz.func48 rfl (by decide) (fun x=>[.inv {k:Nat // k<=(show List Int from x.1).length/\(show List Int from x.1).take k=(show List Int from x.2.1).take k} (fun k=>[(13,.val tI (k.1:Int))]) (fun k=>[]) (fun k=>(show List Int from x.1).length-k.1) ⟨0,by omega,rfl⟩ (fun _=>[])]) (fun x hp=>?_)
 obtain⟨x,y,u⟩:=x
 change List Int at x
 change List Int at y
 refine dM (ifB (aB x.length != aB y.length) (True/\false=decide (x=y)/\True) ((asT Int 0=0/\True)/\∀ (i:{ k:Nat // k<=List.length x/\List.take k x=List.take k y }),asT Bool true=true/\ifB (decide (aB (aA i)<aB x.length)) ((0<=aB (aA i)/\aB (aA i)<aB x.length/\0<=aB (aA i)/\aB (aA i)<aB y.length/\True)/\ifB (List.getD x (aB (aA i)).toNat 0 != List.getD y (aB (aA i)).toNat 0) (True/\false=decide (x=y)/\True) (∃ (i':{ k:Nat // k<=List.length x/\List.take k x=List.take k y }),List.length x-aA i'<List.length x-aA i/\IntKind.wrap IntKind.i64 (aB (aA i)+1)=aB (aA i')/\True)) (True/\true=decide (x=y)/\True))) (by kernel_rfl) ?_
 have hZ:(⟨false,0,[],[]⟩:aF)=cZ:=rfl
 try simp only[aQ,ay,au]
 try dsimp only[aB,asT,aA,aP,Ty.den,Lf.den] at *
 try simp only[hZ,Int.toNat_natCast,aQ,ay,au,og,ny,jg,jf]
 try simp only[iH,iG,List.all_cons,List.all_nil,qh,jc,jr,je,qo,ne_eq,aj,jo,jm,jv,oh,yw,qp,yx,og,ny,lg,ji,List.length_cons,List.length_nil]
 have hp:x.length<=1000000:=hp
 refine⟨fun h=>(tq fun e=>h (by rw[e])).symm,fun h i=>⟨fun h1=>⟨⟨by omega,h1,by omega,by omega⟩,fun h2=>(tq fun e=>h2 (zl (fun l=>l.getD i.1 0) e)).symm,fun h2=>⟨⟨i.1+1,by omega,?_⟩,by simp only;omega,by rw[cO (by omega) (by omega)];rfl⟩⟩,fun h1=>?_⟩⟩
 ·exact a2Y (d:=0) (by omega) (by omega) i.2.2 h2
 ·have h3:=i.2.2
  rw[jh (by omega),jh (by omega)] at h3
  exact(xk h3).symm
theorem b0V {P:Program} {f:FuncId} {args res:List Ty} {pre:(nest args).den->Prop} {fn fn':(nest args).den->(nest res).den} {d d':∀ x,Dc (pre x)} (h:aT P f (@Ctr.mk args res pre fn d)) (e:∀ x,pre x->fn x=fn' x):aT P f (@Ctr.mk args res pre fn' d'):=fun F w vs x a b hp=>by
 have h2:=h F w vs x a b hp
 rw[show (@Ctr.mk args res pre fn d).fn x=fn' x from e x hp] at h2
 exact h2
theorem b0a:aT Tryz.prog 41 b8N:=b0V b2y fun x hp=>a9Y hp.1 _
def b3R (a:MR):Prop:=∀ r ∈ a,∀ q ∈ r,TW q
theorem a0g {q:aF} (h:gQ q=true) (g:TW q):smQ q:=by
 unfold gQ at h
 rw[aj,aj] at h
 have h1:=Bd h.1.1
 have h2:=Bd h.1.2
 exact⟨h1,h2,fun _=>g 1 (ak 1) h1 h2⟩
theorem a9T {f:MR} (h:zJ f=true) (g:b3R f):JO f:=by
 unfold zJ at h
 rw[aj,ay,jc] at h
 refine⟨h.1,fun r hr=>?_⟩
 have h2:=Bc.mp h.2 r hr
 have h3:qL r=false:=by simpa using h2
 unfold qL at h3
 rw[ji,au,jr] at h3
 exact⟨by omega,fun q hq=>a0g (uz.mp h3.2 q hq) (g r hr q hq)⟩
theorem a8b (f:MR) (l:List dQ) (q:aF):(rY f l q).1.length<=l.length:=by
 unfold rY
 split
 ·exact qw _
 ·split
  ·exact qw _
  ·split
   ·exact qw _
   ·split
    ·exact qw _
    ·exact MG _ _ _ _
noncomputable def c0e:Ctr:=⟨[tMR,.list KR,tR],[tB],fun x=>b3R x.1/\TW x.2.2.1,fun _=>(true,())⟩
theorem b0X:aT Tryz.prog 7 c0e:=by
 refine bY (((((((((((nil0.ad b3x).ad b3y).ad b8h).ad a5O).ad b2w).ad a4L).ad b1q).ad b1c).ad a9B).ad b0a).ad b1b) ⟨[12,13],[],[]⟩ Tryz.func7 rfl (by decide) (fun x=>[.inv {k:Nat // k<=(show List dQ from x.2.1).length} (fun k=>[(77,.val tI (k.1:Int)),(10,.own 98 0),(98,.any)]) (fun k=>[(98,.row 3 tI (inP (mq8 x.1) (show aF from x.2.2.1).x (show List dQ from x.2.1) k.1) 0)]) (fun k=>(show List dQ from x.2.1).length-k.1) ⟨0,by omega⟩ (fun _=>[])]) (fun x hp=>?_)
 obtain⟨f,l,q,u⟩:=x
 change List (List aF) at f
 change List dQ at l
 change aF at q
 refine dM (let A₀:=(bif !zJ f then true else !List.all (q::aP aF) gQ);let A₁:=(rY f l q).2;let fO:=((!zJ f)==false);let jX:=((Prod.fst A₁==3)==true);let jQ:=((Prod.fst A₁==1)==true);let pI:=((Prod.fst A₁==2)==true);let xZ:=((A₀==false)=true->(A₀==false)=true/\True);let CJ:=((vP l != 0)==false);let RU:=((Prod.fst A₁==0)==true);let WH:=(rY f l q).1.length;let a5b:=(aB l.length > 20);let A₂:=(A₀==false&&decide a5b==true);let a6H:=(fO=true->fO=true/\True);let b8i:=(A₂=true->A₂=true/\True);let b8j:=(jX=true->jX=true/\True);let b8k:=(jQ=true->jQ=true/\True);let b8l:=(pI=true->pI=true/\True);(True/\True)/\(True/\a6H/\(fO=true->fO=true/\List.length (q::aP aF)<=1000000/\True)/\a6H/\((!zJ f)=false->fO=true)/\xZ/\xZ/\xZ/\b8i/\b8i/\((A₀==false)=true->(A₀==false)=true/\(decide a5b=true->A₂=true)/\True)/\(A₀=false->(A₀==false)=true)/\True)/\ifB (bif bif !zJ f then true else !List.all (q::aP aF) gQ then true else bif decide a5b then decide (aB l.length<=64) else false) (True/\asT Bool true=true/\True) (((JO f/\smQ q)/\True)/\ifB (decide (aB l.length > 64)) ((b8j/\b8j/\((Prod.fst A₁==3)=true->jX=true)/\True)/\True/\(bif Prod.fst A₁==3 then aB WH==0 else false)=true/\True) ((JO f/\(((!oZ f)==false)=true->((!oZ f)==false)=true/\(aF.n q<=999999999/\aF.m q<=999999999)/\True)/\(((!oZ f)==false)=true->((!oZ f)==false)=true/\True)/\((!oZ f)=false->((!oZ f)==false)=true)/\True)/\ifB (bif !oZ f then true else !aF.ok q) ((b8k/\b8k/\((Prod.fst A₁==1)=true->jQ=true)/\True)/\True/\(bif Prod.fst A₁==1 then aB WH==0 else false)=true/\True) ((List.length l<=1000000/\(CJ=true->CJ=true/\aF.ok q=true/\rsz (aF.x q)<=190000000/\True)/\(CJ=true->CJ=true/\True)/\((vP l != 0)=false->CJ=true)/\True)/\ifB (bif vP l != 0 then true else decide (sgn (Rat.num (aF.x q))<0)) ((b8l/\b8l/\((Prod.fst A₁==2)=true->pI=true)/\True)/\True/\(bif Prod.fst A₁==2 then aB WH==0 else false)=true/\True) ((asT Int 0=0/\(True/\asT (List Int) (aP Int)=aP Int)/\(asT (List Int) (aP Int)=aP Int/\0=0/\asT Bool true=true)/\True)/\∀ (i:{ k:Nat // k<=List.length l }),let a5c:=(List.getD l (aB (aA i)).toNat vY);let b3A:=(xX (mq8 f) a5c).1;let b3B:=(xX (mq8 f) a5c).2;let a5d:=((Prod.fst b3B==0)==true);asT Bool true=true/\ifB (decide (aB (aA i)<aB l.length)) ((0<=aB (aA i)/\aB (aA i)<aB l.length/\True)/\(qO (fun(x:Ty.den (Ty.list (Ty.lf Lf.iZ)))=>dR (qO (fun(x:Ty.den (Ty.lf Lf.iZ))=>dR ((aF.ok x=true)::aP Cd)) x::aP Cd)) f/\(m33 100 (mq8 f)/\cdP (Prod.fst a5c.1,Prod.fst a5c.1.2,())/\cdP (Prod.fst a5c.2.1,Prod.fst a5c.2.1.2,()))/\True)/\((a5d=true->a5d=true/\a5d=true/\aF.ok b3A=true/\aF.ok q=true/\s19 (aF.x b3A) (aF.x q)/\True)/\(a5d=true->a5d=true/\True)/\((Prod.fst b3B==0)=true->a5d=true)/\True)/\ifB (bif Prod.fst b3B==0 then decide (BF (aF.x b3A) (aF.x q)<=0) else false) ((List.length (inP (mq8 f) (aF.x q) l (aA i))+List.length (aB (aA i)::aP Int)<=1000000000/\True)/\∃ (i':{ k:Nat // k<=List.length l }),List.length l-aA i'<List.length l-aA i/\IntKind.wrap IntKind.i64 (aB (aA i)+1)=aB (aA i')/\inP (mq8 f) (aF.x q) l (aA i)++aB (aA i)::aP Int=inP (mq8 f) (aF.x q) l (aA i')/\True) (∃ (i':{ k:Nat // k<=List.length l }),List.length l-aA i'<List.length l-aA i/\IntKind.wrap IntKind.i64 (aB (aA i)+1)=aB (aA i')/\inP (mq8 f) (aF.x q) l (aA i)=inP (mq8 f) (aF.x q) l (aA i')/\True)) (((RU=true->RU=true/\RU=true/\List.length (rY f l q).1<=1000000/\True)/\((Prod.fst A₁==0)=true->RU=true)/\True)/\True/\(bif Prod.fst A₁==0 then decide (Prod.fst (rY f l q)=inP (mq8 f) (aF.x q) l (aA i)) else false)=true/\True)))))) (by kernel_rfl) ?_
 have hZ:(⟨false,0,[],[]⟩:aF)=cZ:=rfl
 try simp only[aQ,ay,au]
 try dsimp only[aB,asT,aA,aP,Ty.den,Lf.den] at *
 try simp only[hZ,Int.toNat_natCast,aQ,ay,au,og,ny,jg,jf]
 try simp only[iH,iG,List.all_cons,List.all_nil,qh,jc,jr,je,qo,ne_eq,aj,jo,jm,jv,oh,yw,qp,yx,og,ny,lg,ji,List.length_cons,List.length_nil]
 have hp2:b3R f/\TW q:=hp
 refine⟨⟨fun h=>⟨h,by omega⟩,fun h=>⟨h,fun h2=>⟨h,xk h2⟩⟩⟩,fun h=>?_⟩
 have hs:=a9T h.1.1 hp2.1
 have hq:=a0g h.1.2 hp2.2
 refine⟨⟨hs,hq⟩,fun g1=>?_,fun g1=>⟨⟨hs,fun g2=>⟨g2,by have:=hq.1;omega,by have:=hq.2.1;omega⟩⟩,fun g2=>?_,fun g2=>⟨⟨by omega,fun g3=>⟨g3,g2.2,by have:=hq.2.2 g2.2;omega⟩⟩,fun g3=>?_,fun g3 i=>⟨fun g4=>?_,fun g4=>?_⟩⟩⟩⟩
 ·unfold rY;rw[jq (by omega)];exact⟨rfl,rfl⟩
 ·unfold rY;rw[jk (by omega),jq (by rcases g2 with g2|g2<;>rw[g2]<;>simp)];exact⟨rfl,rfl⟩
 ·unfold rY
  rw[jk (by omega),jk (by rw[g2.1,g2.2];decide)]
  by_cases g5:vP l≠0
  ·rw[jq g5];exact⟨rfl,rfl⟩
  ·rw[jk g5,jq (g3.elim (fun g=>absurd g g5) Bd)];exact⟨rfl,rfl⟩
 ·have hi:i.1<l.length:=by omega
  have hm:=a4W hs g2.1
  have hc:=a9A g3.1 _ (mM (d:=vY) hi)
  have hz:=a9Z hm.1 hc.1 hc.2
  have hqs:=hq.2.2 g2.2
  refine⟨⟨by omega,g4⟩,⟨mZ.mpr fun r hr=>⟨mZ.mpr fun q hq=>⟨hm.2 r hr q hq,trivial⟩,trivial⟩,hm.1,hc.1,hc.2⟩,fun h5=>⟨h5,h5,hz.2 h5,g2.2,⟨by omega,by omega⟩⟩,fun h5=>⟨by have:=MG (mq8 f) q.x l i.1;omega,⟨i.1+1,by omega⟩,by simp only;omega,by rw[cO (by omega) (by omega)];rfl,?_⟩,fun h5=>⟨⟨i.1+1,by omega⟩,by simp only;omega,by rw[cO (by omega) (by omega)];rfl,?_⟩⟩
  ·show _=inP (mq8 f) q.x l (i.1+1)
   rw[EW,jq (by unfold inB;rw[h5.1,h5.2];rfl)]
  ·show _=inP (mq8 f) q.x l (i.1+1)
   rw[EW,jk (fun h6=>by
    unfold inB at h6
    rw[aj,ay] at h6
    have h7:=h5 h6.1
    rw[h7] at h6
    exact absurd h6.2 (by decide)),zo]
 ·have hL:=a8b f l q
  have hi2:i.1=l.length:=by have:=i.2;omega
  have e:rY f l q=(inP (mq8 f) q.x l l.length,0,()):=by
   unfold rY
   rw[jk (by omega),jk (by rw[g2.1,g2.2];decide),jk (by rw[g3.1];decide),jk (of_decide_eq_false g3.2)]
  rw[e]
  exact⟨fun _=>⟨rfl,rfl,by show (inP (mq8 f) q.x l l.length).length<=1000000;have:=MG (mq8 f) q.x l l.length;omega⟩,rfl,xk (by show inP (mq8 f) q.x l l.length=_;rw[hi2])⟩
theorem vinliers_holds:Rows.EpipolarInliersSaid:=xU (XJ b0X) (fun _ _ _ a _ c=>⟨fun r hr q hq=>(a.2 r hr).2 q hq,c⟩)
end Go.Proofs.YtbkocjmmbkifjaaGreat
