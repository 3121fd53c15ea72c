/-
  Lemmas for the theorem vstations28_holds, part 28 of 34.
-/
import Derived.Carry
import Derived.Test.YtbkocjmmbkifjaaGreatQs26
import Derived.Test.YtbkocjmmbkifjaaGreatQs27
namespace Go.Proofs.YtbkocjmmbkifjaaGreat
open Go Go.RowKit
section
open Go Go.ChangeShapes Go.WideShapes Go.ChangeAt Go.RowKit Go.Joins
set_option linter.unusedVariables false
set_option linter.unusedSimpArgs false
set_option maxRecDepth 100000
theorem laidOut:laidOutB Tryz.prog=true:=by kernel_rfl
theorem a8W:Tryz.prog.cellsOf 47=4:=by kernel_rfl
theorem a8V:Tryz.prog.cellsOf 45=2:=by kernel_rfl
theorem a6X:Tryz.prog.cellsOf 43=1:=by kernel_rfl
theorem a6W:Tryz.prog.cellsOf 4=1:=by kernel_rfl
theorem a8X:Tryz.prog.cellsOf 148=1:=by kernel_rfl
def b5Y (q:aH):Prop:=∀ K,1<=K->q.n<=K->q.m<=K->rsz q.x<=K
def c1r {α:Type} (p:α->Prop) (xs:List α):Prop:=∀ x ∈ xs,p x
def good:(t:Ty)->t.den->Prop
 | .bool,_=>True
 | .int k,n=>(Lit.int k n).wf=true
 | .lf .iL,q=>b5Y q
 | .lf _,_=>True
 | .list t,xs=>List.length (α:=t.den) xs<=9223372036854775807/\c1r (good t) xs
 | .arr n t,xs=>List.length (α:=t.den) xs=n/\c1r (good t) xs
 | .pair a b,x=>good a x.1/\good b x.2
 | .unit,_=>True
 | .ref _,_=>True
 | .clo _ _,_=>True
 | .nls _,_=>True
noncomputable def dZ:Ty->Option TypeId->List Field->Nat->Bool
 | .pair a b,none,f::fs,o=>f.offset==o&&Tryz.prog.cellsOf f.type==a.n&&dZ a (some f.type) [] 0&&dZ b none fs (o+a.n)
 | .unit,none,[],_=>true
 | .bool,some T,_,_=>match Tryz.prog.underlying T with
  | some .bool=>true
  | _=>false
 | .int k,some T,_,_=>match Tryz.prog.underlying T with
  | some (.int k')=>k==k'
  | _=>false
 | .lf .iL,some T,_,_=>T==47
 | .list t,some T,_,_=>match Tryz.prog.underlying T with
  | some (.slice e)=>Tryz.prog.cellsOf e==t.n&&decide (0<t.n)&&dZ t (some e) [] 0
  | _=>false
 | .arr n t,some T,_,_=>match Tryz.prog.underlying T with
  | some (.array m e)=>m==n&&Tryz.prog.cellsOf e==t.n&&Tryz.prog.cellsOf T==n*t.n&&dZ t (some e) [] 0
  | _=>false
 | .pair a b,some T,_,_=>match Tryz.prog.underlying T with
  | some (.struct fs)=>Tryz.prog.cellsOf T==a.n+b.n&&(match fs.toList with
   | f::fs'=>f.offset==0&&Tryz.prog.cellsOf f.type==a.n&&dZ a (some f.type) [] 0&&dZ b none fs' a.n
   | []=>false)
  | _=>false
 | _,_,_,_=>false
section
variable {H:Type} {enc:TypeId × Value->H} {W:World}
theorem a8D {a:Addr} {v:Value} (h:W.cell? a=some v):a=⟨a.block,a.off,none⟩/\a.block<W.heap.size:=by
 have h1:=World.cell?_spot h
 refine⟨by obtain⟨b,o,s⟩:=a;cases h1;rfl,?_⟩
 exact World.block_lt_of_cell? W a h
theorem b6s {n:Nat} {cs:List Value} {y:DataW H × List MemPlace} (h:DataW.trod enc Tryz.prog W 0 (fun _=>true) true n 43 cs=some y):∃ p l c,cs=[.slice p l.length c]/\Rd W (.slice p l.length c) l/\∀ g ∈ l,g<4294967296:=by
 rcases open_ints (k:=.u32) og Tryz.underlying148 a8X h with⟨rfl,_⟩|⟨a,len,cap,zs,rfl,_,h1,h2,h3,_,h4,h5⟩
 ·exact⟨none,[],0,rfl,.inl ⟨none,rfl,rfl⟩,by simp⟩
 ·simp at h3
  by_cases hc:cap=0
  ·have hl:len=0:=by omega
   subst hc hl
   exact⟨some a,[],0,rfl,.inl ⟨_,rfl,rfl⟩,by simp⟩
  ·obtain⟨ha,hb⟩:=a8D (h4 0 (by omega))
   have ha:a=⟨a.block,a.off,none⟩:=by simpa [Addr.add] using ha
   have hb:a.block<W.heap.size:=by simpa [Addr.add] using hb
   have hz:∀ n ∈ zs,0<=n/\n<4294967296:=fun n hn=>by
    have:=h5 n hn
    simp[Lit.wf,IntKind.min,IntKind.max,IntKind.signed,IntKind.bits] at this
    omega
   have hL:((zs.take len).map Int.toNat).length=len:=by simp;omega
   refine⟨some a,(zs.take len).map Int.toNat,cap,by rw[hL],.inr ⟨a.block,a.off,cap,by rw[<-ha],by rw[hL];exact h1,by unfold maxLen at h2;omega,hb,fun i hi=>?_⟩,fun g hg=>?_⟩
   ·rw[hL] at hi
    have hi':i<zs.length:=by omega
    have hc:=h4 i hi'
    have hm:zs[i] ∈ zs:=vk hi'
    have:=hz _ hm
    have hg:((gr ((zs.take len).map Int.toNat) i:Nat):Int)=zs.getD i 0:=by
     have e1:gr ((zs.take len).map Int.toNat) i=(zs[i]).toNat:=by simp[gr,List.getD,hi,hi']
     have e2:zs.getD i 0=zs[i]:=by simp[List.getD,hi']
     rw[e1,e2];omega
    rw[hg,<-hc,ha]
    rw[add_plain]
   ·obtain⟨x,hx,rfl⟩:=uw.1 hg
    have:=hz x (Ak hx)
    omega
theorem c5b {α:Type} {l:List α} (h:l.length=4):∃ a b c d,l=[a,b,c,d]:=by
 match l,h with
 | [a,b,c,d],_=>exact⟨a,b,c,d,rfl⟩
theorem b7T {n:Nat} {cs:List Value} {y:DataW H × List MemPlace} (h:DataW.trod enc Tryz.prog W 0 (fun _=>true) true n 47 cs=some y):∃ x:aH,Lf.rep W cs .iL x/\b5Y x:=by
 obtain⟨xs,m,_,_,hl,hlen,hf⟩:=DataW.trod_struct Tryz.underlying47 h
 rw[a8W] at hl
 obtain⟨c0,c1,c2,c3,rfl⟩:=c5b hl
 match xs,hlen with
 | [y0,y1],_ =>
 have k0:=hf 0 _ rfl
 have k1:=hf 1 _ rfl
 obtain⟨xs0,m0,_,_,_,hlen0,hf0⟩:=DataW.trod_struct Tryz.underlying45 k0
 obtain⟨xs1,m1,_,_,_,hlen1,hf1⟩:=DataW.trod_struct Tryz.underlying45 k1
 match xs0,hlen0,xs1,hlen1 with
 | [z0,z1],_,[z2,z3],_ =>
 have a0:=hf0 0 _ rfl
 have a1:=hf0 1 _ rfl
 have a2:=hf1 0 _ rfl
 have a3:=hf1 1 _ rfl
 simp[a8V,a6W,a6X] at a0 a1 a2 a3
 obtain⟨b,e0,_⟩:=DataW.trod_bool Tryz.underlying4 a0
 obtain⟨d,e2,_⟩:=DataW.trod_bool Tryz.underlying4 a2
 simp at e0 e2
 subst e0 e2
 obtain⟨p,l,c,e1,r1,l1⟩:=b6s a1
 obtain⟨q,k,e,e3,r3,l3⟩:=b6s a3
 simp at e1 e3
 subst e1 e3
 have hq:lH W (.agg #[.bool b,.slice p l.length c,.bool d,.slice q k.length e]) _ _:=⟨_,_,_,_,_,_,_,_,rfl,⟨b,_,l,rfl,r1,l1,rfl,rfl⟩,⟨d,_,k,rfl,r3,l3,rfl,rfl⟩,rfl,rfl⟩
 exact⟨⟨_,_,l,k⟩,⟨b,p,c,d,q,e,rfl,hq,r1,r3⟩,fun K h1 h2 h3=>hq.a0U ⟨b,p,_,c,d,q,_,e,rfl,h2,h3⟩ h1⟩
theorem a0F {α:Type} {Q:Nat->α->Prop}:∀ n,(∀ i,i<n->∃ x,Q i x)->∃ xs:List α,xs.length=n/\∀ i (h:i<xs.length),Q i xs[i]
 | 0,_=>⟨[],rfl,fun i h=>by simp at h⟩
 | n+1,h=>by
  obtain⟨xs,h1,h2⟩:=a0F n (fun i hi=>h i (by omega))
  obtain⟨x,hx⟩:=h n (by omega)
  refine⟨xs++[x],by simp[h1],fun i hi=>?_⟩
  by_cases e:i<xs.length
  ·rw[List.getElem_append_left e];exact h2 i e
  ·have:i=n:=by simp at hi;omega
   subst this
   rw[List.getElem_append_right (by omega)]
   simpa using hx
theorem yI {α:Type} {R:List Value->α->Prop} {b o ce:Nat}:∀ (xs:List α) (k:Nat),(∀ i (h:i<xs.length),∃ c,c.length=ce/\(∀ j v,c[j]?=some v->W.cell? ⟨b,o+((k+i)*ce+j),none⟩=some v)/\R c xs[i])->∃ ds,(∀ j v,ds[j]?=some v->W.cell? ⟨b,o+(k*ce+j),none⟩=some v)/\chunks R ds xs
 | [],k,_=>⟨[],fun j v h=>by simp at h,rfl⟩
 | x::xs,k,h=>by
  obtain⟨c,h1,h2,h3⟩:=h 0 (by simp)
  obtain⟨ds,h4,h5⟩:=yI xs (k+1) (fun i hi=>by
   obtain⟨c,h1,h2,h3⟩:=h (i+1) (by simpa using hi)
   exact⟨c,h1,fun j v hj=>by rw[show k+1+i=k+(i+1) by omega];exact h2 j v hj,h3⟩)
  refine⟨c++ds,fun j v hj=>?_,c,ds,rfl,h3,h5⟩
  by_cases e:j<c.length
  ·rw[Ap e] at hj
   exact h2 j v hj
  ·rw[Eh (by omega)] at hj
   have:=h4 _ _ hj
   rw[Au,Nat.one_mul] at this
   rwa [show k*ce+ce+(j-c.length)=k*ce+j by omega] at this
theorem zA {α:Type} {R:List Value->α->Prop} {ce:Nat}:∀ (xs:List α) (cs:List Value),cs.length=xs.length*ce->(∀ i (h:i<xs.length),R ((cs.drop (i*ce)).take ce) xs[i])->chunks R cs xs
 | [],cs,h,_=>qp (by simpa using h)
 | x::xs,cs,h,hR=>by
  rw[List.length_cons,Aa] at h
  refine⟨cs.take ce,cs.drop ce,(Ag ce cs).symm,?_,zA (ce:=ce) xs (cs.drop ce) (by rw[zl];omega) (fun i hi=>?_)⟩
  ·have:=hR 0 (by simp)
   rwa [Nat.zero_mul,List.drop_zero] at this
  ·have:=hR (i+1) (by simpa using hi)
   rwa [Aa,Ep,<-Dz] at this
theorem a8Y {a:Addr} {n:Nat} {cs:List Value} (h:W.cells? 0 a n=some cs):cs.length=n/\∀ j v,cs[j]?=some v->W.cell? (a.add j)=some v:=by
 unfold World.cells? at h
 rw[jm (uq _)] at h
 refine⟨by simpa using mapM_some_length h,fun j v hj=>?_⟩
 have hl:cs.length=n:=by simpa using mapM_some_length h
 have hjn:j<n:=by rw[<-hl];exact(ql.1 hj).1
 have:=mapM_some_get h j j (by simp[hjn])
 rw[hj] at this
 exact this
abbrev a3o (W:World) (q:Nat):Prop:=q<W.heap.size
theorem lD:(t:Ty)->(T:Option TypeId)->(fs:List Field)->(o:Nat)->dZ t T fs o=true->(n:Nat)->(cs:List Value) ->
  (∀ T',T=some T'->(∃ y,DataW.trod enc Tryz.prog W 0 (fun _=>true) true n T' cs=some y)->∃ x:t.den,rep (a3o W) W t cs x/\good t x) /\
  (T=none->cs.length=o+t.n->(∀ f ∈ fs,∃ y,DataW.trod enc Tryz.prog W 0 (fun _=>true) true n f.type ((cs.drop f.offset).take (Tryz.prog.cellsOf f.type))=some y)->∃ x:t.den,rep (a3o W) W t (cs.drop o) x/\good t x)
 | .bool,some T,fs,o,hm,n,cs=>by
  refine⟨fun T' e ⟨y,hy⟩=>?_,fun e=>(by cases e)⟩
  cases e
  unfold dZ at hm
  split at hm<;>first|(cases hm;done)|skip
  rename_i hu
  obtain⟨b,rfl,_⟩:=DataW.trod_bool hu hy
  exact⟨b,rfl,trivial⟩
 | .int k,some T,fs,o,hm,n,cs=>by
  refine⟨fun T' e ⟨y,hy⟩=>?_,fun e=>(by cases e)⟩
  cases e
  unfold dZ at hm
  split at hm<;>first|(cases hm;done)|skip
  rename_i k' hu
  have hk:k=k':=by simpa using hm
  subst hk
  obtain⟨b,rfl,_,hw⟩:=DataW.trod_int hu hy
  exact⟨b,rfl,hw⟩
 | .lf .iL,some T,fs,o,hm,n,cs=>by
  refine⟨fun T' e ⟨y,hy⟩=>?_,fun e=>(by cases e)⟩
  cases e
  have hT:T=47:=by unfold dZ at hm;simpa using hm
  subst hT
  exact b7T hy
 | .list t,some T,fs,o,hm,n,cs=>by
  refine⟨fun T' e ⟨y,hy⟩=>?_,fun e=>(by cases e)⟩
  cases e
  unfold dZ at hm
  split at hm<;>first|(cases hm;done)|skip
  rename_i e hu
  simp only[au,jf,aj] at hm
  obtain⟨⟨hc,hp⟩,hmt⟩:=hm
  rcases DataW.trod_slice hu hy with⟨rfl,_⟩|⟨a,len,cap,elems,rest,m,_,rfl,_,_,h1,h2,h3,h4,_,_⟩
  ·exact⟨([]:List t.den),⟨none,0,rfl,ay _,by omega,.inl rfl⟩,by show 0<=_;omega,fun x hx=>by cases hx⟩
  ·rw[hc] at h4
   obtain⟨xs,hxl,hxs⟩:=a0F (Q:=fun i (x:t.den)=>(∃ c,c.length=t.n/\(∀ j v,c[j]?=some v->W.cell? ((a.add (i*t.n)).add j)=some v)/\rep (a3o W) W t c x)/\good t x) len (fun i hi=>by
    have h5:=h4 i hi
    rw[jc (by omega),Option.bind_eq_some_iff] at h5
    obtain⟨c,h6,h7⟩:=h5
    obtain⟨x,h8,h9⟩:=(lD t (some e) [] 0 hmt m c).1 e rfl ⟨_,h7⟩
    obtain⟨k1,k2⟩:=a8Y h6
    exact⟨x,⟨c,k1,k2,h8⟩,h9⟩)
   have hcap:cap<=9223372036854775807:=by unfold maxLen at h2;omega
   refine⟨xs,?_,⟨?_,?_⟩⟩
   ·refine⟨some a,cap,by rw[show List.length (α:=t.den) xs=len from hxl],by rw[show List.length (α:=t.den) xs=len from hxl];exact h1,hcap,?_⟩
    by_cases h0:len=0
    ·exact .inl (qp (by rw[hxl,h0]))
    ·right
     obtain⟨⟨c,k1,k2,_⟩,_⟩:=hxs 0 (by omega)
     obtain⟨v,hv⟩:∃ v,c[0]?=some v:=⟨_,jc (by omega)⟩
     have hcell:=k2 0 v hv
     rw[Nat.zero_mul,show (a.add 0).add 0=a by simp[Addr.add]] at hcell
     obtain⟨ha,hb⟩:=a8D hcell
     obtain⟨ds,d1,d2⟩:=yI (W:=W) (R:=rep (a3o W) W t) (b:=a.block) (o:=a.off) (ce:=t.n) xs 0 (fun i hi=>by
      obtain⟨⟨c,k1,k2,k3⟩,_⟩:=hxs i hi
      refine⟨c,k1,fun j v hj=>?_,k3⟩
      have:=k2 j v hj
      rw[ha,add_plain,add_plain] at this
      rw[tu,<-Nat.add_assoc];exact this)
     exact⟨a.block,a.off,ds,by rw[<-ha],hb,fun j v hj=>by have:=d1 j v hj;rwa [Nat.zero_mul,tu] at this,d2⟩
   ·show xs.length<=_;omega
   ·intro x hx
    obtain⟨i,hi,rfl⟩:=Df hx
    exact(hxs i hi).2
 | .arr k t,some T,fs,o,hm,n,cs=>by
  refine⟨fun T' e ⟨y,hy⟩=>?_,fun e=>(by cases e)⟩
  cases e
  unfold dZ at hm
  split at hm<;>first|(cases hm;done)|skip
  rename_i m e hu
  simp only[au,jf] at hm
  obtain⟨⟨⟨hk,hc⟩,hC⟩,hmt⟩:=hm
  subst hk
  obtain⟨ys,q,_,_,hl,hyl,hys⟩:=DataW.trod_array hu hy
  rw[hC] at hl
  rw[hc] at hys
  obtain⟨xs,hxl,hxs⟩:=a0F (Q:=fun i (x:t.den)=>rep (a3o W) W t ((cs.drop (i*t.n)).take t.n) x/\good t x) m (fun i hi=>by
   have h5:=hys i hi
   rw[jc (by omega)] at h5
   exact(lD t (some e) [] 0 hmt q _).1 e rfl ⟨_,h5⟩)
  refine⟨xs,⟨hxl,zA (ce:=t.n) xs cs (by rw[hl,hxl]) (fun i hi=>(hxs i hi).1)⟩,hxl,fun x hx=>?_⟩
  obtain⟨i,hi,rfl⟩:=Df hx
  exact(hxs i hi).2
 | .pair a b,some T,fs,o,hm,n,cs=>by
  refine⟨fun T' e ⟨y,hy⟩=>?_,fun e=>(by cases e)⟩
  cases e
  unfold dZ at hm
  split at hm<;>first|(cases hm;done)|skip
  rename_i gs hu
  simp only[au,jf] at hm
  obtain⟨hC,hm⟩:=hm
  split at hm<;>first|(cases hm;done)|skip
  rename_i f fs' hgs
  simp only[au,jf] at hm
  obtain⟨⟨⟨ho,hc⟩,hma⟩,hmb⟩:=hm
  obtain⟨ys,q,_,_,hl,hyl,hys⟩:=DataW.trod_struct hu hy
  rw[hC] at hl
  have hget:∀ (i:Nat) (g:Field),gs[i]?=some g->∃ y,DataW.trod enc Tryz.prog W 0 (fun _=>true) true q g.type ((cs.drop g.offset).take (Tryz.prog.cellsOf g.type))=some y:=fun i g hg=>by
   have hi:i<gs.size:=(Aj.1 hg).1
   have:=hys i g hg
   rw[jc (by omega)] at this
   exact⟨_,this⟩
  have h0:=hget 0 f (by rw[<-Array.getElem?_toList,hgs];rfl)
  rw[ho,hc,List.drop_zero] at h0
  obtain⟨x,hx,gx⟩:=(lD a (some f.type) [] 0 hma q _).1 _ rfl h0
  obtain⟨z,hz,gz⟩:=(lD b none fs' a.n hmb q cs).2 rfl hl (fun g hg=>by
   obtain⟨i,hi⟩:=List.getElem?_of_mem hg
   exact hget (i+1) g (by rw[<-Array.getElem?_toList,hgs];exact hi))
  exact⟨(x,z),⟨_,_,(Ag a.n cs).symm,hx,hz⟩,gx,gz⟩
 | .pair a b,none,[],o,hm,n,cs=>by simp[dZ] at hm
 | .pair a b,none,f::fs',o,hm,n,cs=>by
  refine⟨fun T' e=>(by cases e),fun _ hl hg=>?_⟩
  unfold dZ at hm
  simp only[au,jf] at hm
  obtain⟨⟨⟨ho,hc⟩,hma⟩,hmb⟩:=hm
  have h0:=hg f (mg ..)
  rw[ho,hc] at h0
  obtain⟨x,hx,gx⟩:=(lD a (some f.type) [] 0 hma n _).1 _ rfl h0
  obtain⟨z,hz,gz⟩:=(lD b none fs' (o+a.n) hmb n cs).2 rfl (by rw[hl];show o+(a.n+b.n)=_;omega) (fun g hg'=>hg g (ku _ hg'))
  refine⟨(x,z),⟨(cs.drop o).take a.n,cs.drop (o+a.n),?_,hx,hz⟩,gx,gz⟩
  rw[<-Dz,Ag]
 | .unit,none,[],o,hm,n,cs=>by
  refine⟨fun T' e=>(by cases e),fun _ hl _=>⟨(),?_,trivial⟩⟩
  show cs.drop o=[]
  exact List.drop_eq_nil_of_le (by rw[hl];exact ay _)
 | .unit,none,_::_,o,hm,n,cs=>by simp[dZ] at hm
 | .unit,some _,_,_,hm,_,_=>by simp[dZ] at hm
 | .bool,none,_,_,hm,_,_=>by simp[dZ] at hm
 | .int _,none,_,_,hm,_,_=>by simp[dZ] at hm
 | .lf .iL,none,_,_,hm,_,_=>by simp[dZ] at hm
 | .lf .rat,_,_,_,hm,_,_=>by simp[dZ] at hm
 | .lf .big,_,_,_,hm,_,_=>by simp[dZ] at hm
 | .lf .FI,_,_,_,hm,_,_=>by simp[dZ] at hm
 | .lf .str,_,_,_,hm,_,_=>by simp[dZ] at hm
 | .list _,none,_,_,hm,_,_=>by simp[dZ] at hm
 | .arr _ _,none,_,_,hm,_,_=>by simp[dZ] at hm
 | .ref _,_,_,_,hm,_,_=>by simp[dZ] at hm
 | .clo _ _,_,_,_,hm,_,_=>by simp[dZ] at hm
 | .nls _,_,_,_,hm,_,_=>by simp[dZ] at hm
theorem a3p {t:Ty} {T:TypeId} {v:Value} {d:DataW H} {p:List MemPlace} {b0:Nat} (hm:dZ t (some T) [] 0=true) (hv:Value.okWide Tryz.prog W .any b0 T v) (h:DataW.Trod enc Tryz.prog W 0 (fun _=>true) true T v d p) :
  ∃ x:t.den,iY (a3o W) W t v x/\good t x:=by
 obtain⟨n,hn⟩:=h
 obtain⟨x,hx,gx⟩:=(lD t (some T) [] 0 hm n v.cells.toList).1 T rfl ⟨_,hn⟩
 refine⟨x,⟨v.cells.toList,?_,hx⟩,gx⟩
 cases t with
 | bool =>
  unfold dZ at hm
  split at hm<;>first|(cases hm;done)|skip
  rename_i hu
  simp only[Value.okWide,hu,Cell.okWide,Cell.ok] at hv
  split at hv<;>simp_all [Value.cells,Ty.toV,Ty.agg]
 | int k =>
  unfold dZ at hm
  split at hm<;>first|(cases hm;done)|skip
  rename_i k' hu
  simp only[Value.okWide,hu,Cell.okWide,Cell.ok] at hv
  split at hv<;>simp_all [Value.cells,Ty.toV,Ty.agg]
 | lf l =>
  cases l<;>try (simp[dZ] at hm;done)
  have hT:T=47:=by unfold dZ at hm;simpa using hm
  subst hT
  simp only[Value.okWide,Tryz.underlying47] at hv
  obtain⟨cs,rfl,_⟩:=hv
  simp[Ty.toV,Ty.agg,Lf.agg,Value.cells]
 | list t =>
  unfold dZ at hm
  split at hm<;>first|(cases hm;done)|skip
  rename_i e hu
  simp only[Value.okWide,hu,Cell.okWide,Cell.ok] at hv
  split at hv<;>simp_all [Value.cells,Ty.toV,Ty.agg]
 | arr k t =>
  unfold dZ at hm
  split at hm<;>first|(cases hm;done)|skip
  rename_i m e hu
  simp only[Value.okWide,hu] at hv
  obtain⟨cs,rfl,_⟩:=hv
  simp[Ty.toV,Ty.agg,Value.cells]
 | pair a b =>
  unfold dZ at hm
  split at hm<;>first|(cases hm;done)|skip
  rename_i gs hu
  simp only[Value.okWide,hu] at hv
  obtain⟨cs,rfl,_⟩:=hv
  simp[Ty.toV,Ty.agg,Value.cells]
 | _=>simp[dZ] at hm
end
end
set_option maxRecDepth 100000
set_option maxHeartbeats 4000000
set_option linter.unusedVariables false
set_option linter.unusedSimpArgs false
theorem qJ {P:Program} {f:FuncId} {args res:List Ty} {pre:(nest args).den->Prop} {fn fn':(nest args).den->(nest res).den} {d d':∀ x,Dc (pre x)} (h:aI P f (@Ctr.mk args res pre fn d)) (e:∀ x,pre x->fn x=fn' x):aI P f (@Ctr.mk args res pre fn' d'):=fun F w vs x a b hp=>by
 have h2:=h F w vs x a b hp
 rw[show (@Ctr.mk args res pre fn d).fn x=fn' x from e x hp] at h2
 exact h2
theorem b3v {P:Program} {f:FuncId} {args res:List Ty} {pre pre':(nest args).den->Prop} {fn fn':(nest args).den->(nest res).den} {d:∀ x,Dc (pre x)} {d':∀ x,Dc (pre' x)} (h:aI P f (@Ctr.mk args res pre fn d)) (q:∀ x,pre' x->pre x) (e:∀ x,pre' x->fn x=fn' x):aI P f (@Ctr.mk args res pre' fn' d'):=fun F w vs x a b hp=>by
 have h2:=h F w vs x a b (q x hp)
 rw[show (@Ctr.mk args res pre fn d).fn x=fn' x from e x hp] at h2
 exact h2
theorem b2e:aI Tryz.prog 159 c2h:=by
 refine aK (nil0.ad a0R) ⟨[],[],[]⟩ Tryz.func159 rfl (by decide) (fun x=>[.inv {k:Nat // k<=(show LQ' from x.1).length/\(show LQ' from x.1).take k=(show LQ' from x.2.1).take k} (fun k=>[(5,.val tI (k.1:Int))]) (fun k=>[]) (fun k=>(show LQ' from x.1).length-k.1) ⟨0,by omega,rfl⟩ (fun _=>[])]) (fun x hp=>?_)
 obtain⟨x,y,u⟩:=x
 change List Rat at x
 change List Rat at y
 refine aU (ifB (aB x.length != aB y.length) (True/\false=decide (x=y)/\True) ((asT Int 0=0/\True)/\∀ (i:{ k:Nat // k<=List.length x/\List.take k x=List.take k y }),asT Bool true=true/\ifB (decide (aB (aA i)<aB x.length)) ((0<=aB (aA i)/\aB (aA i)<aB x.length/\0<=aB (aA i)/\aB (aA i)<aB y.length/\s19 (List.getD x (aB (aA i)).toNat 0) (List.getD y (aB (aA i)).toNat 0)/\True)/\ifB (!decide (List.getD x (aB (aA i)).toNat 0=List.getD y (aB (aA i)).toNat 0)) (True/\false=decide (x=y)/\True) (∃ (i':{ k:Nat // k<=List.length x/\List.take k x=List.take k y }),List.length x-aA i'<List.length x-aA i/\IntKind.wrap IntKind.i64 (aB (aA i)+1)=aB (aA i')/\True)) (True/\true=decide (x=y)/\True))) (by kernel_rfl) ?_
 have hZ:(⟨false,0,[],[]⟩:aH)=bF:=rfl
 dsimp only[aB,asT,aA,aF,Ty.den,Lf.den] at *
 simp only[hZ,Int.toNat_natCast,aC,aj,ah,jh,jg,aN,nameAt,bJ,eX,eY,rowAt,gy,bf]
 have hp:szL x/\szL y:=hp
 obtain⟨⟨q1,q2⟩,q3,q4⟩:=hp
 refine⟨fun h=>?_,fun h i=>⟨fun h1=>?_,fun h1=>?_⟩⟩
 ·have h:(x.length:Int)≠y.length:=by simpa using h
  exact(ny (fun e=>h (by rw[e]))).symm
 ·have hl:x.length=y.length:=by
   have:(x.length:Int)=y.length:=by simpa using h
   omega
  have hi:i.1<x.length:=by omega
  have z1:rsz (x.getD i.1 0)<=100000000:=bU q2 hi
  have z2:rsz (y.getD i.1 0)<=100000000:=bU q4 (by omega)
  refine⟨⟨by omega,by omega,by omega,by omega,⟨by omega,by omega⟩⟩,fun h2=>?_,fun h2=>⟨⟨i.1+1,by omega,?_⟩,by simp only;omega,by rw[aP (by omega) (by omega)];rfl⟩⟩
  ·have h2:x.getD i.1 0≠y.getD i.1 0:=by simpa using h2
   exact(ny (fun e=>h2 (vg (fun l=>l.getD i.1 0) e))).symm
  ·have h2:x.getD i.1 0=y.getD i.1 0:=by simpa using h2
   exact UQ hi (by omega) i.2.2 h2
 ·have hl:x.length=y.length:=by
   have:(x.length:Int)=y.length:=by simpa using h
   omega
  have h3:=i.2.2
  rw[jv (by omega),jv (by omega)] at h3
  exact(uf h3).symm
theorem b2s:aI Tryz.prog 73 c2h:=by
 refine aK (nil0.ad b2e) ⟨[],[],[]⟩ Tryz.func73 rfl (by decide) (fun x=>[]) (fun x hp=>?_)
 obtain⟨x,y,u⟩:=x
 change List Rat at x
 change List Rat at y
 refine aU (((szL x/\szL y)/\True)/\True/\decide (x=y)=decide (x=y)/\True) (by kernel_rfl) ?_
 exact⟨⟨hp,trivial⟩,trivial,rfl,trivial⟩
noncomputable def c1R:Ctr:=⟨[tM,tM,.clo 73 .unit],[tB],fun x=>JW x.1/\JW x.2.1,fun x=>(decide ((show MQ from x.1)=(show MQ from x.2.1)),())⟩
theorem a9D:aI Tryz.prog 72 c1R:=by
 refine aK (nil0.ad b2s) ⟨[],[],[]⟩ Tryz.func72 rfl (by decide) (fun x=>[.inv {k:Nat // k<=(show MQ from x.1).length/\(show MQ from x.1).take k=(show MQ from x.2.1).take k} (fun k=>[(17,.val tI (k.1:Int))]) (fun k=>[]) (fun k=>(show MQ from x.1).length-k.1) ⟨0,by omega,rfl⟩ (fun _=>[])]) (fun x hp=>?_)
 obtain⟨x,y,c,u⟩:=x
 change List (List Rat) at x
 change List (List Rat) at y
 change Unit at c
 refine aU (ifB (aB x.length != aB y.length) (True/\false=decide (x=y)/\True) ((asT Int 0=0/\True)/\∀ (i:{ k:Nat // k<=List.length x/\List.take k x=List.take k y }),asT Bool true=true/\ifB (decide (aB (aA i)<aB x.length)) ((0<=aB (aA i)/\aB (aA i)<aB x.length/\True)/\(0<=aB (aA i)/\aB (aA i)<aB y.length/\True)/\((szL (List.getD x (aB (aA i)).toNat (aF Rat))/\szL (List.getD y (aB (aA i)).toNat (aF Rat)))/\True)/\ifB (!decide (List.getD x (aB (aA i)).toNat (aF Rat)=List.getD y (aB (aA i)).toNat (aF Rat))) (True/\false=decide (x=y)/\True) (∃ (i':{ k:Nat // k<=List.length x/\List.take k x=List.take k y }),List.length x-aA i'<List.length x-aA i/\IntKind.wrap IntKind.i64 (aB (aA i)+1)=aB (aA i')/\True)) (True/\true=decide (x=y)/\True))) (by kernel_rfl) ?_
 have hZ:(⟨false,0,[],[]⟩:aH)=bF:=rfl
 try simp only[aC,aj,ah]
 try dsimp only[aB,asT,aA,aF,Ty.den,Lf.den] at *
 try simp only[hZ,Int.toNat_natCast,aC,aj,ah,jh,jg,gy,bf]
 try simp only[bT,bP,List.all_cons,List.all_nil,jk,dw,ig,jf,jy,ne_eq,au,bg,dn,eu,jd,oq,jr,ou,jh,jg,iw,bn,List.length_cons,List.length_nil]
 have hp:JW x/\JW y:=hp
 obtain⟨⟨q1,q2⟩,q3,q4⟩:=hp
 refine⟨fun h=>(ny fun e=>h (by rw[e])).symm,fun h i=>⟨fun h1=>⟨⟨by omega,h1⟩,⟨by omega,by omega⟩,⟨bU q2 (by omega),bU q4 (by omega)⟩,fun h2=>(ny fun e=>ug h2 (vg (fun l=>l.getD i.1 []) e)).symm,fun h2=>⟨⟨i.1+1,by omega,?_⟩,by simp only;omega,by rw[aP (by omega) (by omega)];rfl⟩⟩,fun h1=>?_⟩⟩
 ·exact UQ (d:=[]) (by omega) (by omega) i.2.2 (qw h2)
 ·have h3:=i.2.2
  rw[jv (by omega),jv (by omega)] at h3
  exact(uf h3).symm
theorem a8a:aI Tryz.prog 14 c4w:=by
 refine aK (nil0.ad a9D) ⟨[],[],[]⟩ Tryz.func14 rfl (by decide) (fun x=>[]) (fun x hp=>?_)
 obtain⟨x,y,u⟩:=x
 change List (List Rat) at x
 change List (List Rat) at y
 refine aU (((JW x/\JW y)/\True)/\True/\decide (x=y)=decide (x=y)/\True) (by kernel_rfl) ?_
 exact⟨⟨hp,trivial⟩,trivial,rfl,trivial⟩
set_option maxHeartbeats 1000000
def DU (x:MR):Mt:=fun i j=>((x.getD i []).getD j bF).x
theorem QX {R C:Nat} {f:Mt} {i j:Nat} (hi:i<R) (hj:j<C):DU (bG R C f) i j=f i j:=by
 show (((bG R C f).getD i []).getD j bF).x=_
 rw[jK hi,fM hj];rfl
def b1M (x:MR) (n:Int):Prop:=x=bG x.length (wdM x) (DU x)/\1<=x.length/\x.length<=1000/\1<=wdM x/\wdM x<=1000/\0<=n/\n.toNat<=wdM x/\uD x.length (wdM x) (DU x) n.toNat
abbrev rdm (x:MR) (j:Nat):Mt:=(red x.length (DU x) j).1
abbrev rdp (x:MR) (j:Nat):List Nat:=(red x.length (DU x) j).2
def kk (x:MR) (j:Nat):Nat:=fk (rdm x j) j (rdp x j).length (x.length-(rdp x j).length)
theorem a8g {R C:Nat} {f:Nat->Nat->Rat} {i j:Nat} (v:Rat) (hi:i<R):(bG R C f).set i (((bG R C f).getD i []).set j (eU v))=bG R C (fun a b=>if a=i/\b=j then v else f a b):=by
 rw[jK hi,map_set]
 rw[show (fun d=>if d=j then eU v else eU (f i d))=(fun d=>eU (if d=j then v else f i d)) from funext fun d=>by split<;>rfl,a2V i]
 refine nG fun a _ b _=>?_
 by_cases e:a=i
 ·subst e;rw[jm rfl]
  by_cases e2:b=j
  ·rw[jm e2,jm ⟨rfl,e2⟩]
  ·rw[ji e2,ji (by simp[e2])]
 ·rw[ji e,ji (by simp[e])]
theorem b5x {R C r k:Nat} {m:Mt} (hr:r<R) (hk:k<R):List.map (fun t=>(bG R C m).getD t []) (((List.range R).set r k).set k r)=bG R C (gB m r k):=by
 rw[PW,List.map_map]
 unfold bG
 refine qj fun i hi=>?_
 have hi:=vw.mp hi
 show (bG R C m).getD (if i=k then r else if i=r then k else i) []=_
 have hb:(if i=k then r else if i=r then k else i)<R:=by
  split
  ·exact hr
  ·split
   ·exact hk
   ·exact hi
 rw[jK hb]
 refine qj fun c _=>?_
 unfold gB
 by_cases e1:i=k
 ·by_cases e2:i=r
  ·rw[jm e1,jm e2];have:r=k:=by omega
   rw[this]
  ·rw[jm e1,ji e2,jm e1]
 ·by_cases e2:i=r
  ·rw[ji e1,jm e2,jm e2]
  ·rw[ji e1,ji e2,ji e2,ji e1]
theorem b1c (C:Nat) (f:Nat->Rat):List.map (fun x=>aH.x x) ((List.range C).map fun c=>eU (f c))=(List.range C).map f:=by simp[eU]
theorem b2y {C:Nat} {f g:Nat->Rat} {k:Rat} {s:Nat}:pI ((List.range C).map fun c=>eU (f c)) ((List.range C).map g) k s C=(List.range C).map fun c=>eU (if s<=c then f c-k*g c else f c):=by
 unfold pI
 rw[show ((List.range C).map fun c=>eU (f c)).length=C by simp]
 refine qj fun c hc=>?_
 have hc:=vw.mp hc
 rw[fM hc,show lv ((List.range C).map g) c=g c from fM hc]
 by_cases h:s<=c
 ·rw[jm ⟨h,hc⟩,jm h];rfl
 ·rw[ji (by omega),ji h]
theorem FD {C:Nat} {f:Nat->Rat} {q:aH} (h:q ∈ (List.range C).map fun c=>eU (f c)):∃ c,c<C/\q=eU (f c):=by
 obtain⟨c,hc,rfl⟩:=uw.mp h;exact⟨c,vw.mp hc,rfl⟩
theorem b7U (x:MR) (n:Int) (hp:b1M x n):let A₀:=(fun(x:Ty.den (Ty.lf Lf.iL))=>aH.x x);(asT Int 0=0/\(True/\asT (List Int) (aF Int)=aF Int)/\x=bG x.length (wdM x) (rdm x 0)/\(asT (List Int) (aF Int)=aF Int/\0=0/\asT Bool true=true)/\True)/\∀ (i:{ j:Nat // j<=Int.toNat n }),let A₂:=(bG x.length (wdM x) (rdm x (aA i)));let aJ:=(cZ (rdp x (aA i))).length;let aT:=(rdp x (aA i)).length;let bV:=(1 / rdm x (aA i) (kk x (aA i)) (aA i));let dH:=(gB (rdm x (aA i)) aT (kk x (aA i)));let A₁:=(scl dH aT (aA i) (wdM x) bV);let dD:=(nameAt none (aB aJ).toNat);let eP:=(aB (aA i)).toNat;asT Bool true=true/\ifB (decide (aB (aA i)<n)) ((aB aJ=aB aT/\bG x.length (wdM x) (rdm x (aA i))=bG x.length (wdM x) (rdm x (aA i))/\cZ (rdp x (aA i))=cZ (rdp x (aA i))/\True)/\∀ (i_1:{ k:Nat // List.length (rdp x (aA i))<=k/\k<=List.length x/\∀ (i_1:Nat),List.length (rdp x (aA i))<=i_1->i_1<k->rdm x (aA i) i_1 (aA i)=0 }),let nU:=(aB (aA i_1)<aB (aN none A₂));let dU:=(decide nU==true);let rE:=(aB (aA i_1)).toNat;let iZ:=(nameAt none rE);let jO:=(List.getD (rowAt A₂ iZ) eP { ok:=false,x:=0,g:=aF Nat,h:=aF Nat });let kL:=(some (List.set (bJ none A₂) (aB aJ).toNat iZ));let fZ:=(List.set (bJ kL A₂) rE dD);let oW:=(rowAt A₂ (nameAt (some fZ) (aB aJ).toNat));let gX:=(List.getD oW eP { ok:=false,x:=0,g:=aF Nat,h:=aF Nat });asT Bool true=true/\((dU=true->dU=true/\dU=true/\0<=aB (aA i_1)/\aB (aA i_1)<aB (aN none A₂)/\True)/\(dU=true->dU=true/\Int.toNat (aB (aA i_1))<aN none A₂/\True)/\(dU=true->dU=true/\dU=true/\0<=aB (aA i)/\aB (aA i)<aB (rowAt A₂ iZ).length/\True)/\(dU=true->dU=true/\Int.toNat (aB (aA i))<List.length (rowAt A₂ iZ)/\True)/\(dU=true->dU=true/\aH.ok jO=true/\rsz (aH.x jO)<=1000000000/\True)/\(dU=true->dU=true/\True)/\(decide nU=true->dU=true)/\True)/\ifB (bif decide nU then sgn (Rat.num (aH.x jO))==0 else false) (∃ (i':{ k:Nat // List.length (rdp x (aA i))<=k/\k<=List.length x/\∀ (i_2:Nat),List.length (rdp x (aA i))<=i_2->i_2<k->rdm x (aA i) i_2 (aA i)=0 }),List.length x-aA i'<List.length x-aA i_1/\IntKind.wrap IntKind.i64 (aB (aA i_1)+1)=aB (aA i')/\bG x.length (wdM x) (rdm x (aA i))=bG x.length (wdM x) (rdm x (aA i))/\cZ (rdp x (aA i))=cZ (rdp x (aA i))/\True) (ifB (aB (aA i_1)==aB (aN none A₂)) (∃ (i':{ j:Nat // j<=Int.toNat n }),Int.toNat n-aA i'<Int.toNat n-aA i/\IntKind.wrap IntKind.i64 (aB (aA i)+1)=aB (aA i')/\bG x.length (wdM x) (rdm x (aA i))=bG x.length (wdM x) (rdm x (aA i'))/\cZ (rdp x (aA i))=cZ (rdp x (aA i'))/\True) ((0<=aB (aA i_1)/\aB (aA i_1)<aB (aN none A₂)/\Int.toNat (aB (aA i_1))<aN none A₂/\0<=aB aJ/\aB aJ<aB (aN none A₂)/\Int.toNat (aB aJ)<aN none A₂/\0<=aB aJ/\aB aJ<aB (aN none A₂)/\Int.toNat (aB aJ)<aN none A₂/\0<=aB (aA i_1)/\aB (aA i_1)<aB (aN kL A₂)/\Int.toNat (aB (aA i_1))<aN kL A₂/\True)/\(aX 1/\0<=aB aJ/\aB aJ<aB (aN (some fZ) A₂)/\Int.toNat (aB aJ)<aN (some fZ) A₂/\0<=aB (aA i)/\aB (aA i)<aB oW.length/\Int.toNat (aB (aA i))<List.length oW/\aH.ok gX=true/\(rsz (aO 1)<=400000000/\rsz (aH.x gX)<=400000000/\aH.x gX≠0)/\True)/\(aB (aA i)=aB (aA i)/\List.Nodup fZ/\List.map (fun(i_2:Nat)=>List.getD A₂ i_2 (aF aH)) fZ=bG x.length (wdM x) (scl dH aT (aA i) (aA i) bV)/\cZ (rdp x (aA i))=cZ (rdp x (aA i))/\aO 1 / aH.x gX=1 / rdm x (aA i) (kk x (aA i)) (aA i)/\True)/\∀ (i_2:{ c:Nat // aA i<=c }),let C₁:=(scl dH aT (aA i) (aA i_2) bV);let fK:=(bG x.length (wdM x) C₁);let uN:=(rowAt fK dD).length;let C₂:=(aB (aA i_2)).toNat;let uM:=(List.getD (rowAt fK dD) C₂ { ok:=false,x:=0,g:=aF Nat,h:=aF Nat });asT Bool true=true/\(0<=aB aJ/\aB aJ<aB (aN none fK)/\Int.toNat (aB aJ)<aN none fK/\True)/\ifB (decide (aB (aA i_2)<aB uN)) ((0<=aB aJ/\aB aJ<aB (aN none fK)/\Int.toNat (aB aJ)<aN none fK/\0<=aB aJ/\aB aJ<aB (aN none fK)/\Int.toNat (aB aJ)<aN none fK/\0<=aB (aA i_2)/\aB (aA i_2)<aB uN/\Int.toNat (aB (aA i_2))<List.length (rowAt fK dD)/\aH.ok uM=true/\s44 bV (aH.x uM)/\0<=aB (aA i_2)/\aB (aA i_2)<aB uN/\Int.toNat (aB (aA i_2))<List.length (rowAt fK dD)/\True)/\∃ (i':{ c:Nat // aA i<=c }),wdM x-aA i'<wdM x-aA i_2/\IntKind.wrap IntKind.i64 (aB (aA i_2)+1)=aB (aA i')/\List.set fK dD (List.set (rowAt fK dD) C₂ (eU (1 / rdm x (aA i) (kk x (aA i)) (aA i)*aH.x uM)))=bG x.length (wdM x) (scl dH aT (aA i) (aA i') bV)/\cZ (rdp x (aA i))=cZ (rdp x (aA i))/\1 / rdm x (aA i) (kk x (aA i)) (aA i)=1 / rdm x (aA i) (kk x (aA i)) (aA i)/\True) ((asT Int 0=0/\bG x.length (wdM x) C₁=bG x.length (wdM x) (elm A₁ aT (aA i) 0)/\cZ (rdp x (aA i))=cZ (rdp x (aA i))/\True)/\∀ (i_3:{ i:Nat // i<=List.length x }),let yN:=(elm A₁ aT (aA i) (aA i_3));let C₃:=(bG x.length (wdM x) yN);let QB:=(aB (aA i_3)).toNat;let wS:=(nameAt none QB);let jD:=(rowAt C₃ wS);let rF:=(List.getD jD eP { ok:=false,x:=0,g:=aF Nat,h:=aF Nat });let QD:=(aB (aA i_3) != aB aJ);let gV:=(QD==true);asT Bool true=true/\ifB (decide (aB (aA i_3)<aB (aN none fK))) (((gV=true->gV=true/\gV=true/\0<=aB (aA i_3)/\aB (aA i_3)<aB (aN none C₃)/\True)/\(gV=true->gV=true/\Int.toNat (aB (aA i_3))<aN none C₃/\True)/\(gV=true->gV=true/\gV=true/\0<=aB (aA i)/\aB (aA i)<aB jD.length/\True)/\(gV=true->gV=true/\Int.toNat (aB (aA i))<List.length jD/\True)/\(gV=true->gV=true/\aH.ok rF=true/\rsz (aH.x rF)<=1000000000/\True)/\(gV=true->gV=true/\True)/\(QD=true->gV=true)/\True)/\ifB (bif aB (aA i_3) != aB aJ then sgn (Rat.num (aH.x rF)) != 0 else false) ((0<=aB (aA i_3)/\aB (aA i_3)<aB (aN none C₃)/\Int.toNat (aB (aA i_3))<aN none C₃/\0<=aB aJ/\aB aJ<aB (aN none C₃)/\Int.toNat (aB aJ)<aN none C₃/\0<=aB (aA i_3)/\aB (aA i_3)<aB (aN none C₃)/\Int.toNat (aB (aA i_3))<aN none C₃/\0<=aB (aA i)/\aB (aA i)<aB jD.length/\Int.toNat (aB (aA i))<List.length jD/\nameAt none (aB aJ).toNat≠nameAt none QB/\kM (fun(x:Ty.den (Ty.lf Lf.iL))=>dJ ((aH.ok x=true)::aF Cd)) (rowAt C₃ dD)/\aH.ok rF=true/\((∀ (q:aH),q ∈ rowAt C₃ wS->q=eU (aH.x q))/\List.length jD=List.length (List.map A₀ (rowAt C₃ dD))/\List.length jD<=1000/\0<=aB (aA i)/\(∀ (q:aH),q ∈ rowAt C₃ wS->rsz (aH.x q)<=400000000)/\rsz (aH.x rF)<=100000000/\∀ (q:Rat),q ∈ List.map A₀ (rowAt C₃ dD)->rsz q<=100000000)/\True)/\∃ (i':{ i:Nat // i<=List.length x }),List.length x-aA i'<List.length x-aA i_3/\IntKind.wrap IntKind.i64 (aB (aA i_3)+1)=aB (aA i')/\List.set C₃ wS (pI jD (List.map A₀ (rowAt C₃ dD)) (aH.x rF) eP jD.length)=bG x.length (wdM x) (elm A₁ aT (aA i) (aA i'))/\cZ (rdp x (aA i))=cZ (rdp x (aA i))/\True) (∃ (i':{ i:Nat // i<=List.length x }),List.length x-aA i'<List.length x-aA i_3/\IntKind.wrap IntKind.i64 (aB (aA i_3)+1)=aB (aA i')/\bG x.length (wdM x) yN=bG x.length (wdM x) (elm A₁ aT (aA i) (aA i'))/\cZ (rdp x (aA i))=cZ (rdp x (aA i))/\True)) ((List.length (cZ (rdp x (aA i)))+List.length (aB (aA i)::aF Int)<=1000000000/\True)/\∃ (i':{ j:Nat // j<=Int.toNat n }),Int.toNat n-aA i'<Int.toNat n-aA i/\IntKind.wrap IntKind.i64 (aB (aA i)+1)=aB (aA i')/\bG x.length (wdM x) yN=bG x.length (wdM x) (rdm x (aA i'))/\cZ (rdp x (aA i))++aB (aA i)::aF Int=cZ (rdp x (aA i'))/\True))))) (True/\cZ (rdp x (aA i))=cZ (rdp x n.toNat)/\bG x.length (wdM x) (rdm x n.toNat)=bG x.length (wdM x) (rdm x (aA i))):=by
 obtain⟨hx,r1,r2,c1,c2,n0,n1,hok⟩:=hp
 have hZ:(⟨false,0,[],[]⟩:aH)=bF:=rfl
 dsimp only[aB,asT,aA,aF,Ty.den,Lf.den] at *
 simp only[hZ,Int.toNat_natCast,aC,aj,ah,jh,jg,aN,nameAt,bJ,eX,rowAt,zO,gy,bf]
 refine⟨hx,fun i=>⟨fun h1 k=>?_,fun h1=>?_⟩⟩
 ·have hj:i.1<n.toNat:=by omega
  have hjC:i.1<wdM x:=by omega
  have E:=iV x.length (DU x) i.1
  have hle:=E.le
  have zm:∀ a,a<x.length->∀ c,c<wdM x->rsz (rdm x i.1 a c)<=10000000:=hok i.1 (by omega)
  have zn:∀ a,a<x.length->∀ c,c<wdM x->rsz (rdm x (i.1+1) a c)<=10000000:=hok (i.1+1) (by omega)
  obtain⟨hk1,hk2,hk0⟩:=k.2
  have hw:∀ q:Nat,(q:Int)<=1000->IntKind.wrap .i64 ((q:Int)+1)=((q+1:Nat):Int):=fun q hq=>by rw[aP (by omega) (by omega)];rfl
  by_cases hkR:k.1<x.length
  ·have d1:decide ((k.1:Int)<(x.length:Int))=true:=uf (by omega)
   simp only[d1,jK hkR,fM hjC,ru,bf,cond_true,beq_self_eq_true,true_implies,jh,jg]
   have hz:=zm k.1 hkR i.1 hjC
   have hPR:(rdp x i.1).length<x.length:=by omega
   refine⟨⟨⟨by omega,by omega⟩,hkR,⟨by omega,by omega⟩,hjC,⟨rfl,by show rsz (rdm x i.1 k.1 i.1)<=_;omega⟩,fun _=>trivial⟩,fun h=>⟨⟨k.1+1,by omega,by omega,fun a h1 h2=>?_⟩,by simp only;omega,hw _ (by omega)⟩,fun h=>⟨fun h2=>?_,fun h2=>?_⟩⟩
   ·by_cases e:a=k.1
    ·have h:(sgn (rdm x i.1 k.1 i.1).num==0)=true:=h
     rw[e];exact nR.mp (by simpa using h)
    ·exact hk0 a h1 (by omega)
   ·have:(k.1:Int)=x.length:=by simpa using h2
    omega
   ·have hne:rdm x i.1 k.1 i.1≠0:=fun e=>by
     have h:(sgn (rdm x i.1 k.1 i.1).num==0)=false:=h
     rw[nR.mpr e] at h;cases h
    have hkk:kk x i.1=k.1:=a1O _ _ _ _ _ hk1 (by omega) hk0 (fun _=>hne)
    have hst:red x.length (DU x) (i.1+1)=(jC (rdm x i.1) (rdp x i.1).length k.1 i.1,rdp x i.1++[i.1]):=a2L hkk (by omega)
    have hS:∀ a,a<x.length->∀ d,d<wdM x->elm (scl (gB (rdm x i.1) (rdp x i.1).length k.1) (rdp x i.1).length i.1 (wdM x) (1 / rdm x i.1 k.1 i.1)) (rdp x i.1).length i.1 x.length a d=jC (rdm x i.1) (rdp x i.1).length k.1 i.1 a d:=b5u hne hk1 hkR E.rest
    have e1:rdm x (i.1+1)=jC (rdm x i.1) (rdp x i.1).length k.1 i.1:=vg Prod.fst hst
    have e2:rdp x (i.1+1)=rdp x i.1++[i.1]:=vg Prod.snd hst
    rw[e1] at zn
    rw[hkk]
    have hr:=hPR
    generalize hP:(rdp x i.1).length=r at *
    generalize hM:rdm x i.1=m at *
    have hsr:∀ d,gB m r k.1 r d=m k.1 d:=fun d=>by unfold gB;rw[jm rfl]
    have zs:∀ a,a<x.length->∀ d,d<wdM x->rsz (gB m r k.1 a d)<=10000000:=fun a ha d hd=>by
     unfold gB;split
     ·exact zm _ hkR d hd
     ·split
      ·exact zm _ hr d hd
      ·exact zm _ ha d hd
    simp only[swp_get hr,jK hkR,fM hjC,ru,bf]
    have z1:rsz ((1:Int):Rat)=1:=by decide +kernel
    have zi:rsz (1 / m k.1 i.1)<=10000001:=by
     have:=JJ 1 (m k.1 i.1) hne
     have z2:rsz 1=1:=by decide +kernel
     omega
    refine⟨⟨by omega,by omega,by omega,by omega,by omega,by omega,by omega,by omega,by omega,by omega,by omega,by omega⟩,⟨⟨by omega,by omega⟩,by omega,by omega,by omega,by omega,by omega,hjC,rfl,by show rsz ((1:Int):Rat)<=_;omega,by show rsz (m k.1 i.1)<=_;omega,hne⟩,⟨b2C _ hr hkR,by rw[b5x hr hkR,b2h],rfl⟩,fun c=>⟨⟨by omega,by omega,by omega⟩,fun h3=>?_,fun h3=>?_⟩⟩
    ·rw[jK hr] at h3 ⊢
     simp only[ru,bf] at h3 ⊢
     have hc:c.1<wdM x:=by omega
     rw[fM hc,c0Z _ _ (ay _),hsr]
     have z3:=zm k.1 hkR c.1 hc
     refine⟨⟨by omega,by omega,by omega,by omega,by omega,by omega,by omega,by omega,hc,rfl,⟨by omega,by show rsz (m k.1 c.1)<=_;omega⟩,by omega,by omega,hc⟩,⟨c.1+1,by have:=c.2;omega⟩,by simp only;omega,hw _ (by omega),?_⟩
     rw[<-jK (f:=scl (gB m r k.1) r i.1 c.1 (1 / m k.1 i.1)) hr]
     refine(a8g _ hr).trans (nG fun a _ b _=>?_)
     rw[b2g _ c.2]
     show _=if a=r then (if b=c.1 then _ else _) else _
     by_cases ea:a=r
     ·subst ea
      rw[jm rfl]
      by_cases eb:b=c.1
      ·rw[jm ⟨rfl,eb⟩,jm eb,hsr];rfl
      ·rw[ji (by simp[eb]),ji eb]
     ·rw[ji (by simp[ea]),ji ea]
    ·rw[jK hr] at h3
     simp only[ru,bf] at h3
     have hc:wdM x<=c.1:=by omega
     refine⟨?_,fun a=>⟨fun h4=>?_,fun h4=>?_⟩⟩
     ·rw[a9y]
      refine nG fun b _ d hd=>?_
      unfold scl
      by_cases e:b=r/\i.1<=d
      ·rw[jm ⟨e.1,e.2,by omega⟩,jm ⟨e.1,e.2,hd⟩]
      ·rw[ji (by omega),ji (by omega)]
     ·have ha:a.1<x.length:=by omega
      generalize hN:scl (gB m r k.1) r i.1 (wdM x) (1 / m k.1 i.1)=s at *
      have hrs:∀ d,d<wdM x->rsz (s r d)<=10000000:=fun d hd=>by
       have:=zn r hr d hd
       rw[<-hS r hr d hd,a1G] at this;exact this
      have hos:∀ b,b<x.length->b≠r->∀ d,d<wdM x->rsz (s b d)<=10000000:=fun b hb hbr d hd=>by
       rw[<-hN];unfold scl;rw[ji (by simp[hbr])];exact zs b hb d hd
      have has:∀ b,b<x.length->∀ d,d<wdM x->rsz (s b d)<=10000000:=fun b hb d hd=>by
       by_cases e:b=r
       ·rw[e];exact hrs d hd
       ·exact hos b hb e d hd
      simp only[jK ha,jK hr,fM hjC,ru,bf,b1c]
      simp only[b6R s (ay a.1),a1G]
      have z4:=has a.1 ha i.1 hjC
      refine⟨?_,fun h5=>?_,fun h5=>?_⟩
      ·refine⟨fun h=>⟨h,h,by omega,by omega⟩,fun h=>⟨h,ha⟩,fun h=>⟨h,h,by omega,by omega⟩,fun h=>⟨h,hjC⟩,fun h=>⟨h,rfl,by show rsz (s a.1 i.1)<=_;omega⟩,fun h=>h,fun h=>by rw[h];rfl⟩
      ·have har:a.1≠r:=fun e=>by
        rw[e,show (((r:Nat):Int) != (r:Int))=false by simp] at h5;cases h5
       refine⟨⟨by omega,by omega,ha,by omega,by omega,hr,by omega,by omega,ha,by omega,by omega,hjC,fun e=>har e.symm,sN.mpr fun q hq=>?_,rfl,fun q hq=>?_,trivial,by omega,by omega,fun q hq=>?_,by show rsz (s a.1 i.1)<=_;omega,fun q hq=>?_⟩,⟨a.1+1,by omega⟩,by simp only;omega,hw _ (by omega),?_⟩
       ·obtain⟨c,hc,rfl⟩:=FD hq;exact⟨rfl,trivial⟩
       ·obtain⟨c,hc,rfl⟩:=FD hq;rfl
       ·obtain⟨c,hc,rfl⟩:=FD hq;have:=has a.1 ha c hc;show rsz (s a.1 c)<=_;omega
       ·obtain⟨c,hc,rfl⟩:=uw.mp hq;have:=hrs c (vw.mp hc);show rsz (elm s r i.1 a.1 r c)<=_;rw[a1G];omega
       ·rw[b2y,a2V a.1]
        refine nG fun b _ d _=>?_
        rw[a9x s har]
        simp only[a1G]
        by_cases eb:b=a.1
        ·simp only[jm eb];rfl
        ·simp only[ji eb]
      ·refine⟨⟨a.1+1,by omega⟩,by simp only;omega,hw _ (by omega),?_⟩
       rw[a9w s]
       by_cases e:a.1=r
       ·exact .inl e
       ·right
        rw[show ((a.1:Int) != (r:Int))=true from jy.mpr (fun h=>e (by omega))] at h5
        have h5:(sgn (s a.1 i.1).num != 0)=false:=h5
        exact nR.mp (by simpa using h5)
     ·have ha:a.1=x.length:=by have:=a.2;omega
      have hl:=(PI x.length (DU x) i.1).1
      refine⟨by simp;omega,⟨i.1+1,by omega⟩,by simp only;omega,hw _ (by omega),?_,?_⟩
      ·rw[ha]
       show _=bG _ _ (rdm x (i.1+1))
       rw[e1];exact nG fun b hb d hd=>hS b hb d hd
      ·show _=cZ (rdp x (i.1+1))
       rw[e2];simp[cZ]
  ·have d1:decide ((k.1:Int)<(x.length:Int))=false:=ny (by omega)
   have hkl:k.1=x.length:=by omega
   have hkk:kk x i.1=x.length:=by rw[<-hkl];exact a1O _ _ _ _ _ hk1 (by omega) hk0 (fun h=>by omega)
   have hst:red x.length (DU x) (i.1+1)=red x.length (DU x) i.1:=a2K hkk
   simp only[d1,cond_false]
   refine⟨⟨fun h=>(by cases h),fun h=>(by cases h),fun h=>(by cases h),fun h=>(by cases h),fun h=>(by cases h),fun h=>(by cases h),fun h=>absurd h (by omega)⟩,fun h=>(by cases h),fun _=>⟨fun _=>⟨⟨i.1+1,by omega⟩,by simp only;omega,hw _ (by omega),?_,?_⟩,fun h=>?_⟩⟩
   ·show _=bG _ _ (red x.length (DU x) (i.1+1)).1
    rw[hst]
   ·show _=cZ (red x.length (DU x) (i.1+1)).2
    rw[hst]
   ·rw[hkl] at h;simp at h
 ·have:i.1=n.toNat:=by have:=i.2;omega
  rw[this];exact⟨rfl,rfl⟩
end Go.Proofs.YtbkocjmmbkifjaaGreat
