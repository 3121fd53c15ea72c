/-
  Lemmas for the theorem veight28_holds, part 28 of 32.
-/
import Derived.Carry
import Derived.Test.YtbkocjmmbkifjaaGreatQg26
import Derived.Test.YtbkocjmmbkifjaaGreatQg27
namespace Go.Proofs.YtbkocjmmbkifjaaGreat
open Go Go.RowKit
section
open Go Go.ChangeShapes Go.WideShapes Go.ChangeAt Go.RowKit Go.Joins
set_option linter.unusedVariables false
set_option linter.unusedSimpArgs false
set_option maxRecDepth 100000
theorem laidOut:laidOutB Tryz.prog=true:=by kernel_rfl
theorem a6W:Tryz.prog.cellsOf 47=4:=by kernel_rfl
theorem a6V:Tryz.prog.cellsOf 45=2:=by kernel_rfl
theorem a5e:Tryz.prog.cellsOf 43=1:=by kernel_rfl
theorem a5d:Tryz.prog.cellsOf 4=1:=by kernel_rfl
theorem a6X:Tryz.prog.cellsOf 148=1:=by kernel_rfl
def b3F (q:aH):Prop:=∀ K,1<=K->q.n<=K->q.m<=K->rsz q.x<=K
def b9a {α:Type} (p:α->Prop) (xs:List α):Prop:=∀ x ∈ xs,p x
def good:(t:Ty)->t.den->Prop
 | .bool,_=>True
 | .int k,n=>(Lit.int k n).wf=true
 | .lf .iM,q=>b3F q
 | .lf _,_=>True
 | .list t,xs=>List.length (α:=t.den) xs<=9223372036854775807/\b9a (good t) xs
 | .arr n t,xs=>List.length (α:=t.den) xs=n/\b9a (good t) xs
 | .pair a b,x=>good a x.1/\good b x.2
 | .unit,_=>True
 | .ref _,_=>True
 | .clo _ _,_=>True
 | .nls _,_=>True
noncomputable def dV:Ty->Option TypeId->List Field->Nat->Bool
 | .pair a b,none,f::fs,o=>f.offset==o&&Tryz.prog.cellsOf f.type==a.n&&dV a (some f.type) [] 0&&dV b none fs (o+a.n)
 | .unit,none,[],_=>true
 | .bool,some T,_,_=>match Tryz.prog.underlying T with
  | some .bool=>true
  | _=>false
 | .int k,some T,_,_=>match Tryz.prog.underlying T with
  | some (.int k')=>k==k'
  | _=>false
 | .lf .iM,some T,_,_=>T==47
 | .list t,some T,_,_=>match Tryz.prog.underlying T with
  | some (.slice e)=>Tryz.prog.cellsOf e==t.n&&decide (0<t.n)&&dV t (some e) [] 0
  | _=>false
 | .arr n t,some T,_,_=>match Tryz.prog.underlying T with
  | some (.array m e)=>m==n&&Tryz.prog.cellsOf e==t.n&&Tryz.prog.cellsOf T==n*t.n&&dV t (some e) [] 0
  | _=>false
 | .pair a b,some T,_,_=>match Tryz.prog.underlying T with
  | some (.struct fs)=>Tryz.prog.cellsOf T==a.n+b.n&&(match fs.toList with
   | f::fs'=>f.offset==0&&Tryz.prog.cellsOf f.type==a.n&&dV a (some f.type) [] 0&&dV b none fs' a.n
   | []=>false)
  | _=>false
 | _,_,_,_=>false
section
variable {H:Type} {enc:TypeId × Value->H} {W:World}
theorem a6I {a:Addr} {v:Value} (h:W.cell? a=some v):a=⟨a.block,a.off,none⟩/\a.block<W.heap.size:=by
 have h1:=World.cell?_spot h
 refine⟨by obtain⟨b,o,s⟩:=a;cases h1;rfl,?_⟩
 exact World.block_lt_of_cell? W a h
theorem b4c {n:Nat} {cs:List Value} {y:DataW H × List MemPlace} (h:DataW.trod enc Tryz.prog W 0 (fun _=>true) true n 43 cs=some y):∃ p l c,cs=[.slice p l.length c]/\Rd W (.slice p l.length c) l/\∀ g ∈ l,g<4294967296:=by
 rcases open_ints (k:=.u32) og Tryz.underlying148 a6X h with⟨rfl,_⟩|⟨a,len,cap,zs,rfl,_,h1,h2,h3,_,h4,h5⟩
 ·exact⟨none,[],0,rfl,.inl ⟨none,rfl,rfl⟩,by simp⟩
 ·simp at h3
  by_cases hc:cap=0
  ·have hl:len=0:=by omega
   subst hc hl
   exact⟨some a,[],0,rfl,.inl ⟨_,rfl,rfl⟩,by simp⟩
  ·obtain⟨ha,hb⟩:=a6I (h4 0 (by omega))
   have ha:a=⟨a.block,a.off,none⟩:=by simpa [Addr.add] using ha
   have hb:a.block<W.heap.size:=by simpa [Addr.add] using hb
   have hz:∀ n ∈ zs,0<=n/\n<4294967296:=fun n hn=>by
    have:=h5 n hn
    simp[Lit.wf,IntKind.min,IntKind.max,IntKind.signed,IntKind.bits] at this
    omega
   have hL:((zs.take len).map Int.toNat).length=len:=by simp;omega
   refine⟨some a,(zs.take len).map Int.toNat,cap,by rw[hL],.inr ⟨a.block,a.off,cap,by rw[<-ha],by rw[hL];exact h1,by unfold maxLen at h2;omega,hb,fun i hi=>?_⟩,fun g hg=>?_⟩
   ·rw[hL] at hi
    have hi':i<zs.length:=by omega
    have hc:=h4 i hi'
    have hm:zs[i] ∈ zs:=wz hi'
    have:=hz _ hm
    have hg:((gr ((zs.take len).map Int.toNat) i:Nat):Int)=zs.getD i 0:=by
     have e1:gr ((zs.take len).map Int.toNat) i=(zs[i]).toNat:=by simp[gr,List.getD,hi,hi']
     have e2:zs.getD i 0=zs[i]:=by simp[List.getD,hi']
     rw[e1,e2];omega
    rw[hg,<-hc,ha]
    rw[add_plain]
   ·obtain⟨x,hx,rfl⟩:=qm.1 hg
    have:=hz x (Bc hx)
    omega
theorem c2u {α:Type} {l:List α} (h:l.length=4):∃ a b c d,l=[a,b,c,d]:=by
 match l,h with
 | [a,b,c,d],_=>exact⟨a,b,c,d,rfl⟩
theorem b5K {n:Nat} {cs:List Value} {y:DataW H × List MemPlace} (h:DataW.trod enc Tryz.prog W 0 (fun _=>true) true n 47 cs=some y):∃ x:aH,Lf.rep W cs .iM x/\b3F x:=by
 obtain⟨xs,m,_,_,hl,hlen,hf⟩:=DataW.trod_struct Tryz.underlying47 h
 rw[a6W] at hl
 obtain⟨c0,c1,c2,c3,rfl⟩:=c2u hl
 match xs,hlen with
 | [y0,y1],_ =>
 have k0:=hf 0 _ rfl
 have k1:=hf 1 _ rfl
 obtain⟨xs0,m0,_,_,_,hlen0,hf0⟩:=DataW.trod_struct Tryz.underlying45 k0
 obtain⟨xs1,m1,_,_,_,hlen1,hf1⟩:=DataW.trod_struct Tryz.underlying45 k1
 match xs0,hlen0,xs1,hlen1 with
 | [z0,z1],_,[z2,z3],_ =>
 have a0:=hf0 0 _ rfl
 have a1:=hf0 1 _ rfl
 have a2:=hf1 0 _ rfl
 have a3:=hf1 1 _ rfl
 simp[a6V,a5d,a5e] at a0 a1 a2 a3
 obtain⟨b,e0,_⟩:=DataW.trod_bool Tryz.underlying4 a0
 obtain⟨d,e2,_⟩:=DataW.trod_bool Tryz.underlying4 a2
 simp at e0 e2
 subst e0 e2
 obtain⟨p,l,c,e1,r1,l1⟩:=b4c a1
 obtain⟨q,k,e,e3,r3,l3⟩:=b4c a3
 simp at e1 e3
 subst e1 e3
 have hq:kS W (.agg #[.bool b,.slice p l.length c,.bool d,.slice q k.length e]) _ _:=⟨_,_,_,_,_,_,_,_,rfl,⟨b,_,l,rfl,r1,l1,rfl,rfl⟩,⟨d,_,k,rfl,r3,l3,rfl,rfl⟩,rfl,rfl⟩
 exact⟨⟨_,_,l,k⟩,⟨b,p,c,d,q,e,rfl,hq,r1,r3⟩,fun K h1 h2 h3=>hq.YJ ⟨b,p,_,c,d,q,_,e,rfl,h2,h3⟩ h1⟩
theorem XU {α:Type} {Q:Nat->α->Prop}:∀ n,(∀ i,i<n->∃ x,Q i x)->∃ xs:List α,xs.length=n/\∀ i (h:i<xs.length),Q i xs[i]
 | 0,_=>⟨[],rfl,fun i h=>by simp at h⟩
 | n+1,h=>by
  obtain⟨xs,h1,h2⟩:=XU n (fun i hi=>h i (by omega))
  obtain⟨x,hx⟩:=h n (by omega)
  refine⟨xs++[x],by simp[h1],fun i hi=>?_⟩
  by_cases e:i<xs.length
  ·rw[List.getElem_append_left e];exact h2 i e
  ·have:i=n:=by simp at hi;omega
   subst this
   rw[List.getElem_append_right (by omega)]
   simpa using hx
theorem wW {α:Type} {R:List Value->α->Prop} {b o ce:Nat}:∀ (xs:List α) (k:Nat),(∀ i (h:i<xs.length),∃ c,c.length=ce/\(∀ j v,c[j]?=some v->W.cell? ⟨b,o+((k+i)*ce+j),none⟩=some v)/\R c xs[i])->∃ ds,(∀ j v,ds[j]?=some v->W.cell? ⟨b,o+(k*ce+j),none⟩=some v)/\chunks R ds xs
 | [],k,_=>⟨[],fun j v h=>by simp at h,rfl⟩
 | x::xs,k,h=>by
  obtain⟨c,h1,h2,h3⟩:=h 0 (by simp)
  obtain⟨ds,h4,h5⟩:=wW xs (k+1) (fun i hi=>by
   obtain⟨c,h1,h2,h3⟩:=h (i+1) (by simpa using hi)
   exact⟨c,h1,fun j v hj=>by rw[show k+1+i=k+(i+1) by omega];exact h2 j v hj,h3⟩)
  refine⟨c++ds,fun j v hj=>?_,c,ds,rfl,h3,h5⟩
  by_cases e:j<c.length
  ·rw[Ai e] at hj
   exact h2 j v hj
  ·rw[List.getElem?_append_right (by omega)] at hj
   have:=h4 _ _ hj
   rw[Am,Nat.one_mul] at this
   rwa [show k*ce+ce+(j-c.length)=k*ce+j by omega] at this
theorem xP {α:Type} {R:List Value->α->Prop} {ce:Nat}:∀ (xs:List α) (cs:List Value),cs.length=xs.length*ce->(∀ i (h:i<xs.length),R ((cs.drop (i*ce)).take ce) xs[i])->chunks R cs xs
 | [],cs,h,_=>qj (by simpa using h)
 | x::xs,cs,h,hR=>by
  rw[List.length_cons,yg] at h
  refine⟨cs.take ce,cs.drop ce,(Ad ce cs).symm,?_,xP (ce:=ce) xs (cs.drop ce) (by rw[Ae];omega) (fun i hi=>?_)⟩
  ·have:=hR 0 (by simp)
   rwa [Nat.zero_mul,List.drop_zero] at this
  ·have:=hR (i+1) (by simpa using hi)
   rwa [yg,Ej,<-Dv] at this
theorem a6Y {a:Addr} {n:Nat} {cs:List Value} (h:W.cells? 0 a n=some cs):cs.length=n/\∀ j v,cs[j]?=some v->W.cell? (a.add j)=some v:=by
 unfold World.cells? at h
 rw[jl (uw _)] at h
 refine⟨by simpa using mapM_some_length h,fun j v hj=>?_⟩
 have hl:cs.length=n:=by simpa using mapM_some_length h
 have hjn:j<n:=by rw[<-hl];exact(oz.1 hj).1
 have:=mapM_some_get h j j (by simp[hjn])
 rw[hj] at this
 exact this
abbrev a1D (W:World) (q:Nat):Prop:=q<W.heap.size
theorem kN:(t:Ty)->(T:Option TypeId)->(fs:List Field)->(o:Nat)->dV t T fs o=true->(n:Nat)->(cs:List Value) ->
  (∀ T',T=some T'->(∃ y,DataW.trod enc Tryz.prog W 0 (fun _=>true) true n T' cs=some y)->∃ x:t.den,rep (a1D W) W t cs x/\good t x) /\
  (T=none->cs.length=o+t.n->(∀ f ∈ fs,∃ y,DataW.trod enc Tryz.prog W 0 (fun _=>true) true n f.type ((cs.drop f.offset).take (Tryz.prog.cellsOf f.type))=some y)->∃ x:t.den,rep (a1D W) W t (cs.drop o) x/\good t x)
 | .bool,some T,fs,o,hm,n,cs=>by
  refine⟨fun T' e ⟨y,hy⟩=>?_,fun e=>(by cases e)⟩
  cases e
  unfold dV at hm
  split at hm<;>first|(cases hm;done)|skip
  rename_i hu
  obtain⟨b,rfl,_⟩:=DataW.trod_bool hu hy
  exact⟨b,rfl,trivial⟩
 | .int k,some T,fs,o,hm,n,cs=>by
  refine⟨fun T' e ⟨y,hy⟩=>?_,fun e=>(by cases e)⟩
  cases e
  unfold dV at hm
  split at hm<;>first|(cases hm;done)|skip
  rename_i k' hu
  have hk:k=k':=by simpa using hm
  subst hk
  obtain⟨b,rfl,_,hw⟩:=DataW.trod_int hu hy
  exact⟨b,rfl,hw⟩
 | .lf .iM,some T,fs,o,hm,n,cs=>by
  refine⟨fun T' e ⟨y,hy⟩=>?_,fun e=>(by cases e)⟩
  cases e
  have hT:T=47:=by unfold dV at hm;simpa using hm
  subst hT
  exact b5K hy
 | .list t,some T,fs,o,hm,n,cs=>by
  refine⟨fun T' e ⟨y,hy⟩=>?_,fun e=>(by cases e)⟩
  cases e
  unfold dV at hm
  split at hm<;>first|(cases hm;done)|skip
  rename_i e hu
  simp only[au,jf,ak] at hm
  obtain⟨⟨hc,hp⟩,hmt⟩:=hm
  rcases DataW.trod_slice hu hy with⟨rfl,_⟩|⟨a,len,cap,elems,rest,m,_,rfl,_,_,h1,h2,h3,h4,_,_⟩
  ·exact⟨([]:List t.den),⟨none,0,rfl,ay _,by omega,.inl rfl⟩,by show 0<=_;omega,fun x hx=>by cases hx⟩
  ·rw[hc] at h4
   obtain⟨xs,hxl,hxs⟩:=XU (Q:=fun i (x:t.den)=>(∃ c,c.length=t.n/\(∀ j v,c[j]?=some v->W.cell? ((a.add (i*t.n)).add j)=some v)/\rep (a1D W) W t c x)/\good t x) len (fun i hi=>by
    have h5:=h4 i hi
    rw[dw (by omega),Option.bind_eq_some_iff] at h5
    obtain⟨c,h6,h7⟩:=h5
    obtain⟨x,h8,h9⟩:=(kN t (some e) [] 0 hmt m c).1 e rfl ⟨_,h7⟩
    obtain⟨k1,k2⟩:=a6Y h6
    exact⟨x,⟨c,k1,k2,h8⟩,h9⟩)
   have hcap:cap<=9223372036854775807:=by unfold maxLen at h2;omega
   refine⟨xs,?_,⟨?_,?_⟩⟩
   ·refine⟨some a,cap,by rw[show List.length (α:=t.den) xs=len from hxl],by rw[show List.length (α:=t.den) xs=len from hxl];exact h1,hcap,?_⟩
    by_cases h0:len=0
    ·exact .inl (qj (by rw[hxl,h0]))
    ·right
     obtain⟨⟨c,k1,k2,_⟩,_⟩:=hxs 0 (by omega)
     obtain⟨v,hv⟩:∃ v,c[0]?=some v:=⟨_,dw (by omega)⟩
     have hcell:=k2 0 v hv
     rw[Nat.zero_mul,show (a.add 0).add 0=a by simp[Addr.add]] at hcell
     obtain⟨ha,hb⟩:=a6I hcell
     obtain⟨ds,d1,d2⟩:=wW (W:=W) (R:=rep (a1D W) W t) (b:=a.block) (o:=a.off) (ce:=t.n) xs 0 (fun i hi=>by
      obtain⟨⟨c,k1,k2,k3⟩,_⟩:=hxs i hi
      refine⟨c,k1,fun j v hj=>?_,k3⟩
      have:=k2 j v hj
      rw[ha,add_plain,add_plain] at this
      rw[tu,<-Nat.add_assoc];exact this)
     exact⟨a.block,a.off,ds,by rw[<-ha],hb,fun j v hj=>by have:=d1 j v hj;rwa [Nat.zero_mul,tu] at this,d2⟩
   ·show xs.length<=_;omega
   ·intro x hx
    obtain⟨i,hi,rfl⟩:=Cm hx
    exact(hxs i hi).2
 | .arr k t,some T,fs,o,hm,n,cs=>by
  refine⟨fun T' e ⟨y,hy⟩=>?_,fun e=>(by cases e)⟩
  cases e
  unfold dV at hm
  split at hm<;>first|(cases hm;done)|skip
  rename_i m e hu
  simp only[au,jf] at hm
  obtain⟨⟨⟨hk,hc⟩,hC⟩,hmt⟩:=hm
  subst hk
  obtain⟨ys,q,_,_,hl,hyl,hys⟩:=DataW.trod_array hu hy
  rw[hC] at hl
  rw[hc] at hys
  obtain⟨xs,hxl,hxs⟩:=XU (Q:=fun i (x:t.den)=>rep (a1D W) W t ((cs.drop (i*t.n)).take t.n) x/\good t x) m (fun i hi=>by
   have h5:=hys i hi
   rw[dw (by omega)] at h5
   exact(kN t (some e) [] 0 hmt q _).1 e rfl ⟨_,h5⟩)
  refine⟨xs,⟨hxl,xP (ce:=t.n) xs cs (by rw[hl,hxl]) (fun i hi=>(hxs i hi).1)⟩,hxl,fun x hx=>?_⟩
  obtain⟨i,hi,rfl⟩:=Cm hx
  exact(hxs i hi).2
 | .pair a b,some T,fs,o,hm,n,cs=>by
  refine⟨fun T' e ⟨y,hy⟩=>?_,fun e=>(by cases e)⟩
  cases e
  unfold dV at hm
  split at hm<;>first|(cases hm;done)|skip
  rename_i gs hu
  simp only[au,jf] at hm
  obtain⟨hC,hm⟩:=hm
  split at hm<;>first|(cases hm;done)|skip
  rename_i f fs' hgs
  simp only[au,jf] at hm
  obtain⟨⟨⟨ho,hc⟩,hma⟩,hmb⟩:=hm
  obtain⟨ys,q,_,_,hl,hyl,hys⟩:=DataW.trod_struct hu hy
  rw[hC] at hl
  have hget:∀ (i:Nat) (g:Field),gs[i]?=some g->∃ y,DataW.trod enc Tryz.prog W 0 (fun _=>true) true q g.type ((cs.drop g.offset).take (Tryz.prog.cellsOf g.type))=some y:=fun i g hg=>by
   have hi:i<gs.size:=(Ag.1 hg).1
   have:=hys i g hg
   rw[dw (by omega)] at this
   exact⟨_,this⟩
  have h0:=hget 0 f (by rw[<-Array.getElem?_toList,hgs];rfl)
  rw[ho,hc,List.drop_zero] at h0
  obtain⟨x,hx,gx⟩:=(kN a (some f.type) [] 0 hma q _).1 _ rfl h0
  obtain⟨z,hz,gz⟩:=(kN b none fs' a.n hmb q cs).2 rfl hl (fun g hg=>by
   obtain⟨i,hi⟩:=List.getElem?_of_mem hg
   exact hget (i+1) g (by rw[<-Array.getElem?_toList,hgs];exact hi))
  exact⟨(x,z),⟨_,_,(Ad a.n cs).symm,hx,hz⟩,gx,gz⟩
 | .pair a b,none,[],o,hm,n,cs=>by simp[dV] at hm
 | .pair a b,none,f::fs',o,hm,n,cs=>by
  refine⟨fun T' e=>(by cases e),fun _ hl hg=>?_⟩
  unfold dV at hm
  simp only[au,jf] at hm
  obtain⟨⟨⟨ho,hc⟩,hma⟩,hmb⟩:=hm
  have h0:=hg f (lg ..)
  rw[ho,hc] at h0
  obtain⟨x,hx,gx⟩:=(kN a (some f.type) [] 0 hma n _).1 _ rfl h0
  obtain⟨z,hz,gz⟩:=(kN b none fs' (o+a.n) hmb n cs).2 rfl (by rw[hl];show o+(a.n+b.n)=_;omega) (fun g hg'=>hg g (jw _ hg'))
  refine⟨(x,z),⟨(cs.drop o).take a.n,cs.drop (o+a.n),?_,hx,hz⟩,gx,gz⟩
  rw[<-Dv,Ad]
 | .unit,none,[],o,hm,n,cs=>by
  refine⟨fun T' e=>(by cases e),fun _ hl _=>⟨(),?_,trivial⟩⟩
  show cs.drop o=[]
  exact List.drop_eq_nil_of_le (by rw[hl];exact ay _)
 | .unit,none,_::_,o,hm,n,cs=>by simp[dV] at hm
 | .unit,some _,_,_,hm,_,_=>by simp[dV] at hm
 | .bool,none,_,_,hm,_,_=>by simp[dV] at hm
 | .int _,none,_,_,hm,_,_=>by simp[dV] at hm
 | .lf .iM,none,_,_,hm,_,_=>by simp[dV] at hm
 | .lf .rat,_,_,_,hm,_,_=>by simp[dV] at hm
 | .lf .big,_,_,_,hm,_,_=>by simp[dV] at hm
 | .lf .CZ,_,_,_,hm,_,_=>by simp[dV] at hm
 | .lf .str,_,_,_,hm,_,_=>by simp[dV] at hm
 | .list _,none,_,_,hm,_,_=>by simp[dV] at hm
 | .arr _ _,none,_,_,hm,_,_=>by simp[dV] at hm
 | .ref _,_,_,_,hm,_,_=>by simp[dV] at hm
 | .clo _ _,_,_,_,hm,_,_=>by simp[dV] at hm
 | .nls _,_,_,_,hm,_,_=>by simp[dV] at hm
theorem b4q {t:Ty} {T:TypeId} {v:Value} {d:DataW H} {p:List MemPlace} {b0:Nat} (hm:dV t (some T) [] 0=true) (hv:Value.okWide Tryz.prog W .any b0 T v) (h:DataW.Trod enc Tryz.prog W 0 (fun _=>true) true T v d p) :
  ∃ x:t.den,iV (a1D W) W t v x/\good t x:=by
 obtain⟨n,hn⟩:=h
 obtain⟨x,hx,gx⟩:=(kN t (some T) [] 0 hm n v.cells.toList).1 T rfl ⟨_,hn⟩
 refine⟨x,⟨v.cells.toList,?_,hx⟩,gx⟩
 cases t with
 | bool =>
  unfold dV at hm
  split at hm<;>first|(cases hm;done)|skip
  rename_i hu
  simp only[Value.okWide,hu,Cell.okWide,Cell.ok] at hv
  split at hv<;>simp_all [Value.cells,Ty.toV,Ty.agg]
 | int k =>
  unfold dV at hm
  split at hm<;>first|(cases hm;done)|skip
  rename_i k' hu
  simp only[Value.okWide,hu,Cell.okWide,Cell.ok] at hv
  split at hv<;>simp_all [Value.cells,Ty.toV,Ty.agg]
 | lf l =>
  cases l<;>try (simp[dV] at hm;done)
  have hT:T=47:=by unfold dV at hm;simpa using hm
  subst hT
  simp only[Value.okWide,Tryz.underlying47] at hv
  obtain⟨cs,rfl,_⟩:=hv
  simp[Ty.toV,Ty.agg,Lf.agg,Value.cells]
 | list t =>
  unfold dV at hm
  split at hm<;>first|(cases hm;done)|skip
  rename_i e hu
  simp only[Value.okWide,hu,Cell.okWide,Cell.ok] at hv
  split at hv<;>simp_all [Value.cells,Ty.toV,Ty.agg]
 | arr k t =>
  unfold dV at hm
  split at hm<;>first|(cases hm;done)|skip
  rename_i m e hu
  simp only[Value.okWide,hu] at hv
  obtain⟨cs,rfl,_⟩:=hv
  simp[Ty.toV,Ty.agg,Value.cells]
 | pair a b =>
  unfold dV at hm
  split at hm<;>first|(cases hm;done)|skip
  rename_i gs hu
  simp only[Value.okWide,hu] at hv
  obtain⟨cs,rfl,_⟩:=hv
  simp[Ty.toV,Ty.agg,Value.cells]
 | _=>simp[dV] at hm
end
end
set_option maxRecDepth 100000
set_option maxHeartbeats 4000000
set_option linter.unusedVariables false
set_option linter.unusedSimpArgs false
theorem b1m {P:Program} {f:FuncId} {args res:List Ty} {pre:(nest args).den->Prop} {fn fn':(nest args).den->(nest res).den} {d d':∀ x,Dc (pre x)} (h:aI P f (@Ctr.mk args res pre fn d)) (e:∀ x,pre x->fn x=fn' x):aI P f (@Ctr.mk args res pre fn' d'):=fun F w vs x a b hp=>by
 have h2:=h F w vs x a b hp
 rw[show (@Ctr.mk args res pre fn d).fn x=fn' x from e x hp] at h2
 exact h2
theorem b0e:aI Tryz.prog 159 b9D:=by
 refine aO (nil0.ad a4x) ⟨[],[],[]⟩ Tryz.func159 rfl (by decide) (fun x=>[.inv {k:Nat // k<=(show LQ' from x.1).length/\(show LQ' from x.1).take k=(show LQ' from x.2.1).take k} (fun k=>[(5,.val tI (k.1:Int))]) (fun k=>[]) (fun k=>(show LQ' from x.1).length-k.1) ⟨0,by omega,rfl⟩ (fun _=>[])]) (fun x hp=>?_)
 obtain⟨x,y,u⟩:=x
 change List Rat at x
 change List Rat at y
 refine aY (ifB (aB x.length != aB y.length) (True/\false=decide (x=y)/\True) ((asT Int 0=0/\True)/\∀ (i:{ k:Nat // k<=List.length x/\List.take k x=List.take k y }),asT Bool true=true/\ifB (decide (aB (aA i)<aB x.length)) ((0<=aB (aA i)/\aB (aA i)<aB x.length/\0<=aB (aA i)/\aB (aA i)<aB y.length/\s19 (List.getD x (aB (aA i)).toNat 0) (List.getD y (aB (aA i)).toNat 0)/\True)/\ifB (!decide (List.getD x (aB (aA i)).toNat 0=List.getD y (aB (aA i)).toNat 0)) (True/\false=decide (x=y)/\True) (∃ (i':{ k:Nat // k<=List.length x/\List.take k x=List.take k y }),List.length x-aA i'<List.length x-aA i/\IntKind.wrap IntKind.i64 (aB (aA i)+1)=aB (aA i')/\True)) (True/\true=decide (x=y)/\True))) (by kernel_rfl) ?_
 have hZ:(⟨false,0,[],[]⟩:aH)=bF:=rfl
 dsimp only[aB,asT,aA,aG,Ty.den,Lf.den] at *
 simp only[hZ,Int.toNat_natCast,aF,ak,ah,jo,jm,aN,nameAt,bJ,iU,tC,rowAt,iq,dh]
 have hp:szL x/\szL y:=hp
 obtain⟨⟨q1,q2⟩,q3,q4⟩:=hp
 refine⟨fun h=>?_,fun h i=>⟨fun h1=>?_,fun h1=>?_⟩⟩
 ·have h:(x.length:Int)≠y.length:=by simpa using h
  exact(qo (fun e=>h (by rw[e]))).symm
 ·have hl:x.length=y.length:=by
   have:(x.length:Int)=y.length:=by simpa using h
   omega
  have hi:i.1<x.length:=by omega
  have z1:rsz (x.getD i.1 0)<=100000000:=dB q2 hi
  have z2:rsz (y.getD i.1 0)<=100000000:=dB q4 (by omega)
  refine⟨⟨by omega,by omega,by omega,by omega,⟨by omega,by omega⟩⟩,fun h2=>?_,fun h2=>⟨⟨i.1+1,by omega,?_⟩,by simp only;omega,by rw[aS (by omega) (by omega)];rfl⟩⟩
  ·have h2:x.getD i.1 0≠y.getD i.1 0:=by simpa using h2
   exact(qo (fun e=>h2 (xg (fun l=>l.getD i.1 0) e))).symm
  ·have h2:x.getD i.1 0=y.getD i.1 0:=by simpa using h2
   exact RH hi (by omega) i.2.2 h2
 ·have hl:x.length=y.length:=by
   have:(x.length:Int)=y.length:=by simpa using h
   omega
  have h3:=i.2.2
  rw[jv (by omega),jv (by omega)] at h3
  exact(xk h3).symm
theorem b0t:aI Tryz.prog 73 b9D:=by
 refine aO (nil0.ad b0e) ⟨[],[],[]⟩ Tryz.func73 rfl (by decide) (fun x=>[]) (fun x hp=>?_)
 obtain⟨x,y,u⟩:=x
 change List Rat at x
 change List Rat at y
 refine aY (((szL x/\szL y)/\True)/\True/\decide (x=y)=decide (x=y)/\True) (by kernel_rfl) ?_
 exact⟨⟨hp,trivial⟩,trivial,rfl,trivial⟩
noncomputable def b9o:Ctr:=⟨[tM,tM,.clo 73 .unit],[tB],fun x=>LD x.1/\LD x.2.1,fun x=>(decide ((show MQ from x.1)=(show MQ from x.2.1)),())⟩
theorem a7x:aI Tryz.prog 72 b9o:=by
 refine aO (nil0.ad b0t) ⟨[],[],[]⟩ Tryz.func72 rfl (by decide) (fun x=>[.inv {k:Nat // k<=(show MQ from x.1).length/\(show MQ from x.1).take k=(show MQ from x.2.1).take k} (fun k=>[(17,.val tI (k.1:Int))]) (fun k=>[]) (fun k=>(show MQ from x.1).length-k.1) ⟨0,by omega,rfl⟩ (fun _=>[])]) (fun x hp=>?_)
 obtain⟨x,y,c,u⟩:=x
 change List (List Rat) at x
 change List (List Rat) at y
 change Unit at c
 refine aY (ifB (aB x.length != aB y.length) (True/\false=decide (x=y)/\True) ((asT Int 0=0/\True)/\∀ (i:{ k:Nat // k<=List.length x/\List.take k x=List.take k y }),asT Bool true=true/\ifB (decide (aB (aA i)<aB x.length)) ((0<=aB (aA i)/\aB (aA i)<aB x.length/\True)/\(0<=aB (aA i)/\aB (aA i)<aB y.length/\True)/\((szL (List.getD x (aB (aA i)).toNat (aG Rat))/\szL (List.getD y (aB (aA i)).toNat (aG Rat)))/\True)/\ifB (!decide (List.getD x (aB (aA i)).toNat (aG Rat)=List.getD y (aB (aA i)).toNat (aG Rat))) (True/\false=decide (x=y)/\True) (∃ (i':{ k:Nat // k<=List.length x/\List.take k x=List.take k y }),List.length x-aA i'<List.length x-aA i/\IntKind.wrap IntKind.i64 (aB (aA i)+1)=aB (aA i')/\True)) (True/\true=decide (x=y)/\True))) (by kernel_rfl) ?_
 have hZ:(⟨false,0,[],[]⟩:aH)=bF:=rfl
 try simp only[aF,ak,ah]
 try dsimp only[aB,asT,aA,aG,Ty.den,Lf.den] at *
 try simp only[hZ,Int.toNat_natCast,aF,ak,ah,jo,jm,iq,dh]
 try simp only[cZ,cO,List.all_cons,List.all_nil,jr,gy,iw,jf,ni,ne_eq,au,bg,eu,ig,jh,qh,jy,ql,jo,jm,je,dn,List.length_cons,List.length_nil]
 have hp:LD x/\LD y:=hp
 obtain⟨⟨q1,q2⟩,q3,q4⟩:=hp
 refine⟨fun h=>(qo fun e=>h (by rw[e])).symm,fun h i=>⟨fun h1=>⟨⟨by omega,h1⟩,⟨by omega,by omega⟩,⟨dB q2 (by omega),dB q4 (by omega)⟩,fun h2=>(qo fun e=>vk h2 (xg (fun l=>l.getD i.1 []) e)).symm,fun h2=>⟨⟨i.1+1,by omega,?_⟩,by simp only;omega,by rw[aS (by omega) (by omega)];rfl⟩⟩,fun h1=>?_⟩⟩
 ·exact RH (d:=[]) (by omega) (by omega) i.2.2 (vw h2)
 ·have h3:=i.2.2
  rw[jv (by omega),jv (by omega)] at h3
  exact(xk h3).symm
theorem a6m:aI Tryz.prog 14 c1O:=by
 refine aO (nil0.ad a7x) ⟨[],[],[]⟩ Tryz.func14 rfl (by decide) (fun x=>[]) (fun x hp=>?_)
 obtain⟨x,y,u⟩:=x
 change List (List Rat) at x
 change List (List Rat) at y
 refine aY (((LD x/\LD y)/\True)/\True/\decide (x=y)=decide (x=y)/\True) (by kernel_rfl) ?_
 exact⟨⟨hp,trivial⟩,trivial,rfl,trivial⟩
set_option maxHeartbeats 1000000
def EG (x:MR):Mt:=fun i j=>((x.getD i []).getD j bF).x
theorem ZX {R C:Nat} {f:Mt} {i j:Nat} (hi:i<R) (hj:j<C):EG (bM R C f) i j=f i j:=by
 show (((bM R C f).getD i []).getD j bF).x=_
 rw[jR hi,iR hj];rfl
def a9F (x:MR) (n:Int):Prop:=x=bM x.length (wdM x) (EG x)/\1<=x.length/\x.length<=1000/\1<=wdM x/\wdM x<=1000/\0<=n/\n.toNat<=wdM x/\YB x.length (wdM x) (EG x) n.toNat
abbrev rdm (x:MR) (j:Nat):Mt:=(red x.length (EG x) j).1
abbrev rdp (x:MR) (j:Nat):List Nat:=(red x.length (EG x) j).2
def kk (x:MR) (j:Nat):Nat:=fk (rdm x j) j (rdp x j).length (x.length-(rdp x j).length)
theorem a6s {R C:Nat} {f:Nat->Nat->Rat} {i j:Nat} (v:Rat) (hi:i<R):(bM R C f).set i (((bM R C f).getD i []).set j (dL v))=bM R C (fun a b=>if a=i/\b=j then v else f a b):=by
 rw[jR hi,map_set]
 rw[show (fun d=>if d=j then dL v else dL (f i d))=(fun d=>dL (if d=j then v else f i d)) from funext fun d=>by split<;>rfl,a1k i]
 refine pF fun a _ b _=>?_
 by_cases e:a=i
 ·subst e;rw[jl rfl]
  by_cases e2:b=j
  ·rw[jl e2,jl ⟨rfl,e2⟩]
  ·rw[jd e2,jd (by simp[e2])]
 ·rw[jd e,jd (by simp[e])]
theorem b3h {R C r k:Nat} {m:Mt} (hr:r<R) (hk:k<R):List.map (fun t=>(bM R C m).getD t []) (((List.range R).set r k).set k r)=bM R C (gI m r k):=by
 rw[MZ,List.map_map]
 unfold bM
 refine ny fun i hi=>?_
 have hi:=uj.mp hi
 show (bM R C m).getD (if i=k then r else if i=r then k else i) []=_
 have hb:(if i=k then r else if i=r then k else i)<R:=by
  split
  ·exact hr
  ·split
   ·exact hk
   ·exact hi
 rw[jR hb]
 refine ny fun c _=>?_
 unfold gI
 by_cases e1:i=k
 ·by_cases e2:i=r
  ·rw[jl e1,jl e2];have:r=k:=by omega
   rw[this]
  ·rw[jl e1,jd e2,jl e1]
 ·by_cases e2:i=r
  ·rw[jd e1,jl e2,jl e2]
  ·rw[jd e1,jd e2,jd e2,jd e1]
theorem QD (C:Nat) (f:Nat->Rat):List.map (fun x=>aH.x x) ((List.range C).map fun c=>dL (f c))=(List.range C).map f:=by simp[dL]
theorem b0x {C:Nat} {f g:Nat->Rat} {k:Rat} {s:Nat}:oD ((List.range C).map fun c=>dL (f c)) ((List.range C).map g) k s C=(List.range C).map fun c=>dL (if s<=c then f c-k*g c else f c):=by
 unfold oD
 rw[show ((List.range C).map fun c=>dL (f c)).length=C by simp]
 refine ny fun c hc=>?_
 have hc:=uj.mp hc
 rw[iR hc,show lv ((List.range C).map g) c=g c from iR hc]
 by_cases h:s<=c
 ·rw[jl ⟨h,hc⟩,jl h];rfl
 ·rw[jd (by omega),jd h]
theorem rQ {C:Nat} {f:Nat->Rat} {q:aH} (h:q ∈ (List.range C).map fun c=>dL (f c)):∃ c,c<C/\q=dL (f c):=by
 obtain⟨c,hc,rfl⟩:=qm.mp h;exact⟨c,uj.mp hc,rfl⟩
theorem b5L (x:MR) (n:Int) (hp:a9F x n):let A₀:=(fun(x:Ty.den (Ty.lf Lf.iM))=>aH.x x);(asT Int 0=0/\(True/\asT (List Int) (aG Int)=aG Int)/\x=bM x.length (wdM x) (rdm x 0)/\(asT (List Int) (aG Int)=aG Int/\0=0/\asT Bool true=true)/\True)/\∀ (i:{ j:Nat // j<=Int.toNat n }),let A₂:=(bM x.length (wdM x) (rdm x (aA i)));let aW:=(aU (rdp x (aA i))).length;let bW:=(rdp x (aA i)).length;let eU:=(1 / rdm x (aA i) (kk x (aA i)) (aA i));let gY:=(gI (rdm x (aA i)) bW (kk x (aA i)));let A₁:=(scl gY bW (aA i) (wdM x) eU);let dG:=(nameAt none (aB aW).toNat);let gJ:=(aB (aA i)).toNat;asT Bool true=true/\ifB (decide (aB (aA i)<n)) ((aB aW=aB bW/\bM x.length (wdM x) (rdm x (aA i))=bM x.length (wdM x) (rdm x (aA i))/\aU (rdp x (aA i))=aU (rdp x (aA i))/\True)/\∀ (i_1:{ k:Nat // List.length (rdp x (aA i))<=k/\k<=List.length x/\∀ (i_1:Nat),List.length (rdp x (aA i))<=i_1->i_1<k->rdm x (aA i) i_1 (aA i)=0 }),let BZ:=(aB (aA i_1)<aB (aN none A₂));let eH:=(decide BZ==true);let NG:=(aB (aA i_1)).toNat;let vI:=(nameAt none NG);let BR:=(List.getD (rowAt A₂ vI) gJ { ok:=false,x:=0,g:=aG Nat,h:=aG Nat });let BU:=(some (List.set (bJ none A₂) (aB aW).toNat vI));let fJ:=(List.set (bJ BU A₂) NG dG);let BX:=(rowAt A₂ (nameAt (some fJ) (aB aW).toNat));let fZ:=(List.getD BX gJ { ok:=false,x:=0,g:=aG Nat,h:=aG Nat });asT Bool true=true/\((eH=true->eH=true/\eH=true/\0<=aB (aA i_1)/\aB (aA i_1)<aB (aN none A₂)/\True)/\(eH=true->eH=true/\Int.toNat (aB (aA i_1))<aN none A₂/\True)/\(eH=true->eH=true/\eH=true/\0<=aB (aA i)/\aB (aA i)<aB (rowAt A₂ vI).length/\True)/\(eH=true->eH=true/\Int.toNat (aB (aA i))<List.length (rowAt A₂ vI)/\True)/\(eH=true->eH=true/\aH.ok BR=true/\rsz (aH.x BR)<=1000000000/\True)/\(eH=true->eH=true/\True)/\(decide BZ=true->eH=true)/\True)/\ifB (bif decide BZ then sgn (Rat.num (aH.x BR))==0 else false) (∃ (i':{ k:Nat // List.length (rdp x (aA i))<=k/\k<=List.length x/\∀ (i_2:Nat),List.length (rdp x (aA i))<=i_2->i_2<k->rdm x (aA i) i_2 (aA i)=0 }),List.length x-aA i'<List.length x-aA i_1/\IntKind.wrap IntKind.i64 (aB (aA i_1)+1)=aB (aA i')/\bM x.length (wdM x) (rdm x (aA i))=bM x.length (wdM x) (rdm x (aA i))/\aU (rdp x (aA i))=aU (rdp x (aA i))/\True) (ifB (aB (aA i_1)==aB (aN none A₂)) (∃ (i':{ j:Nat // j<=Int.toNat n }),Int.toNat n-aA i'<Int.toNat n-aA i/\IntKind.wrap IntKind.i64 (aB (aA i)+1)=aB (aA i')/\bM x.length (wdM x) (rdm x (aA i))=bM x.length (wdM x) (rdm x (aA i'))/\aU (rdp x (aA i))=aU (rdp x (aA i'))/\True) ((0<=aB (aA i_1)/\aB (aA i_1)<aB (aN none A₂)/\Int.toNat (aB (aA i_1))<aN none A₂/\0<=aB aW/\aB aW<aB (aN none A₂)/\Int.toNat (aB aW)<aN none A₂/\0<=aB aW/\aB aW<aB (aN none A₂)/\Int.toNat (aB aW)<aN none A₂/\0<=aB (aA i_1)/\aB (aA i_1)<aB (aN BU A₂)/\Int.toNat (aB (aA i_1))<aN BU A₂/\True)/\(dU 1/\0<=aB aW/\aB aW<aB (aN (some fJ) A₂)/\Int.toNat (aB aW)<aN (some fJ) A₂/\0<=aB (aA i)/\aB (aA i)<aB BX.length/\Int.toNat (aB (aA i))<List.length BX/\aH.ok fZ=true/\(rsz (bV 1)<=400000000/\rsz (aH.x fZ)<=400000000/\aH.x fZ≠0)/\True)/\(aB (aA i)=aB (aA i)/\List.Nodup fJ/\List.map (fun(i_2:Nat)=>List.getD A₂ i_2 (aG aH)) fJ=bM x.length (wdM x) (scl gY bW (aA i) (aA i) eU)/\aU (rdp x (aA i))=aU (rdp x (aA i))/\bV 1 / aH.x fZ=1 / rdm x (aA i) (kk x (aA i)) (aA i)/\True)/\∀ (i_2:{ c:Nat // aA i<=c }),let C₁:=(scl gY bW (aA i) (aA i_2) eU);let lF:=(bM x.length (wdM x) C₁);let rD:=(rowAt lF dG).length;let C₂:=(aB (aA i_2)).toNat;let jV:=(List.getD (rowAt lF dG) C₂ { ok:=false,x:=0,g:=aG Nat,h:=aG Nat });asT Bool true=true/\(0<=aB aW/\aB aW<aB (aN none lF)/\Int.toNat (aB aW)<aN none lF/\True)/\ifB (decide (aB (aA i_2)<aB rD)) ((0<=aB aW/\aB aW<aB (aN none lF)/\Int.toNat (aB aW)<aN none lF/\0<=aB aW/\aB aW<aB (aN none lF)/\Int.toNat (aB aW)<aN none lF/\0<=aB (aA i_2)/\aB (aA i_2)<aB rD/\Int.toNat (aB (aA i_2))<List.length (rowAt lF dG)/\aH.ok jV=true/\s44 eU (aH.x jV)/\0<=aB (aA i_2)/\aB (aA i_2)<aB rD/\Int.toNat (aB (aA i_2))<List.length (rowAt lF dG)/\True)/\∃ (i':{ c:Nat // aA i<=c }),wdM x-aA i'<wdM x-aA i_2/\IntKind.wrap IntKind.i64 (aB (aA i_2)+1)=aB (aA i')/\List.set lF dG (List.set (rowAt lF dG) C₂ (dL (1 / rdm x (aA i) (kk x (aA i)) (aA i)*aH.x jV)))=bM x.length (wdM x) (scl gY bW (aA i) (aA i') eU)/\aU (rdp x (aA i))=aU (rdp x (aA i))/\1 / rdm x (aA i) (kk x (aA i)) (aA i)=1 / rdm x (aA i) (kk x (aA i)) (aA i)/\True) ((asT Int 0=0/\bM x.length (wdM x) C₁=bM x.length (wdM x) (elm A₁ bW (aA i) 0)/\aU (rdp x (aA i))=aU (rdp x (aA i))/\True)/\∀ (i_3:{ i:Nat // i<=List.length x }),let CB:=(elm A₁ bW (aA i) (aA i_3));let C₃:=(bM x.length (wdM x) CB);let xB:=(aB (aA i_3)).toNat;let qB:=(nameAt none xB);let oI:=(rowAt C₃ qB);let vJ:=(List.getD oI gJ { ok:=false,x:=0,g:=aG Nat,h:=aG Nat });let NH:=(aB (aA i_3) != aB aW);let eF:=(NH==true);asT Bool true=true/\ifB (decide (aB (aA i_3)<aB (aN none lF))) (((eF=true->eF=true/\eF=true/\0<=aB (aA i_3)/\aB (aA i_3)<aB (aN none C₃)/\True)/\(eF=true->eF=true/\Int.toNat (aB (aA i_3))<aN none C₃/\True)/\(eF=true->eF=true/\eF=true/\0<=aB (aA i)/\aB (aA i)<aB oI.length/\True)/\(eF=true->eF=true/\Int.toNat (aB (aA i))<List.length oI/\True)/\(eF=true->eF=true/\aH.ok vJ=true/\rsz (aH.x vJ)<=1000000000/\True)/\(eF=true->eF=true/\True)/\(NH=true->eF=true)/\True)/\ifB (bif aB (aA i_3) != aB aW then sgn (Rat.num (aH.x vJ)) != 0 else false) ((0<=aB (aA i_3)/\aB (aA i_3)<aB (aN none C₃)/\Int.toNat (aB (aA i_3))<aN none C₃/\0<=aB aW/\aB aW<aB (aN none C₃)/\Int.toNat (aB aW)<aN none C₃/\0<=aB (aA i_3)/\aB (aA i_3)<aB (aN none C₃)/\Int.toNat (aB (aA i_3))<aN none C₃/\0<=aB (aA i)/\aB (aA i)<aB oI.length/\Int.toNat (aB (aA i))<List.length oI/\nameAt none (aB aW).toNat≠nameAt none xB/\oJ (fun(x:Ty.den (Ty.lf Lf.iM))=>dK ((aH.ok x=true)::aG Cd)) (rowAt C₃ dG)/\aH.ok vJ=true/\((∀ (q:aH),q ∈ rowAt C₃ qB->q=dL (aH.x q))/\List.length oI=List.length (List.map A₀ (rowAt C₃ dG))/\List.length oI<=1000/\0<=aB (aA i)/\(∀ (q:aH),q ∈ rowAt C₃ qB->rsz (aH.x q)<=400000000)/\rsz (aH.x vJ)<=100000000/\∀ (q:Rat),q ∈ List.map A₀ (rowAt C₃ dG)->rsz q<=100000000)/\True)/\∃ (i':{ i:Nat // i<=List.length x }),List.length x-aA i'<List.length x-aA i_3/\IntKind.wrap IntKind.i64 (aB (aA i_3)+1)=aB (aA i')/\List.set C₃ qB (oD oI (List.map A₀ (rowAt C₃ dG)) (aH.x vJ) gJ oI.length)=bM x.length (wdM x) (elm A₁ bW (aA i) (aA i'))/\aU (rdp x (aA i))=aU (rdp x (aA i))/\True) (∃ (i':{ i:Nat // i<=List.length x }),List.length x-aA i'<List.length x-aA i_3/\IntKind.wrap IntKind.i64 (aB (aA i_3)+1)=aB (aA i')/\bM x.length (wdM x) CB=bM x.length (wdM x) (elm A₁ bW (aA i) (aA i'))/\aU (rdp x (aA i))=aU (rdp x (aA i))/\True)) ((List.length (aU (rdp x (aA i)))+List.length (aB (aA i)::aG Int)<=1000000000/\True)/\∃ (i':{ j:Nat // j<=Int.toNat n }),Int.toNat n-aA i'<Int.toNat n-aA i/\IntKind.wrap IntKind.i64 (aB (aA i)+1)=aB (aA i')/\bM x.length (wdM x) CB=bM x.length (wdM x) (rdm x (aA i'))/\aU (rdp x (aA i))++aB (aA i)::aG Int=aU (rdp x (aA i'))/\True))))) (True/\aU (rdp x (aA i))=aU (rdp x n.toNat)/\bM x.length (wdM x) (rdm x n.toNat)=bM x.length (wdM x) (rdm x (aA i))):=by
 obtain⟨hx,r1,r2,c1,c2,n0,n1,hok⟩:=hp
 have hZ:(⟨false,0,[],[]⟩:aH)=bF:=rfl
 dsimp only[aB,asT,aA,aG,Ty.den,Lf.den] at *
 simp only[hZ,Int.toNat_natCast,aF,ak,ah,jo,jm,aN,nameAt,bJ,iU,rowAt,PE,iq,dh]
 refine⟨hx,fun i=>⟨fun h1 k=>?_,fun h1=>?_⟩⟩
 ·have hj:i.1<n.toNat:=by omega
  have hjC:i.1<wdM x:=by omega
  have E:=fH x.length (EG x) i.1
  have hle:=E.le
  have zm:∀ a,a<x.length->∀ c,c<wdM x->rsz (rdm x i.1 a c)<=10000000:=hok i.1 (by omega)
  have zn:∀ a,a<x.length->∀ c,c<wdM x->rsz (rdm x (i.1+1) a c)<=10000000:=hok (i.1+1) (by omega)
  obtain⟨hk1,hk2,hk0⟩:=k.2
  have hw:∀ q:Nat,(q:Int)<=1000->IntKind.wrap .i64 ((q:Int)+1)=((q+1:Nat):Int):=fun q hq=>by rw[aS (by omega) (by omega)];rfl
  by_cases hkR:k.1<x.length
  ·have d1:decide ((k.1:Int)<(x.length:Int))=true:=xk (by omega)
   simp only[d1,jR hkR,iR hjC,ru,dh,cond_true,beq_self_eq_true,true_implies,jo,jm]
   have hz:=zm k.1 hkR i.1 hjC
   have hPR:(rdp x i.1).length<x.length:=by omega
   refine⟨⟨⟨by omega,by omega⟩,hkR,⟨by omega,by omega⟩,hjC,⟨rfl,by show rsz (rdm x i.1 k.1 i.1)<=_;omega⟩,fun _=>trivial⟩,fun h=>⟨⟨k.1+1,by omega,by omega,fun a h1 h2=>?_⟩,by simp only;omega,hw _ (by omega)⟩,fun h=>⟨fun h2=>?_,fun h2=>?_⟩⟩
   ·by_cases e:a=k.1
    ·have h:(sgn (rdm x i.1 k.1 i.1).num==0)=true:=h
     rw[e];exact qY.mp (by simpa using h)
    ·exact hk0 a h1 (by omega)
   ·have:(k.1:Int)=x.length:=by simpa using h2
    omega
   ·have hne:rdm x i.1 k.1 i.1≠0:=fun e=>by
     have h:(sgn (rdm x i.1 k.1 i.1).num==0)=false:=h
     rw[qY.mpr e] at h;cases h
    have hkk:kk x i.1=k.1:=a3z _ _ _ _ _ hk1 (by omega) hk0 (fun _=>hne)
    have hst:red x.length (EG x) (i.1+1)=(iH (rdm x i.1) (rdp x i.1).length k.1 i.1,rdp x i.1++[i.1]):=a9I hkk (by omega)
    have hS:∀ a,a<x.length->∀ d,d<wdM x->elm (scl (gI (rdm x i.1) (rdp x i.1).length k.1) (rdp x i.1).length i.1 (wdM x) (1 / rdm x i.1 k.1 i.1)) (rdp x i.1).length i.1 x.length a d=iH (rdm x i.1) (rdp x i.1).length k.1 i.1 a d:=b3e hne hk1 hkR E.rest
    have e1:rdm x (i.1+1)=iH (rdm x i.1) (rdp x i.1).length k.1 i.1:=xg Prod.fst hst
    have e2:rdp x (i.1+1)=rdp x i.1++[i.1]:=xg Prod.snd hst
    rw[e1] at zn
    rw[hkk]
    have hr:=hPR
    generalize hP:(rdp x i.1).length=r at *
    generalize hM:rdm x i.1=m at *
    have hsr:∀ d,gI m r k.1 r d=m k.1 d:=fun d=>by unfold gI;rw[jl rfl]
    have zs:∀ a,a<x.length->∀ d,d<wdM x->rsz (gI m r k.1 a d)<=10000000:=fun a ha d hd=>by
     unfold gI;split
     ·exact zm _ hkR d hd
     ·split
      ·exact zm _ hr d hd
      ·exact zm _ ha d hd
    simp only[swp_get hr,jR hkR,iR hjC,ru,dh]
    have z1:rsz ((1:Int):Rat)=1:=by decide +kernel
    have zi:rsz (1 / m k.1 i.1)<=10000001:=by
     have:=b2W 1 (m k.1 i.1) hne
     have z2:rsz 1=1:=by decide +kernel
     omega
    refine⟨⟨by omega,by omega,by omega,by omega,by omega,by omega,by omega,by omega,by omega,by omega,by omega,by omega⟩,⟨⟨by omega,by omega⟩,by omega,by omega,by omega,by omega,by omega,hjC,rfl,by show rsz ((1:Int):Rat)<=_;omega,by show rsz (m k.1 i.1)<=_;omega,hne⟩,⟨b0B _ hr hkR,by rw[b3h hr hkR,b0i],rfl⟩,fun c=>⟨⟨by omega,by omega,by omega⟩,fun h3=>?_,fun h3=>?_⟩⟩
    ·rw[jR hr] at h3 ⊢
     simp only[ru,dh] at h3 ⊢
     have hc:c.1<wdM x:=by omega
     rw[iR hc,b8L _ _ (ay _),hsr]
     have z3:=zm k.1 hkR c.1 hc
     refine⟨⟨by omega,by omega,by omega,by omega,by omega,by omega,by omega,by omega,hc,rfl,⟨by omega,by show rsz (m k.1 c.1)<=_;omega⟩,by omega,by omega,hc⟩,⟨c.1+1,by have:=c.2;omega⟩,by simp only;omega,hw _ (by omega),?_⟩
     rw[<-jR (f:=scl (gI m r k.1) r i.1 c.1 (1 / m k.1 i.1)) hr]
     refine(a6s _ hr).trans (pF fun a _ b _=>?_)
     rw[b0h _ c.2]
     show _=if a=r then (if b=c.1 then _ else _) else _
     by_cases ea:a=r
     ·subst ea
      rw[jl rfl]
      by_cases eb:b=c.1
      ·rw[jl ⟨rfl,eb⟩,jl eb,hsr];rfl
      ·rw[jd (by simp[eb]),jd eb]
     ·rw[jd (by simp[ea]),jd ea]
    ·rw[jR hr] at h3
     simp only[ru,dh] at h3
     have hc:wdM x<=c.1:=by omega
     refine⟨?_,fun a=>⟨fun h4=>?_,fun h4=>?_⟩⟩
     ·rw[a7u]
      refine pF fun b _ d hd=>?_
      unfold scl
      by_cases e:b=r/\i.1<=d
      ·rw[jl ⟨e.1,e.2,by omega⟩,jl ⟨e.1,e.2,hd⟩]
      ·rw[jd (by omega),jd (by omega)]
     ·have ha:a.1<x.length:=by omega
      generalize hN:scl (gI m r k.1) r i.1 (wdM x) (1 / m k.1 i.1)=s at *
      have hrs:∀ d,d<wdM x->rsz (s r d)<=10000000:=fun d hd=>by
       have:=zn r hr d hd
       rw[<-hS r hr d hd,ZV] at this;exact this
      have hos:∀ b,b<x.length->b≠r->∀ d,d<wdM x->rsz (s b d)<=10000000:=fun b hb hbr d hd=>by
       rw[<-hN];unfold scl;rw[jd (by simp[hbr])];exact zs b hb d hd
      have has:∀ b,b<x.length->∀ d,d<wdM x->rsz (s b d)<=10000000:=fun b hb d hd=>by
       by_cases e:b=r
       ·rw[e];exact hrs d hd
       ·exact hos b hb e d hd
      simp only[jR ha,jR hr,iR hjC,ru,dh,QD]
      simp only[b4z s (ay a.1),ZV]
      have z4:=has a.1 ha i.1 hjC
      refine⟨?_,fun h5=>?_,fun h5=>?_⟩
      ·refine⟨fun h=>⟨h,h,by omega,by omega⟩,fun h=>⟨h,ha⟩,fun h=>⟨h,h,by omega,by omega⟩,fun h=>⟨h,hjC⟩,fun h=>⟨h,rfl,by show rsz (s a.1 i.1)<=_;omega⟩,fun h=>h,fun h=>by rw[h];rfl⟩
      ·have har:a.1≠r:=fun e=>by
        rw[e,show (((r:Nat):Int) != (r:Int))=false by simp] at h5;cases h5
       refine⟨⟨by omega,by omega,ha,by omega,by omega,hr,by omega,by omega,ha,by omega,by omega,hjC,fun e=>har e.symm,lI.mpr fun q hq=>?_,rfl,fun q hq=>?_,trivial,by omega,by omega,fun q hq=>?_,by show rsz (s a.1 i.1)<=_;omega,fun q hq=>?_⟩,⟨a.1+1,by omega⟩,by simp only;omega,hw _ (by omega),?_⟩
       ·obtain⟨c,hc,rfl⟩:=rQ hq;exact⟨rfl,trivial⟩
       ·obtain⟨c,hc,rfl⟩:=rQ hq;rfl
       ·obtain⟨c,hc,rfl⟩:=rQ hq;have:=has a.1 ha c hc;show rsz (s a.1 c)<=_;omega
       ·obtain⟨c,hc,rfl⟩:=qm.mp hq;have:=hrs c (uj.mp hc);show rsz (elm s r i.1 a.1 r c)<=_;rw[ZV];omega
       ·rw[b0x,a1k a.1]
        refine pF fun b _ d _=>?_
        rw[a7t s har]
        simp only[ZV]
        by_cases eb:b=a.1
        ·simp only[jl eb];rfl
        ·simp only[jd eb]
      ·refine⟨⟨a.1+1,by omega⟩,by simp only;omega,hw _ (by omega),?_⟩
       rw[a7s s]
       by_cases e:a.1=r
       ·exact .inl e
       ·right
        rw[show ((a.1:Int) != (r:Int))=true from ni.mpr (fun h=>e (by omega))] at h5
        have h5:(sgn (s a.1 i.1).num != 0)=false:=h5
        exact qY.mp (by simpa using h5)
     ·have ha:a.1=x.length:=by have:=a.2;omega
      have hl:=(YF x.length (EG x) i.1).1
      refine⟨by simp;omega,⟨i.1+1,by omega⟩,by simp only;omega,hw _ (by omega),?_,?_⟩
      ·rw[ha]
       show _=bM _ _ (rdm x (i.1+1))
       rw[e1];exact pF fun b hb d hd=>hS b hb d hd
      ·show _=aU (rdp x (i.1+1))
       rw[e2];simp[aU]
  ·have d1:decide ((k.1:Int)<(x.length:Int))=false:=qo (by omega)
   have hkl:k.1=x.length:=by omega
   have hkk:kk x i.1=x.length:=by rw[<-hkl];exact a3z _ _ _ _ _ hk1 (by omega) hk0 (fun h=>by omega)
   have hst:red x.length (EG x) (i.1+1)=red x.length (EG x) i.1:=a9H hkk
   simp only[d1,cond_false]
   refine⟨⟨fun h=>(by cases h),fun h=>(by cases h),fun h=>(by cases h),fun h=>(by cases h),fun h=>(by cases h),fun h=>(by cases h),fun h=>absurd h (by omega)⟩,fun h=>(by cases h),fun _=>⟨fun _=>⟨⟨i.1+1,by omega⟩,by simp only;omega,hw _ (by omega),?_,?_⟩,fun h=>?_⟩⟩
   ·show _=bM _ _ (red x.length (EG x) (i.1+1)).1
    rw[hst]
   ·show _=aU (red x.length (EG x) (i.1+1)).2
    rw[hst]
   ·rw[hkl] at h;simp at h
 ·have:i.1=n.toNat:=by have:=i.2;omega
  rw[this];exact⟨rfl,rfl⟩
end Go.Proofs.YtbkocjmmbkifjaaGreat
