/-
  Lemmas for the theorem vestimables_holds, part 35 of 36.
-/
import Derived.Carry
import Derived.Test.YtgplhbhfdgempaaGreatQe34
namespace Go.Proofs.YtgplhbhfdgempaaGreat
open Go Go.RowKit
section
open Go Go.ChangeShapes Go.WideShapes Go.ChangeAt Go.RowKit Go.Joins
set_option linter.unusedVariables false
set_option linter.unusedSimpArgs false
set_option maxRecDepth 100000
theorem laidOut:laidOutB Tryz.prog=true:=by kernel_rfl
theorem a9n:Tryz.prog.cellsOf 64=4:=by kernel_rfl
theorem a9m:Tryz.prog.cellsOf 62=2:=by kernel_rfl
theorem a7D:Tryz.prog.cellsOf 60=1:=by kernel_rfl
theorem a7C:Tryz.prog.cellsOf 4=1:=by kernel_rfl
theorem a9o:Tryz.prog.cellsOf 133=1:=by kernel_rfl
def a6i (q:aF):Prop:=∀ K,1<=K->q.n<=K->q.m<=K->rsz q.x<=K
def c0H {α:Type} (p:α->Prop) (xs:List α):Prop:=∀ x ∈ xs,p x
def good:(t:Ty)->t.den->Prop
 | .bool,_=>True
 | .int k,n=>(Lit.int k n).wf=true
 | .lf .dG,q=>a6i q
 | .lf _,_=>True
 | .list t,xs=>List.length (α:=t.den) xs<=9223372036854775807/\c0H (good t) xs
 | .arr n t,xs=>List.length (α:=t.den) xs=n/\c0H (good t) xs
 | .pair a b,x=>good a x.1/\good b x.2
 | .unit,_=>True
 | .ref _,_=>True
 | .clo _ _,_=>True
 | .nls _,_=>True
noncomputable def fP:Ty->Option TypeId->List Field->Nat->Bool
 | .pair a b,none,f::fs,o=>f.offset==o&&Tryz.prog.cellsOf f.type==a.n&&fP a (some f.type) [] 0&&fP b none fs (o+a.n)
 | .unit,none,[],_=>true
 | .bool,some T,_,_=>match Tryz.prog.underlying T with
  | some .bool=>true
  | _=>false
 | .int k,some T,_,_=>match Tryz.prog.underlying T with
  | some (.int k')=>k==k'
  | _=>false
 | .lf .dG,some T,_,_=>T==64
 | .list t,some T,_,_=>match Tryz.prog.underlying T with
  | some (.slice e)=>Tryz.prog.cellsOf e==t.n&&decide (0<t.n)&&fP t (some e) [] 0
  | _=>false
 | .arr n t,some T,_,_=>match Tryz.prog.underlying T with
  | some (.array m e)=>m==n&&Tryz.prog.cellsOf e==t.n&&Tryz.prog.cellsOf T==n*t.n&&fP t (some e) [] 0
  | _=>false
 | .pair a b,some T,_,_=>match Tryz.prog.underlying T with
  | some (.struct fs)=>Tryz.prog.cellsOf T==a.n+b.n&&(match fs.toList with
   | f::fs'=>f.offset==0&&Tryz.prog.cellsOf f.type==a.n&&fP a (some f.type) [] 0&&fP b none fs' a.n
   | []=>false)
  | _=>false
 | _,_,_,_=>false
section
variable {H:Type} {enc:TypeId × Value->H} {W:World}
theorem a9c {a:Addr} {v:Value} (h:W.cell? a=some v):a=⟨a.block,a.off,none⟩/\a.block<W.heap.size:=by
 have h1:=World.cell?_spot h
 refine⟨by obtain⟨b,o,s⟩:=a;cases h1;rfl,?_⟩
 exact World.block_lt_of_cell? W a h
theorem b5F {n:Nat} {cs:List Value} {y:DataW H × List MemPlace} (h:DataW.trod enc Tryz.prog W 0 (fun _=>true) true n 60 cs=some y):∃ p l c,cs=[.slice p l.length c]/\Rd W (.slice p l.length c) l/\∀ g ∈ l,g<4294967296:=by
 rcases open_ints (k:=.u32) jr Tryz.underlying133 a9o h with⟨rfl,_⟩|⟨a,len,cap,zs,rfl,_,h1,h2,h3,_,h4,h5⟩
 ·exact⟨none,[],0,rfl,.inl ⟨none,rfl,rfl⟩,by simp⟩
 ·simp at h3
  by_cases hc:cap=0
  ·have hl:len=0:=by omega
   subst hc hl
   exact⟨some a,[],0,rfl,.inl ⟨_,rfl,rfl⟩,by simp⟩
  ·obtain⟨ha,hb⟩:=a9c (h4 0 (by omega))
   have ha:a=⟨a.block,a.off,none⟩:=by simpa [Addr.add] using ha
   have hb:a.block<W.heap.size:=by simpa [Addr.add] using hb
   have hz:∀ n ∈ zs,0<=n/\n<4294967296:=fun n hn=>by
    have:=h5 n hn
    simp[Lit.wf,IntKind.min,IntKind.max,IntKind.signed,IntKind.bits] at this
    omega
   have hL:((zs.take len).map Int.toNat).length=len:=by simp;omega
   refine⟨some a,(zs.take len).map Int.toNat,cap,by rw[hL],.inr ⟨a.block,a.off,cap,by rw[<-ha],by rw[hL];exact h1,by unfold maxLen at h2;omega,hb,fun i hi=>?_⟩,fun g hg=>?_⟩
   ·rw[hL] at hi
    have hi':i<zs.length:=by omega
    have hc:=h4 i hi'
    have hm:zs[i] ∈ zs:=jv hi'
    have:=hz _ hm
    have hg:((gr ((zs.take len).map Int.toNat) i:Nat):Int)=zs.getD i 0:=by
     have e1:gr ((zs.take len).map Int.toNat) i=(zs[i]).toNat:=by simp[gr,List.getD,hi,hi']
     have e2:zs.getD i 0=zs[i]:=by simp[List.getD,hi']
     rw[e1,e2];omega
    rw[hg,<-hc,ha]
    rw[add_plain]
   ·obtain⟨x,hx,rfl⟩:=ug.1 hg
    have:=hz x (Dp hx)
    omega
theorem c4p {α:Type} {l:List α} (h:l.length=4):∃ a b c d,l=[a,b,c,d]:=by
 match l,h with
 | [a,b,c,d],_=>exact⟨a,b,c,d,rfl⟩
theorem b7e {n:Nat} {cs:List Value} {y:DataW H × List MemPlace} (h:DataW.trod enc Tryz.prog W 0 (fun _=>true) true n 64 cs=some y):∃ x:aF,Lf.rep W cs .dG x/\a6i x:=by
 obtain⟨xs,m,_,_,hl,hlen,hf⟩:=DataW.trod_struct Tryz.underlying64 h
 rw[a9n] at hl
 obtain⟨c0,c1,c2,c3,rfl⟩:=c4p hl
 match xs,hlen with
 | [y0,y1],_ =>
 have k0:=hf 0 _ rfl
 have k1:=hf 1 _ rfl
 obtain⟨xs0,m0,_,_,_,hlen0,hf0⟩:=DataW.trod_struct Tryz.underlying62 k0
 obtain⟨xs1,m1,_,_,_,hlen1,hf1⟩:=DataW.trod_struct Tryz.underlying62 k1
 match xs0,hlen0,xs1,hlen1 with
 | [z0,z1],_,[z2,z3],_ =>
 have a0:=hf0 0 _ rfl
 have a1:=hf0 1 _ rfl
 have a2:=hf1 0 _ rfl
 have a3:=hf1 1 _ rfl
 simp[a9m,a7C,a7D] at a0 a1 a2 a3
 obtain⟨b,e0,_⟩:=DataW.trod_bool Tryz.underlying4 a0
 obtain⟨d,e2,_⟩:=DataW.trod_bool Tryz.underlying4 a2
 simp at e0 e2
 subst e0 e2
 obtain⟨p,l,c,e1,r1,l1⟩:=b5F a1
 obtain⟨q,k,e,e3,r3,l3⟩:=b5F a3
 simp at e1 e3
 subst e1 e3
 have hq:iE W (.agg #[.bool b,.slice p l.length c,.bool d,.slice q k.length e]) _ _:=⟨_,_,_,_,_,_,_,_,rfl,⟨b,_,l,rfl,r1,l1,rfl,rfl⟩,⟨d,_,k,rfl,r3,l3,rfl,rfl⟩,rfl,rfl⟩
 exact⟨⟨_,_,l,k⟩,⟨b,p,c,d,q,e,rfl,hq,r1,r3⟩,fun K h1 h2 h3=>hq.lC ⟨b,p,_,c,d,q,_,e,rfl,h2,h3⟩ h1⟩
theorem a0Z {α:Type} {Q:Nat->α->Prop}:∀ n,(∀ i,i<n->∃ x,Q i x)->∃ xs:List α,xs.length=n/\∀ i (h:i<xs.length),Q i xs[i]
 | 0,_=>⟨[],rfl,fun i h=>by simp at h⟩
 | n+1,h=>by
  obtain⟨xs,h1,h2⟩:=a0Z n (fun i hi=>h i (by omega))
  obtain⟨x,hx⟩:=h n (by omega)
  refine⟨xs++[x],by simp[h1],fun i hi=>?_⟩
  by_cases e:i<xs.length
  ·rw[List.getElem_append_left e];exact h2 i e
  ·have:i=n:=by simp at hi;omega
   subst this
   rw[List.getElem_append_right (by omega)]
   simpa using hx
theorem AQ {α:Type} {R:List Value->α->Prop} {b o ce:Nat}:∀ (xs:List α) (k:Nat),(∀ i (h:i<xs.length),∃ c,c.length=ce/\(∀ j v,c[j]?=some v->W.cell? ⟨b,o+((k+i)*ce+j),none⟩=some v)/\R c xs[i])->∃ ds,(∀ j v,ds[j]?=some v->W.cell? ⟨b,o+(k*ce+j),none⟩=some v)/\chunks R ds xs
 | [],k,_=>⟨[],fun j v h=>by simp at h,rfl⟩
 | x::xs,k,h=>by
  obtain⟨c,h1,h2,h3⟩:=h 0 (by simp)
  obtain⟨ds,h4,h5⟩:=AQ xs (k+1) (fun i hi=>by
   obtain⟨c,h1,h2,h3⟩:=h (i+1) (by simpa using hi)
   exact⟨c,h1,fun j v hj=>by rw[show k+1+i=k+(i+1) by omega];exact h2 j v hj,h3⟩)
  refine⟨c++ds,fun j v hj=>?_,c,ds,rfl,h3,h5⟩
  by_cases e:j<c.length
  ·rw[Ai e] at hj
   exact h2 j v hj
  ·rw[List.getElem?_append_right (by omega)] at hj
   have:=h4 _ _ hj
   rw[Am,Nat.one_mul] at this
   rwa [show k*ce+ce+(j-c.length)=k*ce+j by omega] at this
theorem BX {α:Type} {R:List Value->α->Prop} {ce:Nat}:∀ (xs:List α) (cs:List Value),cs.length=xs.length*ce->(∀ i (h:i<xs.length),R ((cs.drop (i*ce)).take ce) xs[i])->chunks R cs xs
 | [],cs,h,_=>oz (by simpa using h)
 | x::xs,cs,h,hR=>by
  rw[List.length_cons,Ag] at h
  refine⟨cs.take ce,cs.drop ce,(Cc ce cs).symm,?_,BX (ce:=ce) xs (cs.drop ce) (by rw[Ak];omega) (fun i hi=>?_)⟩
  ·have:=hR 0 (by simp)
   rwa [Nat.zero_mul,List.drop_zero] at this
  ·have:=hR (i+1) (by simpa using hi)
   rwa [Ag,Eb,<-List.drop_drop] at this
theorem a9p {a:Addr} {n:Nat} {cs:List Value} (h:W.cells? 0 a n=some cs):cs.length=n/\∀ j v,cs[j]?=some v->W.cell? (a.add j)=some v:=by
 unfold World.cells? at h
 rw[ig (uq _)] at h
 refine⟨by simpa using mapM_some_length h,fun j v hj=>?_⟩
 have hl:cs.length=n:=by simpa using mapM_some_length h
 have hjn:j<n:=by rw[<-hl];exact(pq.1 hj).1
 have:=mapM_some_get h j j (by simp[hjn])
 rw[hj] at this
 exact this
abbrev a4g (W:World) (q:Nat):Prop:=q<W.heap.size
theorem nJ:(t:Ty)->(T:Option TypeId)->(fs:List Field)->(o:Nat)->fP t T fs o=true->(n:Nat)->(cs:List Value) ->
  (∀ T',T=some T'->(∃ y,DataW.trod enc Tryz.prog W 0 (fun _=>true) true n T' cs=some y)->∃ x:t.den,rep (a4g W) W t cs x/\good t x) /\
  (T=none->cs.length=o+t.n->(∀ f ∈ fs,∃ y,DataW.trod enc Tryz.prog W 0 (fun _=>true) true n f.type ((cs.drop f.offset).take (Tryz.prog.cellsOf f.type))=some y)->∃ x:t.den,rep (a4g W) W t (cs.drop o) x/\good t x)
 | .bool,some T,fs,o,hm,n,cs=>by
  refine⟨fun T' e ⟨y,hy⟩=>?_,fun e=>(by cases e)⟩
  cases e
  unfold fP at hm
  split at hm<;>first|(cases hm;done)|skip
  rename_i hu
  obtain⟨b,rfl,_⟩:=DataW.trod_bool hu hy
  exact⟨b,rfl,trivial⟩
 | .int k,some T,fs,o,hm,n,cs=>by
  refine⟨fun T' e ⟨y,hy⟩=>?_,fun e=>(by cases e)⟩
  cases e
  unfold fP at hm
  split at hm<;>first|(cases hm;done)|skip
  rename_i k' hu
  have hk:k=k':=by simpa using hm
  subst hk
  obtain⟨b,rfl,_,hw⟩:=DataW.trod_int hu hy
  exact⟨b,rfl,hw⟩
 | .lf .dG,some T,fs,o,hm,n,cs=>by
  refine⟨fun T' e ⟨y,hy⟩=>?_,fun e=>(by cases e)⟩
  cases e
  have hT:T=64:=by unfold fP at hm;simpa using hm
  subst hT
  exact b7e hy
 | .list t,some T,fs,o,hm,n,cs=>by
  refine⟨fun T' e ⟨y,hy⟩=>?_,fun e=>(by cases e)⟩
  cases e
  unfold fP at hm
  split at hm<;>first|(cases hm;done)|skip
  rename_i e hu
  simp only[ak,ji,ay] at hm
  obtain⟨⟨hc,hp⟩,hmt⟩:=hm
  rcases DataW.trod_slice hu hy with⟨rfl,_⟩|⟨a,len,cap,elems,rest,m,_,rfl,_,_,h1,h2,h3,h4,_,_⟩
  ·exact⟨([]:List t.den),⟨none,0,rfl,aj _,by omega,.inl rfl⟩,by show 0<=_;omega,fun x hx=>by cases hx⟩
  ·rw[hc] at h4
   obtain⟨xs,hxl,hxs⟩:=a0Z (Q:=fun i (x:t.den)=>(∃ c,c.length=t.n/\(∀ j v,c[j]?=some v->W.cell? ((a.add (i*t.n)).add j)=some v)/\rep (a4g W) W t c x)/\good t x) len (fun i hi=>by
    have h5:=h4 i hi
    rw[bn (by omega),Option.bind_eq_some_iff] at h5
    obtain⟨c,h6,h7⟩:=h5
    obtain⟨x,h8,h9⟩:=(nJ t (some e) [] 0 hmt m c).1 e rfl ⟨_,h7⟩
    obtain⟨k1,k2⟩:=a9p h6
    exact⟨x,⟨c,k1,k2,h8⟩,h9⟩)
   have hcap:cap<=9223372036854775807:=by unfold maxLen at h2;omega
   refine⟨xs,?_,⟨?_,?_⟩⟩
   ·refine⟨some a,cap,by rw[show List.length (α:=t.den) xs=len from hxl],by rw[show List.length (α:=t.den) xs=len from hxl];exact h1,hcap,?_⟩
    by_cases h0:len=0
    ·exact .inl (oz (by rw[hxl,h0]))
    ·right
     obtain⟨⟨c,k1,k2,_⟩,_⟩:=hxs 0 (by omega)
     obtain⟨v,hv⟩:∃ v,c[0]?=some v:=⟨_,bn (by omega)⟩
     have hcell:=k2 0 v hv
     rw[Nat.zero_mul,show (a.add 0).add 0=a by simp[Addr.add]] at hcell
     obtain⟨ha,hb⟩:=a9c hcell
     obtain⟨ds,d1,d2⟩:=AQ (W:=W) (R:=rep (a4g W) W t) (b:=a.block) (o:=a.off) (ce:=t.n) xs 0 (fun i hi=>by
      obtain⟨⟨c,k1,k2,k3⟩,_⟩:=hxs i hi
      refine⟨c,k1,fun j v hj=>?_,k3⟩
      have:=k2 j v hj
      rw[ha,add_plain,add_plain] at this
      rw[um,<-Nat.add_assoc];exact this)
     exact⟨a.block,a.off,ds,by rw[<-ha],hb,fun j v hj=>by have:=d1 j v hj;rwa [Nat.zero_mul,um] at this,d2⟩
   ·show xs.length<=_;omega
   ·intro x hx
    obtain⟨i,hi,rfl⟩:=Aw hx
    exact(hxs i hi).2
 | .arr k t,some T,fs,o,hm,n,cs=>by
  refine⟨fun T' e ⟨y,hy⟩=>?_,fun e=>(by cases e)⟩
  cases e
  unfold fP at hm
  split at hm<;>first|(cases hm;done)|skip
  rename_i m e hu
  simp only[ak,ji] at hm
  obtain⟨⟨⟨hk,hc⟩,hC⟩,hmt⟩:=hm
  subst hk
  obtain⟨ys,q,_,_,hl,hyl,hys⟩:=DataW.trod_array hu hy
  rw[hC] at hl
  rw[hc] at hys
  obtain⟨xs,hxl,hxs⟩:=a0Z (Q:=fun i (x:t.den)=>rep (a4g W) W t ((cs.drop (i*t.n)).take t.n) x/\good t x) m (fun i hi=>by
   have h5:=hys i hi
   rw[bn (by omega)] at h5
   exact(nJ t (some e) [] 0 hmt q _).1 e rfl ⟨_,h5⟩)
  refine⟨xs,⟨hxl,BX (ce:=t.n) xs cs (by rw[hl,hxl]) (fun i hi=>(hxs i hi).1)⟩,hxl,fun x hx=>?_⟩
  obtain⟨i,hi,rfl⟩:=Aw hx
  exact(hxs i hi).2
 | .pair a b,some T,fs,o,hm,n,cs=>by
  refine⟨fun T' e ⟨y,hy⟩=>?_,fun e=>(by cases e)⟩
  cases e
  unfold fP at hm
  split at hm<;>first|(cases hm;done)|skip
  rename_i gs hu
  simp only[ak,ji] at hm
  obtain⟨hC,hm⟩:=hm
  split at hm<;>first|(cases hm;done)|skip
  rename_i f fs' hgs
  simp only[ak,ji] at hm
  obtain⟨⟨⟨ho,hc⟩,hma⟩,hmb⟩:=hm
  obtain⟨ys,q,_,_,hl,hyl,hys⟩:=DataW.trod_struct hu hy
  rw[hC] at hl
  have hget:∀ (i:Nat) (g:Field),gs[i]?=some g->∃ y,DataW.trod enc Tryz.prog W 0 (fun _=>true) true q g.type ((cs.drop g.offset).take (Tryz.prog.cellsOf g.type))=some y:=fun i g hg=>by
   have hi:i<gs.size:=(Af.1 hg).1
   have:=hys i g hg
   rw[bn (by omega)] at this
   exact⟨_,this⟩
  have h0:=hget 0 f (by rw[<-Array.getElem?_toList,hgs];rfl)
  rw[ho,hc,List.drop_zero] at h0
  obtain⟨x,hx,gx⟩:=(nJ a (some f.type) [] 0 hma q _).1 _ rfl h0
  obtain⟨z,hz,gz⟩:=(nJ b none fs' a.n hmb q cs).2 rfl hl (fun g hg=>by
   obtain⟨i,hi⟩:=List.getElem?_of_mem hg
   exact hget (i+1) g (by rw[<-Array.getElem?_toList,hgs];exact hi))
  exact⟨(x,z),⟨_,_,(Cc a.n cs).symm,hx,hz⟩,gx,gz⟩
 | .pair a b,none,[],o,hm,n,cs=>by simp[fP] at hm
 | .pair a b,none,f::fs',o,hm,n,cs=>by
  refine⟨fun T' e=>(by cases e),fun _ hl hg=>?_⟩
  unfold fP at hm
  simp only[ak,ji] at hm
  obtain⟨⟨⟨ho,hc⟩,hma⟩,hmb⟩:=hm
  have h0:=hg f (jk ..)
  rw[ho,hc] at h0
  obtain⟨x,hx,gx⟩:=(nJ a (some f.type) [] 0 hma n _).1 _ rfl h0
  obtain⟨z,hz,gz⟩:=(nJ b none fs' (o+a.n) hmb n cs).2 rfl (by rw[hl];show o+(a.n+b.n)=_;omega) (fun g hg'=>hg g (jf _ hg'))
  refine⟨(x,z),⟨(cs.drop o).take a.n,cs.drop (o+a.n),?_,hx,hz⟩,gx,gz⟩
  rw[<-List.drop_drop,Cc]
 | .unit,none,[],o,hm,n,cs=>by
  refine⟨fun T' e=>(by cases e),fun _ hl _=>⟨(),?_,trivial⟩⟩
  show cs.drop o=[]
  exact List.drop_eq_nil_of_le (by rw[hl];exact aj _)
 | .unit,none,_::_,o,hm,n,cs=>by simp[fP] at hm
 | .unit,some _,_,_,hm,_,_=>by simp[fP] at hm
 | .bool,none,_,_,hm,_,_=>by simp[fP] at hm
 | .int _,none,_,_,hm,_,_=>by simp[fP] at hm
 | .lf .dG,none,_,_,hm,_,_=>by simp[fP] at hm
 | .lf .rat,_,_,_,hm,_,_=>by simp[fP] at hm
 | .lf .big,_,_,_,hm,_,_=>by simp[fP] at hm
 | .lf .NZ,_,_,_,hm,_,_=>by simp[fP] at hm
 | .lf .str,_,_,_,hm,_,_=>by simp[fP] at hm
 | .list _,none,_,_,hm,_,_=>by simp[fP] at hm
 | .arr _ _,none,_,_,hm,_,_=>by simp[fP] at hm
 | .ref _,_,_,_,hm,_,_=>by simp[fP] at hm
 | .clo _ _,_,_,_,hm,_,_=>by simp[fP] at hm
 | .nls _,_,_,_,hm,_,_=>by simp[fP] at hm
theorem a4i {t:Ty} {T:TypeId} {v:Value} {d:DataW H} {p:List MemPlace} {b0:Nat} (hm:fP t (some T) [] 0=true) (hv:Value.okWide Tryz.prog W .any b0 T v) (h:DataW.Trod enc Tryz.prog W 0 (fun _=>true) true T v d p) :
  ∃ x:t.den,kE (a4g W) W t v x/\good t x:=by
 obtain⟨n,hn⟩:=h
 obtain⟨x,hx,gx⟩:=(nJ t (some T) [] 0 hm n v.cells.toList).1 T rfl ⟨_,hn⟩
 refine⟨x,⟨v.cells.toList,?_,hx⟩,gx⟩
 cases t with
 | bool =>
  unfold fP at hm
  split at hm<;>first|(cases hm;done)|skip
  rename_i hu
  simp only[Value.okWide,hu,Cell.okWide,Cell.ok] at hv
  split at hv<;>simp_all [Value.cells,Ty.toV,Ty.agg]
 | int k =>
  unfold fP at hm
  split at hm<;>first|(cases hm;done)|skip
  rename_i k' hu
  simp only[Value.okWide,hu,Cell.okWide,Cell.ok] at hv
  split at hv<;>simp_all [Value.cells,Ty.toV,Ty.agg]
 | lf l =>
  cases l<;>try (simp[fP] at hm;done)
  have hT:T=64:=by unfold fP at hm;simpa using hm
  subst hT
  simp only[Value.okWide,Tryz.underlying64] at hv
  obtain⟨cs,rfl,_⟩:=hv
  simp[Ty.toV,Ty.agg,Lf.agg,Value.cells]
 | list t =>
  unfold fP at hm
  split at hm<;>first|(cases hm;done)|skip
  rename_i e hu
  simp only[Value.okWide,hu,Cell.okWide,Cell.ok] at hv
  split at hv<;>simp_all [Value.cells,Ty.toV,Ty.agg]
 | arr k t =>
  unfold fP at hm
  split at hm<;>first|(cases hm;done)|skip
  rename_i m e hu
  simp only[Value.okWide,hu] at hv
  obtain⟨cs,rfl,_⟩:=hv
  simp[Ty.toV,Ty.agg,Value.cells]
 | pair a b =>
  unfold fP at hm
  split at hm<;>first|(cases hm;done)|skip
  rename_i gs hu
  simp only[Value.okWide,hu] at hv
  obtain⟨cs,rfl,_⟩:=hv
  simp[Ty.toV,Ty.agg,Value.cells]
 | _=>simp[fP] at hm
end
end
set_option maxRecDepth 100000
set_option maxHeartbeats 1000000
set_option linter.unusedVariables false
set_option linter.unusedSimpArgs false
def gdM (a:MR):Prop:=∀ r ∈ a,∀ q ∈ r,a6i q
def gdL (l:LR):Prop:=∀ q ∈ l,a6i q
theorem a9b (a b:Bool):(bif a then b else false)=(a&&b):=by cases a<;>rfl
theorem a9N {a:MR} (h:FQ a=true):a.length<=7/\∀ r ∈ a,r.length<=7/\∀ q ∈ r,mD q=true:=by
 unfold FQ at h
 rw[ak] at h
 refine⟨ru h.1,fun r hr=>?_⟩
 have:=xk.mp h.2 r hr
 unfold brL at this
 rw[ak] at this
 exact⟨ru this.1,fun q hq=>xk.mp this.2 q hq⟩
theorem a0E {a:MR} (h:FQ a=true) (g:gdM a):smK 100 a/\gU a:=by
 obtain⟨h1,h2⟩:=a9N h
 refine⟨⟨⟨by omega,fun r hr=>⟨by have:=(h2 r hr).1;omega,fun q hq=>?_⟩⟩,fun c=>?_⟩,⟨by omega,fun r hr=>⟨by have:=(h2 r hr).1;omega,fun q hq=>?_⟩⟩⟩
 ·have:=xK ((h2 r hr).2 q hq);exact⟨by omega,by omega⟩
 ·obtain⟨hM,ok⟩:=kY c
  have hr0:a.getD 0 [] ∈ a:=by
   have:0<a.length:=hM.2.2.1
   rw[bf,bn this];exact jv this
  have hw:wdM a<=7:=(h2 _ hr0).1
  refine⟨h1,hw,?_⟩
  have hs:szM (mq a) 1:=fun i hi j hj=>by
   have hi2:i<a.length:=by rw[pO] at hi;exact hi
   have hir:a.getD i [] ∈ a:=by rw[bf,bn hi2];exact jv hi2
   have hj2:j<(a.getD i []).length:=by
    have:=hM.row (i:=i) hi2
    rw[a4F,DC] at this
    rw[a3b] at hj;omega
   have e:ent (mq a) i j=((a.getD i []).getD j bU).x:=by
    show ((mq a).getD i []).getD j 0=_
    rw[a4F];unfold lq
    rw[bf,Ae,bn hj2,bf (l:=a.getD i []),bn hj2];rfl
   rw[e]
   have hq:(a.getD i []).getD j bU ∈ a.getD i []:=by rw[bf (l:=a.getD i []),bn hj2];exact jv hj2
   have hb:=xK ((h2 _ hir).2 _ hq)
   exact g _ hir _ hq 1 (aj 1) hb.1 hb.2
  have h4:=a8U hM hs
  have h5:a.length*(wdM a+1)<=7*8:=ou h1 (by omega)
  exact h4.mono (by omega)
 ·have:=xK ((h2 r hr).2 q hq);exact⟨by omega,by omega⟩
theorem b0Q {a b:MQ} {R C:Nat} (ha:isM a R C) (hb:isM b R C) (h:∀ i,i<R->∀ j,j<C->ent a i j=ent b i j):a=b:=by
 rw[<-ha.tab,<-hb.tab];exact fU h
theorem a4G {a:MQ} {R C K L:Nat} (h:isM a R C) (ha:szM a K) {x:LQ'} (hx:∀ q ∈ x,rsz q<=L) (hl:x.length=C):∀ q ∈ mvL a x,rsz q<=C*(K+L+1)+1:=fun q hq=>by
 obtain⟨i,hi,rfl⟩:=Aw hq
 have hi2:i<R:=by rw[uK,h.len] at hi;exact hi
 have e:(mvL a x)[i]=mv C (ent a) (lv x) i:=by
  rw[<-YP h hi2];unfold lv;rw[bf,bn hi];rfl
 rw[e]
 exact xH (K:=K+L) (f:=fun k=>ent a i k*lv x k) C (fun k hk=>by
  have y1:rsz (ent a i k)<=K:=ha i (by rw[h.len];exact hi2) k (by rw[h.wd];exact hk)
  have y2:rsz (lv x k)<=L:=hx _ (by unfold lv;rw[bf,bn (by omega)];exact jv _)
  have y3:=lS (ent a i k) (lv x k)
  show rsz (ent a i k*lv x k)<=_
  omega)
def FM (n g b:MQ):MQ:=mulM (mulM (sM g b) (mW (DK n g))) (trM (sM g b))
theorem SI {n g b:MQ} {N c:Nat} (hn:isM n N N) (hg:isM g N c) (hb:isM b N c) (hG:rG n g=true) (hR:pU (bgM g b)=true) :
  isM (FM n g b) N N/\tY (FM n g b)=true/\mulM (mulM n (FM n g b)) n=n/\mulM (FM n g b) (mulM n (FM n g b))=FM n g b/\IB (mulM (trM b) (FM n g b))=true/\∀ i,i<N->∀ j,j<N->ent (FM n g b) i j=around N (xG c (ent g) (ent b) (ent (mW (bgM g b)))) (ent (mW (DK n g))) i j:=by
 have H:=(a2v hn hg).mp hG
 have hw:=b5R hg hb hR
 have a1:isM (DK n g) N N:=KX (c:=c) hn
 have t:=hg.trp
 have e0:∀ i,i<N->∀ j,j<N->nor c (ent n) (ent g) i j=ent (DK n g) i j:=fun i hi j hj=>by
  unfold DK
  rw[hn.c0G hi hj,hg.KT t hi hj]
  show ent n i j+mm c (ent g) (tr (ent g)) i j=_
  congr 1
  exact jW (fun _ _=>rfl) fun k hk=>(hg.XI hk hj).symm
 have hq:uZ N (nor c (ent n) (ent g)) (ent (mW (DK n g))):=(a2K a1 (a3d hn hg hG)).congr e0 (fun _ _ _ _=>rfl)
 obtain⟨c1,c2,c3,c4⟩:=SL H hw hq
 have s1:isM (sM g b) N N:=VQ hg
 have i1:=a1.inv
 have t1:=s1.trp
 have q1:isM (FM n g b) N N:=(s1.mul i1).mul t1
 have eQ:∀ i,i<N->∀ j,j<N->ent (FM n g b) i j=around N (xG c (ent g) (ent b) (ent (mW (bgM g b)))) (ent (mW (DK n g))) i j:=fun i hi j hj=>by
  unfold FM around
  rw[(s1.mul i1).KT t1 hi hj]
  refine jW (fun k hk=>?_) fun k hk=>?_
  ·rw[s1.KT i1 hi hk];exact jW (fun l hl=>c0j hg hb hi hl) (fun _ _=>rfl)
  ·rw[s1.XI hk hj];exact c0j hg hb hj hk
 refine⟨q1,(a3L q1).mpr fun i hi j hj=>by rw[eQ i hi j hj,eQ j hj i hi];exact c1 i hi j hj,b0Q ((hn.mul q1).mul hn) hn fun i hi j hj=>?_,b0Q (q1.mul (hn.mul q1)) q1 fun i hi j hj=>?_,(a0b (hb.trp.mul q1)).mpr fun i hi j hj=>?_,eQ⟩
 ·rw[(hn.mul q1).KT hn hi hj]
  exact(jW (fun k hk=>by rw[hn.KT q1 hi hk];exact jW (fun _ _=>rfl) fun l hl=>eQ l hl k hk) fun _ _=>rfl).trans (c2 i hi j hj)
 ·rw[q1.KT (hn.mul q1) hi hj]
  exact(jW (fun k hk=>eQ i hi k hk) fun k hk=>by rw[hn.KT q1 hk hj];exact jW (fun _ _=>rfl) fun l hl=>eQ l hl j hj).trans ((c3 i hi j hj).trans (eQ i hi j hj).symm)
 ·rw[hb.trp.KT q1 hi hj]
  exact(jW (fun k hk=>hb.XI hi hk) fun k hk=>eQ k hk j hj).trans (c4 i hi j hj)
theorem a9x {n g b:MQ} {N:Nat} (hn:isM n N N) (nC:CdM n 100) (n7:N<=7) (hP:NW g b) (hl:g.length=N):CdM (FM n g b) 94000:=by
 have F:=a4T hP
 have hg:=F.g1
 rw[hl] at hg
 have s1:=F.s1
 rw[hl] at s1
 have a1:isM (DK n g) N N:=KX (c:=wdM g) hn
 have a2:=a6N hn hg F.c7 nC F.g2
 have i1:=a1.inv
 have h7:2 ^ N*(310+2)<=128*312:=ou (a3i n7) (aj _)
 have i2:CdM (mW (DK n g)) 39936:=(a2.inv a1).mono (by omega)
 exact((F.s2.mul i2 s1 i1).mul (F.s2.trp s1) (s1.mul i1) s1.trp).mono (by omega)
def AY (n g b:MR) (l:Option LR):Int :=
 if (eP n=0/\eP g=0/\eP b=0)/\okR (l.getD [])=true then
  if ((n.length=wdM n/\g.length=n.length)/\b.length=n.length/\wdM b=wdM g)/\(l.isSome=true->(l.getD []).length=n.length) then
   if rG (mq n) (mq g)=true then
    if pU (bgM (mq g) (mq b))=true then 0 else 14
   else 12
  else 4
 else 1
structure a8S (n g b:MR):Prop where
 cn:eP n=0
 cg:eP g=0
 cb:eP b=0
 e1:n.length=wdM n
 e2:g.length=n.length
 e3:b.length=n.length
 e4:wdM b=wdM g
 hG:rG (mq n) (mq g)=true
 hR:pU (bgM (mq g) (mq b))=true
theorem b5g {n g b:MR} {l:Option LR} (h:AY n g b l=0):a8S n g b/\okR (l.getD [])=true/\(l.isSome=true->(l.getD []).length=n.length):=by
 unfold AY at h
 by_cases h0:(eP n=0/\eP g=0/\eP b=0)/\okR (l.getD [])=true
 ·rw[ig h0] at h
  by_cases h1:((n.length=wdM n/\g.length=n.length)/\b.length=n.length/\wdM b=wdM g)/\(l.isSome=true->(l.getD []).length=n.length)
  ·rw[ig h1] at h
   by_cases h2:rG (mq n) (mq g)=true
   ·rw[ig h2] at h
    by_cases h3:pU (bgM (mq g) (mq b))=true
    ·exact⟨⟨h0.1.1,h0.1.2.1,h0.1.2.2,h1.1.1.1,h1.1.1.2,h1.1.2.1,h1.1.2.2,h2,h3⟩,h0.2,h1.2⟩
    ·rw[iq h3] at h;exact absurd h (by decide)
   ·rw[iq h2] at h;exact absurd h (by decide)
  ·rw[iq h1] at h;exact absurd h (by decide)
 ·rw[iq h0] at h;exact absurd h (by decide)
theorem a5W {n g b:MR} {r:LR} (F:a8S n g b) (h1:okR r=true) (h2:r.length=n.length):oG n g b r=if XF (mq n) (lq r)=true then (mvL (sM (mq g) (mq b)) (FZ (mq n) (lq r)),0,()) else ([],6,()):=by
 unfold oG
 rw[ig ⟨⟨F.cn,F.cg,F.cb⟩,h1⟩,ig ⟨⟨⟨F.e1,F.e2⟩,F.e3,F.e4⟩,h2⟩,ig F.hG,ig F.hR]
theorem a9y {n g b:MR} (F:a8S n g b):yV n g b=(FM (mq n) (mq g) (mq b),0,()):=by
 unfold yV
 rw[ig ⟨F.cn,F.cg,F.cb⟩,ig ⟨⟨F.e1,F.e2⟩,F.e3,F.e4⟩,ig F.hG,ig F.hR];rfl
structure c2Y (n g b:MR) (N c:Nat):Prop where
 hn:isM (mq n) N N
 hg:isM (mq g) N c
 hb:isM (mq b) N c
 n7:N<=7
 c7:c<=7
 nC:CdM (mq n) 100
 gC:CdM (mq g) 100
 bC:CdM (mq b) 100
theorem a8S.m {n g b:MR} (F:a8S n g b) (pn:smK 100 n) (pg:smK 100 g) (pb:smK 100 b):c2Y n g b n.length (wdM g):=by
 obtain⟨hn,n7,wn7,nC⟩:=pn.at F.cn
 obtain⟨hg,g7,wg7,gC⟩:=pg.at F.cg
 obtain⟨hb,b7,wb7,bC⟩:=pb.at F.cb
 have e1:=F.e1
 have e2:=F.e2
 have e3:=F.e3
 have e4:=F.e4
 rw[<-e1] at hn
 rw[e2] at hg
 rw[e3,e4] at hb
 exact⟨hn,hg,hb,n7,wg7,nC,gC,bC⟩
theorem b5Z {l:ML}:jG l=0↔∀ a ∈ l,eP a=0:=by
 unfold jG
 split
 ·next h =>
  obtain⟨a,ha,h2⟩:=vw.mp h
  exact⟨fun h=>absurd h (by decide),fun h3=>by rw[h3 a ha] at h2;exact absurd h2 (by decide)⟩
 ·next h=>exact⟨fun _ a ha=>by
   by_cases e:eP a=0
   ·exact e
   ·exact absurd (vw.mpr ⟨a,ha,(by exact uy.mpr e:(eP a != 0)=true)⟩) h,fun _=>rfl⟩
theorem b6a {l:ML} (h:¬ jG l=0):jG l=1:=by
 unfold jG at h ⊢
 split
 ·rfl
 ·next h2=>exact absurd (iq h2) h
theorem c1G {a b c:MR}:jG [a,b,c]=0↔eP a=0/\eP b=0/\eP c=0:=by rw[b5Z];simp
theorem two' {a b:MR} (ha:gU a) (hb:gU b):∀ x ∈ [a,b],gU x:=fun x h=>by
 rcases uo.mp h with rfl|h
 ·exact ha
 ·rw[qh.mp h];exact hb
theorem c0t {a b c:MR} (ha:gU a) (hb:gU b) (hc:gU c):∀ x ∈ [a,b,c],gU x:=fun x h=>by
 rcases uo.mp h with rfl|h
 ·exact ha
 ·exact two' hb hc x h
abbrev tFr:Ty:=.pair (.pair tMR .unit) (.pair tMR .unit)
def c3y:Ctr:=⟨[tM,.list tQ],[tQ],a9h.pre,a9h.fn⟩
theorem b3v:aW Tryz.prog 33 c3y:=by
 refine bH (nil0.ad b1J) ⟨[4],[],[]⟩ Tryz.func33 rfl (by decide) (fun x=>[]) (fun x hp=>?_)
 obtain⟨a,v,u⟩:=x
 change List (List Rat) at a
 change List Rat at v
 refine bP (((okM a/\szM a 1000000/\wdM a=List.length a/\List.length v=wdM a/\List.length a<=10/\∀ (q:Rat),q ∈ v->rsz q<=100000)/\True)/\True/\wK a v=wK a v/\True) (by kernel_rfl) ?_
 try simp only[aT,ay,au]
 try dsimp only[Ty.den,Lf.den,asT] at *
 try simp only[yH,yA,trF,yI]
 have hZ:(⟨false,0,[],[]⟩:aF)=bU:=rfl
 try dsimp only[aB,asT,aA,aC,Ty.den,Lf.den] at *
 try simp only[hZ,Int.toNat_natCast,aT,ay,au,oh,ny,aH,nameAt,aV,aS,bF,rowAt,iw,gy]
 try simp only[kX,List.all_cons,List.all_nil,xu,mg,tu,ji,uy,ne_eq,ak,qm,jo,qw,uw,Ci,yw,Cj,oh,ny,jC,uf,qo,List.length_cons,List.length_nil]
 try simp only[wdF,kJ,kU]
 exact hp
def c3n:Ctr:=⟨[tMR,tFr,.nls tR],[tI],fun x=>(smK 100 x.1/\gU x.1)/\(smK 100 x.2.1.1.1/\gU x.2.1.1.1)/\(smK 100 x.2.1.2.1/\gU x.2.1.2.1)/\oC (Option.getD (α:=LR) x.2.2.1 []),fun x=>(AY x.1 x.2.1.1.1 x.2.1.2.1 x.2.2.1,())⟩
theorem b2T:aW Tryz.prog 21 c3n:=by
 refine bH ((((nil0.ad OD).ad a2Z).ad b3w).ad b4B) ⟨[],[],[]⟩ Tryz.func21 rfl (by decide) (fun x=>[]) (fun x hp=>?_)
 obtain⟨n,x,l,u⟩:=x
 change List (List aF) at n
 change (List (List aF) × Unit) × List (List aF) × Unit at x
 change Option (List aF) at l
 refine bP (let bZ:=(fun(xs:Ty.den (Ty.list (Ty.lf Lf.dG)))=>List.map (fun(x:Ty.den (Ty.lf Lf.dG))=>aF.x x) xs);let dS:=(fun(x:Ty.den (Ty.list (Ty.lf Lf.dG)))=>bY (eH (fun(x:Ty.den (Ty.lf Lf.dG))=>bY ((aF.ok x=true)::aC Prop)) x::aC Prop));let iY:=(List.getD n 0 (aC aF)).length;let kV:=(Option.getD l (aC aF));let oH:=x.1.1;let bK:=(asT (List (List aF)) oH);let A₂:=(bif aB n.length != aB iY then true else aB bK.length != aB n.length);let iH:=((A₂==false)=true->(A₂==false)=true/\True);let pY:=x.2.1;let dJ:=(asT (List (List aF)) pY);let A₁:=(bif bif aB n.length != aB iY then true else aB bK.length != aB n.length then true else aB dJ.length != aB n.length);let gB:=((A₁==false)=true->(A₁==false)=true/\True);let eU:=(n::asT (List (List aF)) oH::asT (List (List aF)) pY::aC (List (List aF)));let gG:=(List.getD dJ 0 (aC aF)).length;let uH:=(List.getD bK 0 (aC aF)).length;let A₀:=(bif bif bif aB n.length != aB iY then true else aB bK.length != aB n.length then true else aB dJ.length != aB n.length then true else aB gG != aB uH);let gQ:=(A₀==false&&Option.isSome l==true);let lF:=((A₀==false)=true->(A₀==false)=true/\True);let rC:=(aB n.length != aB iY);let aQ:=(rC==false);let lJ:=(aQ=true->aQ=true/\True);let C₁:=(gQ=true->gQ=true/\True);((List.length eU<=1000000/\∀ (a:List (List aF)),a ∈ n::asT (List (List aF)) oH::asT (List (List aF)) pY::aC (List (List aF))->gU a)/\True)/\ifB (jG eU != 0) (True/\jG eU=AY n bK dJ l/\True) ((oC kV/\True)/\ifB (!okL kV) (True/\1=AY n bK dJ l/\True) ((asT Int 0<=0/\0<aB n.length/\lJ/\lJ/\lJ/\lJ/\(aQ=true->aQ=true/\aQ=true/\True)/\(rC=false->aQ=true)/\iH/\iH/\iH/\((A₂==false)=true->(A₂==false)=true/\(A₂==false)=true/\True)/\(A₂=false->(A₂==false)=true)/\gB/\((A₁==false)=true->(A₁==false)=true/\asT Int 0<=0/\0<aB dJ.length/\True)/\gB/\gB/\gB/\gB/\((A₁==false)=true->(A₁==false)=true/\asT Int 0<=0/\0<aB bK.length/\True)/\gB/\gB/\((A₁==false)=true->(A₁==false)=true/\(A₁==false)=true/\True)/\(A₁=false->(A₁==false)=true)/\lF/\lF/\C₁/\C₁/\(gQ=true->gQ=true/\gQ=true/\True)/\((A₀==false)=true->(A₀==false)=true/\(Option.isSome l=true->gQ=true)/\True)/\(A₀=false->(A₀==false)=true)/\True)/\ifB (bif bif bif bif aB n.length != aB iY then true else aB bK.length != aB n.length then true else aB dJ.length != aB n.length then true else aB gG != aB uH then true else bif Option.isSome l then aB kV.length != aB n.length else false) (True/\4=AY n bK dJ l/\True) ((eH dS n/\eH dS bK/\(a0G (List.map bZ n) (List.map bZ bK)/\List.length (List.map bZ bK)<=7)/\True)/\ifB (!rG (List.map bZ n) (List.map bZ bK)) (True/\12=AY n bK dJ l/\True) ((eH dS bK/\eH dS dJ/\NW (List.map bZ bK) (List.map bZ dJ)/\True)/\ifB (!pU (bgM (List.map bZ bK) (List.map bZ dJ))) (True/\14=AY n bK dJ l/\True) (True/\0=AY n bK dJ l/\True)))))) (by kernel_rfl) ?_
 try simp only[aT,ay,au]
 try dsimp only[Ty.den,Lf.den,asT] at *
 try simp only[yH,yA,trF,yI]
 have hZ:(⟨false,0,[],[]⟩:aF)=bU:=rfl
 try dsimp only[aB,asT,aA,aC,Ty.den,Lf.den] at *
 try simp only[hZ,Int.toNat_natCast,aT,ay,au,oh,ny,aH,nameAt,aV,aS,bF,rowAt,iw,gy]
 try simp only[kX,List.all_cons,List.all_nil,xu,mg,tu,ji,uy,ne_eq,ak,qm,jo,qw,uw,Ci,yw,Cj,oh,ny,jC,uf,qo,List.length_cons,List.length_nil]
 try simp only[wdF,kJ,kU]
 have hp:(smK 100 n/\gU n)/\(smK 100 x.1.1/\gU x.1.1)/\(smK 100 x.2.1/\gU x.2.1)/\oC (l.getD []):=hp
 obtain⟨⟨g,u1⟩,b,u2⟩:=x
 obtain⟨⟨pn,n'⟩,⟨pg,g'⟩,⟨pb,b'⟩,hl⟩:=hp
 dsimp only at pg g' pb b' ⊢
 refine⟨⟨by omega,c0t n' g' b'⟩,fun h=>?_,fun h=>⟨hl,fun h2=>?_,fun h2=>?_⟩⟩
 ·unfold AY;rw[b6a h,iq (fun hh=>h (c1G.mpr hh.1))]
 ·unfold AY;rw[iq (fun hh=>by have:okL (l.getD [])=true:=hh.2;rw[h2] at this;cases this)]
 ·obtain⟨cn,cg,cb⟩:=c1G.mp h
  have h0:(eP n=0/\eP g=0/\eP b=0)/\okR (l.getD [])=true:=⟨⟨cn,cg,cb⟩,h2⟩
  have n0:=(kY cn).1.2.2.1
  have g0:=(kY cg).1.2.2.1
  have b0:=(kY cb).1.2.2.1
  have hq:(bif l.isSome then ((l.getD []).length:Int) != (n.length:Int) else false)=false↔(l.isSome=true->(l.getD []).length=n.length):=by
   cases l.isSome
   ·simp
   ·simp only[cond_true,qw,forall_const];omega
  refine⟨⟨by omega,by omega,fun h=>⟨h,by omega,by omega⟩,fun h=>⟨h,by omega,by omega⟩,fun h=>⟨h,fun h3=>⟨h,h3⟩⟩⟩,fun h3=>?_,fun h3=>?_⟩
  ·unfold AY
   rw[ig h0,iq (fun hh=>?_)]
   rcases h3 with h3|h3
   ·obtain⟨⟨⟨e1,e2⟩,e3,e4⟩,_⟩:=hh
    rcases h3 with((h3|h3)|h3)|h3
    ·exact h3 e1
    ·exact h3 e2
    ·exact h3 e3
    ·exact h3 e4
   ·rw[hq.mpr hh.2] at h3;cases h3
  ·obtain⟨⟨⟨⟨e1,e2⟩,e3⟩,e4⟩,h4⟩:=h3
   have h1:((n.length=wdM n/\g.length=n.length)/\b.length=n.length/\wdM b=wdM g)/\(l.isSome=true->(l.getD []).length=n.length):=⟨⟨⟨e1,e2⟩,e3,e4⟩,hq.mp h4⟩
   refine⟨⟨tZ (kY cn).2,tZ (kY cg).2,a0H pn pg (by omega) cn cg e1 e2,by rw[pO];exact(pg.at cg).2.1⟩,fun h5=>?_,fun h5=>⟨⟨tZ (kY cg).2,tZ (kY cb).2,LG pg pb cg cb (by omega) e4⟩,fun h6=>?_,fun h6=>?_⟩⟩
   ·unfold AY;rw[ig h0,ig h1,iq (by rw[h5];decide)]
   ·unfold AY;rw[ig h0,ig h1,ig h5,iq (by rw[h6];decide)]
   ·unfold AY;rw[ig h0,ig h1,ig h5,ig h6]
theorem a6x {l:LR} (h:brL l 10=true) (g:gdL l):smL 1 l/\oC l/\l.length<=10:=by
 unfold brL at h
 rw[ak] at h
 have h1:l.length<=10:=ru h.1
 have h2:∀ q ∈ l,q.n<=1/\q.m<=1:=fun q hq=>xK (xk.mp h.2 q hq)
 exact⟨⟨⟨by omega,fun q hq=>⟨by have:=(h2 q hq).1;omega,by have:=(h2 q hq).2;omega⟩⟩,fun _ q hq=>g q hq 1 (aj 1) (h2 q hq).1 (h2 q hq).2⟩,⟨by omega,fun q hq=>⟨by have:=(h2 q hq).1;omega,by have:=(h2 q hq).2;omega⟩⟩,h1⟩
section
open Go Go.ChangeShapes Go.WideShapes Go.ChangeAt Go.RowKit Go.Joins
set_option maxRecDepth 100000 in
theorem AZ {pre:(nest [(.list (.list (.lf .dG))),(.arr 2 (.pair (.pair (.list (.list (.lf .dG))) .unit) (.pair (.list (.list (.lf .dG))) .unit))),(.arr 2 (.list (.lf .dG)))]).den->Prop} (h:aW Tryz.prog 6 ⟨[(.list (.list (.lf .dG))),(.arr 2 (.pair (.pair (.list (.list (.lf .dG))) .unit) (.pair (.list (.list (.lf .dG))) .unit))),(.arr 2 (.list (.lf .dG)))],[.bool],pre,fun _=>(true,())⟩) (hp:∀ (x0:Ty.den (.list (.list (.lf .dG)))) (x1:Ty.den (.arr 2 (.pair (.pair (.list (.list (.lf .dG))) .unit) (.pair (.list (.list (.lf .dG))) .unit)))) (x2:Ty.den (.arr 2 (.list (.lf .dG)))),good (.list (.list (.lf .dG))) x0->good (.arr 2 (.pair (.pair (.list (.list (.lf .dG))) .unit) (.pair (.list (.list (.lf .dG))) .unit))) x1->good (.arr 2 (.list (.lf .dG))) x2->pre (x0,x1,x2,())):Rows.DatumEstimablesSaid:=by
 have lifted:∀ (os:Os) (started:os.Started) (H:Type) (enc:TypeId × Value->H),ReturnsInHanded {} Tryz.checked os 6 .any (Rows.datumEstimablesSpec.pre6 enc Tryz.prog Tryz.f6 Rows.datumEstimablesRow.domain false) (Rows.datumEstimablesSpec.post enc Tryz.prog Tryz.f6 false true false false):=by
  intro os started H enc
  refine returnsInHanded_of_change (C:=Tryz.checked) own started (by kernel_rfl) Tryz.func6
   (ChangeSpec.witness6 (enc:=enc) (C:=Tryz.checked) false ⟨#[],#[.slice none 0 0,.agg #[.slice none 0 0,.slice none 0 0,.slice none 0 0,.slice none 0 0],.agg #[.slice none 0 0,.slice none 0 0]],[]⟩ 8 (by kernel_rfl) (by kernel_rfl) (by kernel_rfl) (by kernel_rfl)) ?_
  intro W base args ds gs before hval0 hW hcnd _
  have hval:∀ (j:Nat) t v,Tryz.f6.params[j]?=some t->args[j]?=some v->Value.okWide Tryz.prog W .any base t v:=hval0
  have hW':=hW
  obtain⟨p,q,hA0,hV,rfl,hfz,hnd⟩:=hW
  have hA:DataW.TrodAll enc Tryz.prog W 0 (fun _=>true) true Tryz.f6.params.toList args.toList ds p:=hA0
  rw[Tryz.params6] at hA hval
  obtain⟨v0,vs0,d0,ds0,p0,q0,hargs,rfl,rfl,h0,r0⟩:=trodAll_cons hA
  obtain⟨v1,vs1,d1,ds1,p1,q1,rfl,rfl,rfl,h1,r1⟩:=trodAll_cons r0
  obtain⟨v2,vs2,d2,ds2,p2,q2,rfl,rfl,rfl,h2,r2⟩:=trodAll_cons r1
  obtain⟨rfl,rfl,rfl⟩:=trodAll_nil r2
  obtain rfl:args=#[v0,v1,v2]:=by cases args;simp_all
  obtain⟨rfl,rfl⟩:=trodVars_none hV
  obtain⟨x0,k0,g0⟩:=a4i (t:=.list (.list (.lf .dG))) (by kernel_rfl) (hval 0 23 v0 rfl rfl) h0
  have l0:∀ x ∈ p0,x.block<W.heap.size:=fun x hx=>hW'.lt x (by simp[hx])
  obtain⟨x1,k1,g1⟩:=a4i (t:=.arr 2 (.pair (.pair (.list (.list (.lf .dG))) .unit) (.pair (.list (.list (.lf .dG))) .unit))) (by kernel_rfl) (hval 1 54 v1 rfl rfl) h1
  have l1:∀ x ∈ p1,x.block<W.heap.size:=fun x hx=>hW'.lt x (by simp[hx])
  obtain⟨x2,k2,g2⟩:=a4i (t:=.arr 2 (.list (.lf .dG))) (by kernel_rfl) (hval 2 55 v2 rfl rfl) h2
  have l2:∀ x ∈ p2,x.block<W.heap.size:=fun x hx=>hW'.lt x (by simp[hx])
  refine(h (a4g W) W [v0,v1,v2] (x0,x1,x2,()) (fun q hq=>hq) ⟨_,_,rfl,k0,_,_,rfl,k1,_,_,rfl,k2,rfl⟩ (hp x0 x1 x2 g0 g1 g2)).mono fun e W' ⟨v,he,hr,hg⟩=>?_
  subst he
  have hr:kE _ W' .bool v true:=hr
  rw[b5S hr]
  exact⟨_,rfl,_,_,_,[],_,[],hW',trodAll_cons_mk (shut_bool Tryz.underlying4 _) trodAll_mk0,(trodAll_cons_mk (Below.trod laidOut (by kernel_rfl) (ru (by kernel_rfl)) h0 hg l0) (trodAll_cons_mk (Below.trod laidOut (by kernel_rfl) (ru (by kernel_rfl)) h1 hg l1) (trodAll_cons_mk (Below.trod laidOut (by kernel_rfl) (ru (by kernel_rfl)) h2 hg l2) trodAll_mk0))),rfl,hg.frame _,fun h=>by cases h⟩
 exact OpenClaim.holds_of_wide 6 Tryz.f6 rfl rfl rfl rfl rfl rfl rfl ⟨rfl,rfl,rfl,rfl,rfl⟩ rfl rfl rfl rfl rfl (by kernel_rfl) Tryz.func6 (by kernel_rfl)
  (ru (by kernel_rfl)) (by unfold Func.isWrapper;first|(rw[ig (by decide +kernel)];kernel_rfl)|(rw[iq (by decide +kernel)];exact⟨rfl,rfl⟩))
  (fun os started H enc _=>lifted os started H enc)
end
theorem b6i {x:MR} (g:good (.list (.list (.lf .dG))) x):gdM x:=fun r hr q hq=>(g.2 r hr).2 q hq
theorem c3W {x:LR} (g:good (.list (.lf .dG)) x):gdL x:=fun q hq=>g.2 q hq
theorem b3t {g:MR} {a:LR} {N c:Nat} (hg:isM (mq g) N c) (h:(oI g a).any (fun q=>q != 0)=false):∀ s,s<c->mv N (tr (ent (mq g))) (lv (lq a)) s=0:=fun s hs=>by
 have t1:=hg.trp
 have hl:s<(oI g a).length:=by unfold oI;rw[uK,t1.len];exact hs
 have h1:=yj.mp h _ (kF (d:=0) hl)
 have h2:lv (oI g a) s=0:=by
  cases Classical.em (lv (oI g a) s=0) with
  | inl h=>exact h
  | inr h=>exact absurd (uy.mpr h) h1
 unfold oI at h2
 rw[YP t1 hs] at h2
 rw[<-h2]
 exact JD fun k hk=>(hg.XI hs hk).symm
theorem a6d {g b:MQ} {a x:LQ'} {N c:Nat} (hg:isM g N c) (hb:isM b N c) (hq:∀ s,s<c->mv N (tr (ent g)) (lv a) s=0):sm N (fun i=>lv a i*lv (mvL (sM g b) x) i)=dt N (lv a) (lv x):=by
 rw[<-MV (ent b) (ent (mW (bgM g b))) hq (lv x)]
 exact fE N fun i hi=>by rw[c2K hg hb hi]
theorem a6e {n g b:MQ} {a:LQ'} {N c:Nat} (hn:isM n N N) (hg:isM g N c) (hb:isM b N c) (hG:rG n g=true) (hR:pU (bgM g b)=true) (hq:∀ s,s<c->mv N (tr (ent g)) (lv a) s=0) :
  dt N (lv a) (mv N (ent (FM n g b)) (lv a))=dt N (lv a) (mv N (ent (mW (DK n g))) (lv a)):=by
 obtain⟨_,_,_,_,_,e⟩:=SI hn hg hb hG hR
 rw[<-a9M (ent b) (ent (mW (bgM g b))) (ent (mW (DK n g))) hq]
 exact TD fun i hi=>JD fun k hk=>e i hi k hk
theorem a0B {a x:LQ'} {K n:Nat} (ha:∀ q ∈ a,rsz q<=1) (hx:∀ q ∈ x,rsz q<=K) (la:n<=a.length) (lx:n<=x.length):rsz (sm n fun i=>lv a i*lv x i)<=n*(K+2)+1:=by
 have h:=xH (K:=K+1) (f:=fun i=>lv a i*lv x i) n (fun i hi=>by
  have y1:rsz (lv a i)<=1:=ha _ (kF (by omega))
  have y2:rsz (lv x i)<=K:=hx _ (kF (by omega))
  have y3:=lS (lv a i) (lv x i)
  show rsz (lv a i*lv x i)<=_
  omega)
 exact h
theorem a6h {Q:MQ} {a:LQ'} {N:Nat} (hQ:isM Q N N) (hC:szM Q 94000) (ha:∀ q ∈ a,rsz q<=1) (la:a.length=N) (n7:N<=7):rsz (wK Q a)<=190000000:=by
 have h1:=a4G hQ hC ha la
 have h2:N*(94000+1+1)+1<=7*(94000+1+1)+1:=Nat.add_le_add_right (ou n7 (aj _)) _
 have h3:=a0B (n:=N) ha (fun q hq=>jg (h1 q hq) h2) (by omega) (by rw[uK,hQ.len];omega)
 have h4:N*(7*(94000+1+1)+1+2)+1<=7*(7*(94000+1+1)+1+2)+1:=Nat.add_le_add_right (ou n7 (aj _)) _
 unfold wK
 rw[la]
 omega
theorem a6g {Q:MQ} {a:LQ'} {N:Nat} (hQ:isM Q N N) (la:a.length=N):wK Q a=dt N (lv a) (mv N (ent Q) (lv a)):=by
 unfold wK
 rw[la]
 exact fE N fun i hi=>by rw[YP hQ hi]
theorem a9r (g:MR):jG [g]=eP g:=by
 have h01:eP g=0\/eP g=1:=by unfold eP;split<;>simp
 rcases h01 with h|h<;>simp[jG,h]
theorem b6V:(fun q:Rat=>q != 0)=(fun q=>decide (¬ q=0)):=funext fun q=>by by_cases h:q=0<;>simp[h]
end Go.Proofs.YtgplhbhfdgempaaGreat
