/-
  Lemmas for the theorem vtransforms_holds, part 38 of 39.
-/
import Derived.Carry
import Derived.Test.YtgplhbhfdgempaaGreatTr37
namespace Go.Proofs.YtgplhbhfdgempaaGreat
open Go Go.RowKit
section
open Go Go.ChangeShapes Go.WideShapes Go.ChangeAt Go.RowKit Go.Joins
set_option linter.unusedVariables false
set_option linter.unusedSimpArgs false
set_option maxRecDepth 100000
theorem laidOut:laidOutB Tryz.prog=true:=by kernel_rfl
theorem a8L:Tryz.prog.cellsOf 64=4:=by kernel_rfl
theorem a8K:Tryz.prog.cellsOf 62=2:=by kernel_rfl
theorem a7a:Tryz.prog.cellsOf 60=1:=by kernel_rfl
theorem a6Z:Tryz.prog.cellsOf 4=1:=by kernel_rfl
theorem a8M:Tryz.prog.cellsOf 133=1:=by kernel_rfl
def a5E (q:aF):Prop:=∀ K,1<=K->q.n<=K->q.m<=K->rsz q.x<=K
def c0o {α:Type} (p:α->Prop) (xs:List α):Prop:=∀ x ∈ xs,p x
def good:(t:Ty)->t.den->Prop
 | .bool,_=>True
 | .int k,n=>(Lit.int k n).wf=true
 | .lf .dF,q=>a5E q
 | .lf _,_=>True
 | .list t,xs=>List.length (α:=t.den) xs<=9223372036854775807/\c0o (good t) xs
 | .arr n t,xs=>List.length (α:=t.den) xs=n/\c0o (good t) xs
 | .pair a b,x=>good a x.1/\good b x.2
 | .unit,_=>True
 | .ref _,_=>True
 | .clo _ _,_=>True
 | .nls _,_=>True
noncomputable def fK:Ty->Option TypeId->List Field->Nat->Bool
 | .pair a b,none,f::fs,o=>f.offset==o&&Tryz.prog.cellsOf f.type==a.n&&fK a (some f.type) [] 0&&fK b none fs (o+a.n)
 | .unit,none,[],_=>true
 | .bool,some T,_,_=>match Tryz.prog.underlying T with
  | some .bool=>true
  | _=>false
 | .int k,some T,_,_=>match Tryz.prog.underlying T with
  | some (.int k')=>k==k'
  | _=>false
 | .lf .dF,some T,_,_=>T==64
 | .list t,some T,_,_=>match Tryz.prog.underlying T with
  | some (.slice e)=>Tryz.prog.cellsOf e==t.n&&decide (0<t.n)&&fK t (some e) [] 0
  | _=>false
 | .arr n t,some T,_,_=>match Tryz.prog.underlying T with
  | some (.array m e)=>m==n&&Tryz.prog.cellsOf e==t.n&&Tryz.prog.cellsOf T==n*t.n&&fK t (some e) [] 0
  | _=>false
 | .pair a b,some T,_,_=>match Tryz.prog.underlying T with
  | some (.struct fs)=>Tryz.prog.cellsOf T==a.n+b.n&&(match fs.toList with
   | f::fs'=>f.offset==0&&Tryz.prog.cellsOf f.type==a.n&&fK a (some f.type) [] 0&&fK b none fs' a.n
   | []=>false)
  | _=>false
 | _,_,_,_=>false
section
variable {H:Type} {enc:TypeId × Value->H} {W:World}
theorem a8B {a:Addr} {v:Value} (h:W.cell? a=some v):a=⟨a.block,a.off,none⟩/\a.block<W.heap.size:=by
 have h1:=World.cell?_spot h
 refine⟨by obtain⟨b,o,s⟩:=a;cases h1;rfl,?_⟩
 exact World.block_lt_of_cell? W a h
theorem b5d {n:Nat} {cs:List Value} {y:DataW H × List MemPlace} (h:DataW.trod enc Tryz.prog W 0 (fun _=>true) true n 60 cs=some y):∃ p l c,cs=[.slice p l.length c]/\Rd W (.slice p l.length c) l/\∀ g ∈ l,g<4294967296:=by
 rcases open_ints (k:=.u32) jo Tryz.underlying133 a8M h with⟨rfl,_⟩|⟨a,len,cap,zs,rfl,_,h1,h2,h3,_,h4,h5⟩
 ·exact⟨none,[],0,rfl,.inl ⟨none,rfl,rfl⟩,by simp⟩
 ·simp at h3
  by_cases hc:cap=0
  ·have hl:len=0:=by omega
   subst hc hl
   exact⟨some a,[],0,rfl,.inl ⟨_,rfl,rfl⟩,by simp⟩
  ·obtain⟨ha,hb⟩:=a8B (h4 0 (by omega))
   have ha:a=⟨a.block,a.off,none⟩:=by simpa [Addr.add] using ha
   have hb:a.block<W.heap.size:=by simpa [Addr.add] using hb
   have hz:∀ n ∈ zs,0<=n/\n<4294967296:=fun n hn=>by
    have:=h5 n hn
    simp[Lit.wf,IntKind.min,IntKind.max,IntKind.signed,IntKind.bits] at this
    omega
   have hL:((zs.take len).map Int.toNat).length=len:=by simp;omega
   refine⟨some a,(zs.take len).map Int.toNat,cap,by rw[hL],.inr ⟨a.block,a.off,cap,by rw[<-ha],by rw[hL];exact h1,by unfold maxLen at h2;omega,hb,fun i hi=>?_⟩,fun g hg=>?_⟩
   ·rw[hL] at hi
    have hi':i<zs.length:=by omega
    have hc:=h4 i hi'
    have hm:zs[i] ∈ zs:=oh hi'
    have:=hz _ hm
    have hg:((gr ((zs.take len).map Int.toNat) i:Nat):Int)=zs.getD i 0:=by
     have e1:gr ((zs.take len).map Int.toNat) i=(zs[i]).toNat:=by simp[gr,List.getD,hi,hi']
     have e2:zs.getD i 0=zs[i]:=by simp[List.getD,hi']
     rw[e1,e2];omega
    rw[hg,<-hc,ha]
    rw[add_plain]
   ·obtain⟨x,hx,rfl⟩:=ru.1 hg
    have:=hz x (Dp hx)
    omega
theorem c3X {α:Type} {l:List α} (h:l.length=4):∃ a b c d,l=[a,b,c,d]:=by
 match l,h with
 | [a,b,c,d],_=>exact⟨a,b,c,d,rfl⟩
theorem b6B {n:Nat} {cs:List Value} {y:DataW H × List MemPlace} (h:DataW.trod enc Tryz.prog W 0 (fun _=>true) true n 64 cs=some y):∃ x:aF,Lf.rep W cs .dF x/\a5E x:=by
 obtain⟨xs,m,_,_,hl,hlen,hf⟩:=DataW.trod_struct Tryz.underlying64 h
 rw[a8L] at hl
 obtain⟨c0,c1,c2,c3,rfl⟩:=c3X hl
 match xs,hlen with
 | [y0,y1],_ =>
 have k0:=hf 0 _ rfl
 have k1:=hf 1 _ rfl
 obtain⟨xs0,m0,_,_,_,hlen0,hf0⟩:=DataW.trod_struct Tryz.underlying62 k0
 obtain⟨xs1,m1,_,_,_,hlen1,hf1⟩:=DataW.trod_struct Tryz.underlying62 k1
 match xs0,hlen0,xs1,hlen1 with
 | [z0,z1],_,[z2,z3],_ =>
 have a0:=hf0 0 _ rfl
 have a1:=hf0 1 _ rfl
 have a2:=hf1 0 _ rfl
 have a3:=hf1 1 _ rfl
 simp[a8K,a6Z,a7a] at a0 a1 a2 a3
 obtain⟨b,e0,_⟩:=DataW.trod_bool Tryz.underlying4 a0
 obtain⟨d,e2,_⟩:=DataW.trod_bool Tryz.underlying4 a2
 simp at e0 e2
 subst e0 e2
 obtain⟨p,l,c,e1,r1,l1⟩:=b5d a1
 obtain⟨q,k,e,e3,r3,l3⟩:=b5d a3
 simp at e1 e3
 subst e1 e3
 have hq:iD W (.agg #[.bool b,.slice p l.length c,.bool d,.slice q k.length e]) _ _:=⟨_,_,_,_,_,_,_,_,rfl,⟨b,_,l,rfl,r1,l1,rfl,rfl⟩,⟨d,_,k,rfl,r3,l3,rfl,rfl⟩,rfl,rfl⟩
 exact⟨⟨_,_,l,k⟩,⟨b,p,c,d,q,e,rfl,hq,r1,r3⟩,fun K h1 h2 h3=>hq.kS ⟨b,p,_,c,d,q,_,e,rfl,h2,h3⟩ h1⟩
theorem a0A {α:Type} {Q:Nat->α->Prop}:∀ n,(∀ i,i<n->∃ x,Q i x)->∃ xs:List α,xs.length=n/\∀ i (h:i<xs.length),Q i xs[i]
 | 0,_=>⟨[],rfl,fun i h=>by simp at h⟩
 | n+1,h=>by
  obtain⟨xs,h1,h2⟩:=a0A n (fun i hi=>h i (by omega))
  obtain⟨x,hx⟩:=h n (by omega)
  refine⟨xs++[x],by simp[h1],fun i hi=>?_⟩
  by_cases e:i<xs.length
  ·rw[List.getElem_append_left e];exact h2 i e
  ·have:i=n:=by simp at hi;omega
   subst this
   rw[List.getElem_append_right (by omega)]
   simpa using hx
theorem zY {α:Type} {R:List Value->α->Prop} {b o ce:Nat}:∀ (xs:List α) (k:Nat),(∀ i (h:i<xs.length),∃ c,c.length=ce/\(∀ j v,c[j]?=some v->W.cell? ⟨b,o+((k+i)*ce+j),none⟩=some v)/\R c xs[i])->∃ ds,(∀ j v,ds[j]?=some v->W.cell? ⟨b,o+(k*ce+j),none⟩=some v)/\chunks R ds xs
 | [],k,_=>⟨[],fun j v h=>by simp at h,rfl⟩
 | x::xs,k,h=>by
  obtain⟨c,h1,h2,h3⟩:=h 0 (by simp)
  obtain⟨ds,h4,h5⟩:=zY xs (k+1) (fun i hi=>by
   obtain⟨c,h1,h2,h3⟩:=h (i+1) (by simpa using hi)
   exact⟨c,h1,fun j v hj=>by rw[show k+1+i=k+(i+1) by omega];exact h2 j v hj,h3⟩)
  refine⟨c++ds,fun j v hj=>?_,c,ds,rfl,h3,h5⟩
  by_cases e:j<c.length
  ·rw[Ak e] at hj
   exact h2 j v hj
  ·rw[Dn (by omega)] at hj
   have:=h4 _ _ hj
   rw[Aq,Nat.one_mul] at this
   rwa [show k*ce+ce+(j-c.length)=k*ce+j by omega] at this
theorem BO {α:Type} {R:List Value->α->Prop} {ce:Nat}:∀ (xs:List α) (cs:List Value),cs.length=xs.length*ce->(∀ i (h:i<xs.length),R ((cs.drop (i*ce)).take ce) xs[i])->chunks R cs xs
 | [],cs,h,_=>ou (by simpa using h)
 | x::xs,cs,h,hR=>by
  rw[List.length_cons,Ah] at h
  refine⟨cs.take ce,cs.drop ce,(Cc ce cs).symm,?_,BO (ce:=ce) xs (cs.drop ce) (by rw[Ap];omega) (fun i hi=>?_)⟩
  ·have:=hR 0 (by simp)
   rwa [Nat.zero_mul,List.drop_zero] at this
  ·have:=hR (i+1) (by simpa using hi)
   rwa [Ah,Eb,<-List.drop_drop] at this
theorem a8N {a:Addr} {n:Nat} {cs:List Value} (h:W.cells? 0 a n=some cs):cs.length=n/\∀ j v,cs[j]?=some v->W.cell? (a.add j)=some v:=by
 unfold World.cells? at h
 rw[gy (uw _)] at h
 refine⟨by simpa using mapM_some_length h,fun j v hj=>?_⟩
 have hl:cs.length=n:=by simpa using mapM_some_length h
 have hjn:j<n:=by rw[<-hl];exact(qg.1 hj).1
 have:=mapM_some_get h j j (by simp[hjn])
 rw[hj] at this
 exact this
abbrev a3H (W:World) (q:Nat):Prop:=q<W.heap.size
theorem mX:(t:Ty)->(T:Option TypeId)->(fs:List Field)->(o:Nat)->fK t T fs o=true->(n:Nat)->(cs:List Value) ->
  (∀ T',T=some T'->(∃ y,DataW.trod enc Tryz.prog W 0 (fun _=>true) true n T' cs=some y)->∃ x:t.den,rep (a3H W) W t cs x/\good t x) /\
  (T=none->cs.length=o+t.n->(∀ f ∈ fs,∃ y,DataW.trod enc Tryz.prog W 0 (fun _=>true) true n f.type ((cs.drop f.offset).take (Tryz.prog.cellsOf f.type))=some y)->∃ x:t.den,rep (a3H W) W t (cs.drop o) x/\good t x)
 | .bool,some T,fs,o,hm,n,cs=>by
  refine⟨fun T' e ⟨y,hy⟩=>?_,fun e=>(by cases e)⟩
  cases e
  unfold fK at hm
  split at hm<;>first|(cases hm;done)|skip
  rename_i hu
  obtain⟨b,rfl,_⟩:=DataW.trod_bool hu hy
  exact⟨b,rfl,trivial⟩
 | .int k,some T,fs,o,hm,n,cs=>by
  refine⟨fun T' e ⟨y,hy⟩=>?_,fun e=>(by cases e)⟩
  cases e
  unfold fK at hm
  split at hm<;>first|(cases hm;done)|skip
  rename_i k' hu
  have hk:k=k':=by simpa using hm
  subst hk
  obtain⟨b,rfl,_,hw⟩:=DataW.trod_int hu hy
  exact⟨b,rfl,hw⟩
 | .lf .dF,some T,fs,o,hm,n,cs=>by
  refine⟨fun T' e ⟨y,hy⟩=>?_,fun e=>(by cases e)⟩
  cases e
  have hT:T=64:=by unfold fK at hm;simpa using hm
  subst hT
  exact b6B hy
 | .list t,some T,fs,o,hm,n,cs=>by
  refine⟨fun T' e ⟨y,hy⟩=>?_,fun e=>(by cases e)⟩
  cases e
  unfold fK at hm
  split at hm<;>first|(cases hm;done)|skip
  rename_i e hu
  simp only[ak,ji,ay] at hm
  obtain⟨⟨hc,hp⟩,hmt⟩:=hm
  rcases DataW.trod_slice hu hy with⟨rfl,_⟩|⟨a,len,cap,elems,rest,m,_,rfl,_,_,h1,h2,h3,h4,_,_⟩
  ·exact⟨([]:List t.den),⟨none,0,rfl,aj _,by omega,.inl rfl⟩,by show 0<=_;omega,fun x hx=>by cases hx⟩
  ·rw[hc] at h4
   obtain⟨xs,hxl,hxs⟩:=a0A (Q:=fun i (x:t.den)=>(∃ c,c.length=t.n/\(∀ j v,c[j]?=some v->W.cell? ((a.add (i*t.n)).add j)=some v)/\rep (a3H W) W t c x)/\good t x) len (fun i hi=>by
    have h5:=h4 i hi
    rw[dw (by omega),Option.bind_eq_some_iff] at h5
    obtain⟨c,h6,h7⟩:=h5
    obtain⟨x,h8,h9⟩:=(mX t (some e) [] 0 hmt m c).1 e rfl ⟨_,h7⟩
    obtain⟨k1,k2⟩:=a8N h6
    exact⟨x,⟨c,k1,k2,h8⟩,h9⟩)
   have hcap:cap<=9223372036854775807:=by unfold maxLen at h2;omega
   refine⟨xs,?_,⟨?_,?_⟩⟩
   ·refine⟨some a,cap,by rw[show List.length (α:=t.den) xs=len from hxl],by rw[show List.length (α:=t.den) xs=len from hxl];exact h1,hcap,?_⟩
    by_cases h0:len=0
    ·exact .inl (ou (by rw[hxl,h0]))
    ·right
     obtain⟨⟨c,k1,k2,_⟩,_⟩:=hxs 0 (by omega)
     obtain⟨v,hv⟩:∃ v,c[0]?=some v:=⟨_,dw (by omega)⟩
     have hcell:=k2 0 v hv
     rw[Nat.zero_mul,show (a.add 0).add 0=a by simp[Addr.add]] at hcell
     obtain⟨ha,hb⟩:=a8B hcell
     obtain⟨ds,d1,d2⟩:=zY (W:=W) (R:=rep (a3H W) W t) (b:=a.block) (o:=a.off) (ce:=t.n) xs 0 (fun i hi=>by
      obtain⟨⟨c,k1,k2,k3⟩,_⟩:=hxs i hi
      refine⟨c,k1,fun j v hj=>?_,k3⟩
      have:=k2 j v hj
      rw[ha,add_plain,add_plain] at this
      rw[uo,<-Nat.add_assoc];exact this)
     exact⟨a.block,a.off,ds,by rw[<-ha],hb,fun j v hj=>by have:=d1 j v hj;rwa [Nat.zero_mul,uo] at this,d2⟩
   ·show xs.length<=_;omega
   ·intro x hx
    obtain⟨i,hi,rfl⟩:=Dh hx
    exact(hxs i hi).2
 | .arr k t,some T,fs,o,hm,n,cs=>by
  refine⟨fun T' e ⟨y,hy⟩=>?_,fun e=>(by cases e)⟩
  cases e
  unfold fK at hm
  split at hm<;>first|(cases hm;done)|skip
  rename_i m e hu
  simp only[ak,ji] at hm
  obtain⟨⟨⟨hk,hc⟩,hC⟩,hmt⟩:=hm
  subst hk
  obtain⟨ys,q,_,_,hl,hyl,hys⟩:=DataW.trod_array hu hy
  rw[hC] at hl
  rw[hc] at hys
  obtain⟨xs,hxl,hxs⟩:=a0A (Q:=fun i (x:t.den)=>rep (a3H W) W t ((cs.drop (i*t.n)).take t.n) x/\good t x) m (fun i hi=>by
   have h5:=hys i hi
   rw[dw (by omega)] at h5
   exact(mX t (some e) [] 0 hmt q _).1 e rfl ⟨_,h5⟩)
  refine⟨xs,⟨hxl,BO (ce:=t.n) xs cs (by rw[hl,hxl]) (fun i hi=>(hxs i hi).1)⟩,hxl,fun x hx=>?_⟩
  obtain⟨i,hi,rfl⟩:=Dh hx
  exact(hxs i hi).2
 | .pair a b,some T,fs,o,hm,n,cs=>by
  refine⟨fun T' e ⟨y,hy⟩=>?_,fun e=>(by cases e)⟩
  cases e
  unfold fK at hm
  split at hm<;>first|(cases hm;done)|skip
  rename_i gs hu
  simp only[ak,ji] at hm
  obtain⟨hC,hm⟩:=hm
  split at hm<;>first|(cases hm;done)|skip
  rename_i f fs' hgs
  simp only[ak,ji] at hm
  obtain⟨⟨⟨ho,hc⟩,hma⟩,hmb⟩:=hm
  obtain⟨ys,q,_,_,hl,hyl,hys⟩:=DataW.trod_struct hu hy
  rw[hC] at hl
  have hget:∀ (i:Nat) (g:Field),gs[i]?=some g->∃ y,DataW.trod enc Tryz.prog W 0 (fun _=>true) true q g.type ((cs.drop g.offset).take (Tryz.prog.cellsOf g.type))=some y:=fun i g hg=>by
   have hi:i<gs.size:=(Aw.1 hg).1
   have:=hys i g hg
   rw[dw (by omega)] at this
   exact⟨_,this⟩
  have h0:=hget 0 f (by rw[<-Array.getElem?_toList,hgs];rfl)
  rw[ho,hc,List.drop_zero] at h0
  obtain⟨x,hx,gx⟩:=(mX a (some f.type) [] 0 hma q _).1 _ rfl h0
  obtain⟨z,hz,gz⟩:=(mX b none fs' a.n hmb q cs).2 rfl hl (fun g hg=>by
   obtain⟨i,hi⟩:=List.getElem?_of_mem hg
   exact hget (i+1) g (by rw[<-Array.getElem?_toList,hgs];exact hi))
  exact⟨(x,z),⟨_,_,(Cc a.n cs).symm,hx,hz⟩,gx,gz⟩
 | .pair a b,none,[],o,hm,n,cs=>by simp[fK] at hm
 | .pair a b,none,f::fs',o,hm,n,cs=>by
  refine⟨fun T' e=>(by cases e),fun _ hl hg=>?_⟩
  unfold fK at hm
  simp only[ak,ji] at hm
  obtain⟨⟨⟨ho,hc⟩,hma⟩,hmb⟩:=hm
  have h0:=hg f (jk ..)
  rw[ho,hc] at h0
  obtain⟨x,hx,gx⟩:=(mX a (some f.type) [] 0 hma n _).1 _ rfl h0
  obtain⟨z,hz,gz⟩:=(mX b none fs' (o+a.n) hmb n cs).2 rfl (by rw[hl];show o+(a.n+b.n)=_;omega) (fun g hg'=>hg g (jf _ hg'))
  refine⟨(x,z),⟨(cs.drop o).take a.n,cs.drop (o+a.n),?_,hx,hz⟩,gx,gz⟩
  rw[<-List.drop_drop,Cc]
 | .unit,none,[],o,hm,n,cs=>by
  refine⟨fun T' e=>(by cases e),fun _ hl _=>⟨(),?_,trivial⟩⟩
  show cs.drop o=[]
  exact List.drop_eq_nil_of_le (by rw[hl];exact aj _)
 | .unit,none,_::_,o,hm,n,cs=>by simp[fK] at hm
 | .unit,some _,_,_,hm,_,_=>by simp[fK] at hm
 | .bool,none,_,_,hm,_,_=>by simp[fK] at hm
 | .int _,none,_,_,hm,_,_=>by simp[fK] at hm
 | .lf .dF,none,_,_,hm,_,_=>by simp[fK] at hm
 | .lf .rat,_,_,_,hm,_,_=>by simp[fK] at hm
 | .lf .big,_,_,_,hm,_,_=>by simp[fK] at hm
 | .lf .ND,_,_,_,hm,_,_=>by simp[fK] at hm
 | .lf .str,_,_,_,hm,_,_=>by simp[fK] at hm
 | .list _,none,_,_,hm,_,_=>by simp[fK] at hm
 | .arr _ _,none,_,_,hm,_,_=>by simp[fK] at hm
 | .ref _,_,_,_,hm,_,_=>by simp[fK] at hm
 | .clo _ _,_,_,_,hm,_,_=>by simp[fK] at hm
 | .nls _,_,_,_,hm,_,_=>by simp[fK] at hm
theorem a3J {t:Ty} {T:TypeId} {v:Value} {d:DataW H} {p:List MemPlace} {b0:Nat} (hm:fK t (some T) [] 0=true) (hv:Value.okWide Tryz.prog W .any b0 T v) (h:DataW.Trod enc Tryz.prog W 0 (fun _=>true) true T v d p) :
  ∃ x:t.den,kC (a3H W) W t v x/\good t x:=by
 obtain⟨n,hn⟩:=h
 obtain⟨x,hx,gx⟩:=(mX t (some T) [] 0 hm n v.cells.toList).1 T rfl ⟨_,hn⟩
 refine⟨x,⟨v.cells.toList,?_,hx⟩,gx⟩
 cases t with
 | bool =>
  unfold fK at hm
  split at hm<;>first|(cases hm;done)|skip
  rename_i hu
  simp only[Value.okWide,hu,Cell.okWide,Cell.ok] at hv
  split at hv<;>simp_all [Value.cells,Ty.toV,Ty.agg]
 | int k =>
  unfold fK at hm
  split at hm<;>first|(cases hm;done)|skip
  rename_i k' hu
  simp only[Value.okWide,hu,Cell.okWide,Cell.ok] at hv
  split at hv<;>simp_all [Value.cells,Ty.toV,Ty.agg]
 | lf l =>
  cases l<;>try (simp[fK] at hm;done)
  have hT:T=64:=by unfold fK at hm;simpa using hm
  subst hT
  simp only[Value.okWide,Tryz.underlying64] at hv
  obtain⟨cs,rfl,_⟩:=hv
  simp[Ty.toV,Ty.agg,Lf.agg,Value.cells]
 | list t =>
  unfold fK at hm
  split at hm<;>first|(cases hm;done)|skip
  rename_i e hu
  simp only[Value.okWide,hu,Cell.okWide,Cell.ok] at hv
  split at hv<;>simp_all [Value.cells,Ty.toV,Ty.agg]
 | arr k t =>
  unfold fK at hm
  split at hm<;>first|(cases hm;done)|skip
  rename_i m e hu
  simp only[Value.okWide,hu] at hv
  obtain⟨cs,rfl,_⟩:=hv
  simp[Ty.toV,Ty.agg,Value.cells]
 | pair a b =>
  unfold fK at hm
  split at hm<;>first|(cases hm;done)|skip
  rename_i gs hu
  simp only[Value.okWide,hu] at hv
  obtain⟨cs,rfl,_⟩:=hv
  simp[Ty.toV,Ty.agg,Value.cells]
 | _=>simp[fK] at hm
end
end
set_option maxRecDepth 100000
set_option maxHeartbeats 1000000
set_option linter.unusedVariables false
set_option linter.unusedSimpArgs false
def gdM (a:MR):Prop:=∀ r ∈ a,∀ q ∈ r,a5E q
def gdL (l:LR):Prop:=∀ q ∈ l,a5E q
theorem b5t (a b:Bool):(bif a then b else false)=(a&&b):=by cases a<;>rfl
theorem a9m {a:MR} (h:IB a=true):a.length<=7/\∀ r ∈ a,r.length<=7/\∀ q ∈ r,lU q=true:=by
 unfold IB at h
 rw[ak] at h
 refine⟨ql h.1,fun r hr=>?_⟩
 have:=xk.mp h.2 r hr
 unfold brL at this
 rw[ak] at this
 exact⟨ql this.1,fun q hq=>xk.mp this.2 q hq⟩
theorem a0i {a:MR} (h:IB a=true) (g:gdM a):smK 100 a/\fV a:=by
 obtain⟨h1,h2⟩:=a9m h
 refine⟨⟨⟨by omega,fun r hr=>⟨by have:=(h2 r hr).1;omega,fun q hq=>?_⟩⟩,fun c=>?_⟩,⟨by omega,fun r hr=>⟨by have:=(h2 r hr).1;omega,fun q hq=>?_⟩⟩⟩
 ·have:=wU ((h2 r hr).2 q hq);exact⟨by omega,by omega⟩
 ·obtain⟨hM,ok⟩:=gZ c
  have hr0:a.getD 0 [] ∈ a:=by
   have:0<a.length:=hM.2.2.1
   rw[bf,dw this];exact oh this
  have hw:wdM a<=7:=(h2 _ hr0).1
  refine⟨h1,hw,?_⟩
  have hs:szM (mq a) 1:=fun i hi j hj=>by
   have hi2:i<a.length:=by rw[mO] at hi;exact hi
   have hir:a.getD i [] ∈ a:=by rw[bf,dw hi2];exact oh hi2
   have hj2:j<(a.getD i []).length:=by
    have:=hM.row (i:=i) hi2
    rw[a4g,IU] at this
    rw[a2A] at hj;omega
   have e:ent (mq a) i j=((a.getD i []).getD j cO).x:=by
    show ((mq a).getD i []).getD j 0=_
    rw[a4g];unfold lq
    rw[bf,Af,dw hj2,bf (l:=a.getD i []),dw hj2];rfl
   rw[e]
   have hq:(a.getD i []).getD j cO ∈ a.getD i []:=by rw[bf (l:=a.getD i []),dw hj2];exact oh hj2
   have hb:=wU ((h2 _ hir).2 _ hq)
   exact g _ hir _ hq 1 (aj 1) hb.1 hb.2
  have h4:=a8t hM hs
  have h5:a.length*(wdM a+1)<=7*8:=uf h1 (by omega)
  exact h4.mono (by omega)
 ·have:=wU ((h2 r hr).2 q hq);exact⟨by omega,by omega⟩
theorem b6n {a b:MQ} {R C:Nat} (ha:isM a R C) (hb:isM b R C) (h:∀ i,i<R->∀ j,j<C->ent a i j=ent b i j):a=b:=by
 rw[<-ha.tab,<-hb.tab];exact fB h
theorem c3Y {s q:MQ} {N:Nat} (hs:isM s N N) (hq:isM q N N):mulM s (mulM q (trM s))=mulM (mulM s q) (trM s):=by
 have t:=hs.trp
 refine b6n (hs.mul (hq.mul t)) ((hs.mul hq).mul t) fun i hi j hj=>?_
 rw[hs.WE (hq.mul t) hi hj,(hs.mul hq).WE t hi hj]
 have e1:mm N (ent s) (ent (mulM q (trM s))) i j=mm N (ent s) (mm N (ent q) (ent (trM s))) i j:=qA (fun _ _=>rfl) fun k hk=>hq.WE t hk hj
 have e2:mm N (ent (mulM s q)) (ent (trM s)) i j=mm N (mm N (ent s) (ent q)) (ent (trM s)) i j:=qA (fun k hk=>hs.WE hq hi hk) fun _ _=>rfl
 rw[e1,e2,TT]
theorem forget {g b o:MQ} {N c:Nat} (hg:isM g N c) (hb:isM b N c) (ho:isM o N c) (hR:jF (bgM g o)=true) (x:List Rat):mvL (sM g o) (mvL (sM g b) x)=mvL (sM g o) x:=by
 refine b3s (n:=N) (by rw[QB];exact(a0V hg).len) (by rw[QB];exact(a0V hg).len) fun i hi=>?_
 rw[b1s hg ho hi,b1s hg ho hi,xU (y:=mv N (a0Y c (ent g) (ent b) (ent (lZ (bgM g b)))) (lv x)) fun k hk=>b1s hg hb hk]
 exact VU (b5s hg ho hR) (lv x) hi
theorem b6r {a:MQ} {R C K L:Nat} (h:isM a R C) (ha:szM a K) {x:LQ'} (hx:∀ q ∈ x,rsz q<=L) (hl:x.length=C):∀ q ∈ mvL a x,rsz q<=C*(K+L+1)+1:=fun q hq=>by
 obtain⟨i,hi,rfl⟩:=Dh hq
 have hi2:i<R:=by rw[QB,h.len] at hi;exact hi
 have e:(mvL a x)[i]=mv C (ent a) (lv x) i:=by
  rw[<-b5b h hi2];unfold lv;rw[bf,dw hi];rfl
 rw[e]
 exact VA (K:=K+L) (f:=fun k=>ent a i k*lv x k) C (fun k hk=>by
  have y1:rsz (ent a i k)<=K:=ha i (by rw[h.len];exact hi2) k (by rw[h.wd];exact hk)
  have y2:rsz (lv x k)<=L:=hx _ (by unfold lv;rw[bf,dw (by omega)];exact oh _)
  have y3:=tK (ent a i k) (lv x k)
  show rsz (ent a i k*lv x k)<=_
  omega)
structure b9X (n g b:MR):Prop where
 cn:dK n=0
 cg:dK g=0
 cb:dK b=0
 e1:n.length=wdM n
 e2:g.length=n.length
 e3:b.length=n.length
 e4:wdM b=wdM g
 hG:BZ (mq n) (mq g)=true
 hR:jF (bgM (mq g) (mq b))=true
structure c2z (n g b:MR) (N c:Nat):Prop where
 hn:isM (mq n) N N
 hg:isM (mq g) N c
 hb:isM (mq b) N c
 n7:N<=7
 c7:c<=7
 nC:CdM (mq n) 100
 gC:CdM (mq g) 100
 bC:CdM (mq b) 100
theorem b9X.m {n g b:MR} (F:b9X n g b) (pn:smK 100 n) (pg:smK 100 g) (pb:smK 100 b):c2z n g b n.length (wdM g):=by
 obtain⟨hn,n7,wn7,nC⟩:=pn.at F.cn
 obtain⟨hg,g7,wg7,gC⟩:=pg.at F.cg
 obtain⟨hb,b7,wb7,bC⟩:=pb.at F.cb
 have e1:=F.e1
 have e2:=F.e2
 have e3:=F.e3
 have e4:=F.e4
 rw[<-e1] at hn
 rw[e2] at hg
 rw[e3,e4] at hb
 exact⟨hn,hg,hb,n7,wg7,nC,gC,bC⟩
theorem a8P {l:ML}:jC l=0↔∀ a ∈ l,dK a=0:=by
 unfold jC
 split
 ·next h =>
  obtain⟨a,ha,h2⟩:=yc.mp h
  exact⟨fun h=>absurd h (by decide),fun h3=>by rw[h3 a ha] at h2;exact absurd h2 (by decide)⟩
 ·next h=>exact⟨fun _ a ha=>by
   by_cases e:dK a=0
   ·exact e
   ·exact absurd (yc.mpr ⟨a,ha,(by exact vk.mpr e:(dK a != 0)=true)⟩) h,fun _=>rfl⟩
theorem a8Q {l:ML} (h:¬ jC l=0):jC l=1:=by
 unfold jC at h ⊢
 split
 ·rfl
 ·next h2=>exact absurd (ig h2) h
theorem c1i {a b:MR}:jC [a,b]=0↔dK a=0/\dK b=0:=by rw[a8P];simp
theorem c1j {a b c:MR}:jC [a,b,c]=0↔dK a=0/\dK b=0/\dK c=0:=by rw[a8P];simp
theorem two' {a b:MR} (ha:fV a) (hb:fV b):∀ x ∈ [a,b],fV x:=fun x h=>by
 rcases um.mp h with rfl|h
 ·exact ha
 ·rw[oz.mp h];exact hb
theorem b9M {a b c:MR} (ha:fV a) (hb:fV b) (hc:fV c):∀ x ∈ [a,b,c],fV x:=fun x h=>by
 rcases um.mp h with rfl|h
 ·exact ha
 ·exact two' hb hc x h
def nX (g b:MR) (ls:List LR):Int :=
 if dK g=0/\dK b=0/\ls.any (fun l=>!okL l)=false then
  if g.length=b.length/\wdM g=wdM b then if ls.any (fun l=>l.length != g.length)=false then 0 else 4 else 4
 else 1
def c3c:Ctr:=⟨[tMR,tMR,.list (.list tR)],[tI],fun x=>fV x.1/\fV x.2.1/\(show MR from x.2.2.1).length<=1000/\∀ l ∈ (show MR from x.2.2.1),lW l,fun x=>(nX x.1 x.2.1 x.2.2.1,())⟩
theorem b2I:aW Tryz.prog 76 c3c:=by
 refine bH ((nil0.ad YM).ad a2y) ⟨[],[],[]⟩ Tryz.func76 rfl (by decide) (fun x=>[.inv {k:Nat // k<=(show MR from x.2.2.1).length} (fun k=>[(18,.val tI (k.1:Int)),(7,.val tI (if ((show MR from x.2.2.1).take k.1).any (fun l=>!okL l)=true then 1 else jC [(show MR from x.1),(show MR from x.2.1)]))]) (fun k=>[]) (fun k=>(show MR from x.2.2.1).length-k.1) ⟨0,by omega⟩ (fun _=>[]),.inv {k:Nat // k<=(show MR from x.2.2.1).length/\((show MR from x.2.2.1).take k).any (fun l=>l.length != (show MR from x.1).length)=false} (fun k=>[(47,.val tI (k.1:Int))]) (fun k=>[]) (fun k=>(show MR from x.2.2.1).length-k.1) ⟨0,by omega,rfl⟩ (fun _=>[])]) (fun x hp=>?_)
 obtain⟨g,b,ls,u⟩:=x
 change List (List aF) at g
 change List (List aF) at b
 change List (List aF) at ls
 refine bM (let A₁:=(g::b::aC (List (List aF)));let aQ:=(aB g.length != aB b.length);let A₀:=(aQ==false);let A₂:=(A₀=true->A₀=true/\True);let bJ:=(True/\4=nX g b ls/\True);((List.length A₁<=1000000/\∀ (a:List (List aF)),a ∈ g::b::aC (List (List aF))->fV a)/\True)/\(asT Int 0=0/\(jC A₁=if (List.any (List.take 0 ls) fun(l:List aF)=>!okL l)=true then 1 else jC A₁)/\True)/\∀ (i:{ k:Nat // k<=List.length ls }),let dA:=(if (List.any (List.take (aA i) ls) fun(l:List aF)=>!okL l)=true then 1 else jC A₁);asT Bool true=true/\ifB (decide (aB (aA i)<aB ls.length)) ((0<=aB (aA i)/\aB (aA i)<aB ls.length/\True)/\(lW (List.getD ls (aB (aA i)).toNat (aC aF))/\True)/\ifB (!okL (List.getD ls (aB (aA i)).toNat (aC aF))) (∃ (i':{ k:Nat // k<=List.length ls }),List.length ls-aA i'<List.length ls-aA i/\IntKind.wrap IntKind.i64 (aB (aA i)+1)=aB (aA i')/\(1=if (List.any (List.take (aA i') ls) fun(l:List aF)=>!okL l)=true then 1 else jC A₁)/\True) (∃ (i':{ k:Nat // k<=List.length ls }),List.length ls-aA i'<List.length ls-aA i/\IntKind.wrap IntKind.i64 (aB (aA i)+1)=aB (aA i')/\(dA=if (List.any (List.take (aA i') ls) fun(l:List aF)=>!okL l)=true then 1 else jC A₁)/\True)) (ifB (dA != 0) (True/\dA=nX g b ls/\True) (((A₀=true->A₀=true/\asT Int 0<=0/\0<aB g.length/\True)/\A₂/\A₂/\(A₀=true->A₀=true/\asT Int 0<=0/\0<aB b.length/\True)/\A₂/\A₂/\(A₀=true->A₀=true/\A₀=true/\True)/\(aQ=false->A₀=true)/\True)/\ifB (bif aB g.length != aB b.length then true else aB (List.getD g 0 (aC aF)).length != aB (List.getD b 0 (aC aF)).length) bJ ((asT Int 0=0/\True)/\∀ (i:{ k:Nat // k<=List.length ls/\(List.any (List.take k ls) fun(l:List aF)=>List.length l != List.length g)=false }),asT Bool true=true/\ifB (decide (aB (aA i)<aB ls.length)) ((0<=aB (aA i)/\aB (aA i)<aB ls.length/\True)/\ifB (aB (List.getD ls (aB (aA i)).toNat (aC aF)).length != aB g.length) bJ (∃ (i':{ k:Nat // k<=List.length ls/\(List.any (List.take k ls) fun(l:List aF)=>List.length l != List.length g)=false }),List.length ls-aA i'<List.length ls-aA i/\IntKind.wrap IntKind.i64 (aB (aA i)+1)=aB (aA i')/\True)) (True/\0=nX g b ls/\True))))) (by kernel_rfl) ?_
 try simp only[aU,ay,au]
 try dsimp only[Ty.den,Lf.den,asT] at *
 try simp only[yX,yU,trF,yY]
 have hZ:(⟨false,0,[],[]⟩:aF)=cO:=rfl
 try dsimp only[aB,asT,aA,aC,Ty.den,Lf.den] at *
 try simp only[hZ,Int.toNat_natCast,aU,ay,au,ni,mg,aH,nameAt,aV,aS,bF,rowAt,iy,iq]
 try simp only[lD,List.all_cons,List.all_nil,xw,ny,uj,ji,vk,ne_eq,ak,qo,jv,ug,vg,Cm,zh,Dc,ni,mg,jJ,tu,qm,List.length_cons,List.length_nil]
 try simp only[wdF,kN,lI]
 have hp:fV g/\fV b/\ls.length<=1000/\∀ l ∈ ls,lW l:=hp
 obtain⟨p1,p2,hl,hls⟩:=hp
 refine⟨⟨by omega,two' p1 p2⟩,by rw[List.take_zero];rfl,fun i=>⟨fun h1=>?_,fun h1=>?_⟩⟩
 ·have hi:i.1<ls.length:=by omega
  refine⟨⟨by omega,h1⟩,eX hls hi,fun h2=>⟨⟨i.1+1,by omega⟩,by simp only;omega,by rw[aZ (by omega) (by omega)];rfl,?_⟩,fun h2=>⟨⟨i.1+1,by omega⟩,by simp only;omega,by rw[aZ (by omega) (by omega)];rfl,?_⟩⟩
  ·rw[gy (by rw[lQ (d:=[]) hi,h2];simp)]
  ·rw[lQ (d:=[]) hi,h2,Bool.not_true,Bool.or_false]
 ·have hi:i.1=ls.length:=by have:=i.2;omega
  simp only[hi,List.take_length]
  refine⟨fun h2=>?_,fun h2=>?_⟩
  ·unfold nX
   by_cases hF:ls.any (fun l=>!okL l)=true
   ·rw[gy hF,ig (fun h=>by rw[hF] at h;exact absurd h.2.2 (by decide))]
   ·rw[ig hF] at h2 ⊢
    rw[a8Q h2,ig (fun h=>h2 (c1i.mpr ⟨h.1,h.2.1⟩))]
  ·have hF:ls.any (fun l=>!okL l)=false:=by
    cases e:ls.any (fun l=>!okL l)
    ·rfl
    ·rw[e,gy rfl] at h2;exact absurd h2 (by decide)
   rw[hF,ig (by decide)] at h2
   obtain⟨cg,cb⟩:=c1i.mp h2
   have g0:=(gZ cg).1.2.2.1
   have b0:=(gZ cb).1.2.2.1
   have e0:dK g=0/\dK b=0/\ls.any (fun l=>!okL l)=false:=⟨cg,cb,hF⟩
   refine⟨⟨fun h=>⟨h,by omega,by omega⟩,fun h=>⟨h,by omega,by omega⟩⟩,fun h=>?_,fun h j=>⟨fun h3=>?_,fun h3=>?_⟩⟩
   ·unfold nX;rw[gy e0,ig (fun hh=>h.elim (fun h=>h hh.1) (fun h=>h hh.2))]
   ·have hj:j.1<ls.length:=by omega
    refine⟨⟨by omega,h3⟩,fun h4=>?_,fun h4=>⟨⟨j.1+1,by omega,?_⟩,by simp only;omega,by rw[aZ (by omega) (by omega)];rfl⟩⟩
    ·have h5:ls.any (fun l=>l.length != g.length)=true:=yc.mpr ⟨ls.getD j.1 [],xA hj,vk.mpr h4⟩
     unfold nX;rw[gy e0,gy h,ig (by rw[h5];decide)]
    ·rw[lQ (d:=[]) hj,j.2.2,h4,bne_self_eq_false];rfl
   ·have h5:=j.2.2
    rw[jd (by omega)] at h5
    unfold nX;rw[gy e0,gy h,gy h5]
abbrev tFr:Ty:=.pair (.pair tMR .unit) (.pair tMR .unit)
def c3d:Ctr:=⟨[tFr,.list tR],[tI],fun x=>fV x.1.1.1/\fV x.1.2.1/\lW x.2.1,fun x=>(nX x.1.1.1 x.1.2.1 [x.2.1],())⟩
theorem b2J:aW Tryz.prog 36 c3d:=by
 refine bH (nil0.ad b2I) ⟨[],[],[]⟩ Tryz.func36 rfl (by decide) (fun x=>[]) (fun x hp=>?_)
 obtain⟨x,l,u⟩:=x
 change (List (List aF) × Unit) × List (List aF) × Unit at x
 change List aF at l
 refine bM (let A₀:=(asT (List (List aF)) x.1.1);let A₁:=(asT (List (List aF)) x.2.1);let A₂:=(l::aC (List aF));((fV A₀/\fV A₁/\List.length A₂<=1000/\∀ (l_1:List aF),l_1 ∈ l::aC (List aF)->lW l_1)/\True)/\True/\nX A₀ A₁ A₂=nX A₀ A₁ A₂/\True) (by kernel_rfl) ?_
 try simp only[aU,ay,au]
 try dsimp only[Ty.den,Lf.den,asT] at *
 try simp only[yX,yU,trF,yY]
 have hZ:(⟨false,0,[],[]⟩:aF)=cO:=rfl
 try dsimp only[aB,asT,aA,aC,Ty.den,Lf.den] at *
 try simp only[hZ,Int.toNat_natCast,aU,ay,au,ni,mg,aH,nameAt,aV,aS,bF,rowAt,iy,iq]
 try simp only[lD,List.all_cons,List.all_nil,xw,ny,uj,ji,vk,ne_eq,ak,qo,jv,ug,vg,Cm,zh,Dc,ni,mg,jJ,tu,qm,List.length_cons,List.length_nil]
 try simp only[wdF,kN,lI]
 have hp:fV x.1.1/\fV x.2.1/\lW l:=hp
 exact⟨hp.1,hp.2.1,by omega,fun y hy=>by rw[oz.mp hy];exact hp.2.2⟩
theorem b3t {l:LR} (h:brL l 10=true) (g:gdL l):smL 1 l/\lW l/\l.length<=10:=by
 unfold brL at h
 rw[ak] at h
 have h1:l.length<=10:=ql h.1
 have h2:∀ q ∈ l,q.n<=1/\q.m<=1:=fun q hq=>wU (xk.mp h.2 q hq)
 exact⟨⟨⟨by omega,fun q hq=>⟨by have:=(h2 q hq).1;omega,by have:=(h2 q hq).2;omega⟩⟩,fun _ q hq=>g q hq 1 (aj 1) (h2 q hq).1 (h2 q hq).2⟩,⟨by omega,fun q hq=>⟨by have:=(h2 q hq).1;omega,by have:=(h2 q hq).2;omega⟩⟩,h1⟩
theorem b3r {l:LQ'} {K:Nat} (hl:l.length<=1000) (h:∀ q ∈ l,rsz q<=K) (hK:K<=500000):smL K (xJ l)/\okR (xJ l)=true/\lq (xJ l)=l:=by
 have e:lq (xJ l)=l:=by
  unfold lq
  rw[Ec]
  conv=>rhs;rw[<-List.map_id l]
  exact jl fun x _=>rfl
 refine⟨⟨⟨by rw[qw];omega,fun q hq=>?_⟩,fun _ q hq=>?_⟩,a6i.mpr fun q hq=>?_,e⟩
 ·obtain⟨x,hx,rfl⟩:=ru.mp hq
  have h1:=h x hx
  have ⟨h2,h3⟩:=EZ x
  exact⟨by omega,by omega⟩
 ·obtain⟨x,hx,rfl⟩:=ru.mp hq
  exact h x hx
 ·obtain⟨x,hx,rfl⟩:=ru.mp hq
  rfl
section
open Go Go.ChangeShapes Go.WideShapes Go.ChangeAt Go.RowKit Go.Joins
set_option maxRecDepth 100000 in
theorem AP {pre:(nest [(.pair (.pair (.list (.list (.lf .dF))) .unit) (.pair (.list (.list (.lf .dF))) .unit)),(.pair (.list (.lf .dF)) (.pair (.list (.list (.lf .dF))) .unit)),(.list (.list (.lf .dF)))]).den->Prop} (h:aW Tryz.prog 7 ⟨[(.pair (.pair (.list (.list (.lf .dF))) .unit) (.pair (.list (.list (.lf .dF))) .unit)),(.pair (.list (.lf .dF)) (.pair (.list (.list (.lf .dF))) .unit)),(.list (.list (.lf .dF)))],[.bool],pre,fun _=>(true,())⟩) (hp:∀ (x0:Ty.den (.pair (.pair (.list (.list (.lf .dF))) .unit) (.pair (.list (.list (.lf .dF))) .unit))) (x1:Ty.den (.pair (.list (.lf .dF)) (.pair (.list (.list (.lf .dF))) .unit))) (x2:Ty.den (.list (.list (.lf .dF)))),good (.pair (.pair (.list (.list (.lf .dF))) .unit) (.pair (.list (.list (.lf .dF))) .unit)) x0->good (.pair (.list (.lf .dF)) (.pair (.list (.list (.lf .dF))) .unit)) x1->good (.list (.list (.lf .dF))) x2->pre (x0,x1,x2,())):Rows.DatumTransformsSaid:=by
 have lifted:∀ (os:Os) (started:os.Started) (H:Type) (enc:TypeId × Value->H),ReturnsInHanded {} Tryz.checked os 7 .any (Rows.datumTransformsSpec.pre6 enc Tryz.prog Tryz.f7 Rows.datumTransformsRow.domain false) (Rows.datumTransformsSpec.post enc Tryz.prog Tryz.f7 false true false false):=by
  intro os started H enc
  refine returnsInHanded_of_change (C:=Tryz.checked) own started (by kernel_rfl) Tryz.func7
   (ChangeSpec.witness6 (enc:=enc) (C:=Tryz.checked) false ⟨#[],#[.agg #[.slice none 0 0,.slice none 0 0],.agg #[.slice none 0 0,.slice none 0 0],.slice none 0 0],[]⟩ 8 (by kernel_rfl) (by kernel_rfl) (by kernel_rfl) (by kernel_rfl)) ?_
  intro W base args ds gs before hval0 hW hcnd _
  have hval:∀ (j:Nat) t v,Tryz.f7.params[j]?=some t->args[j]?=some v->Value.okWide Tryz.prog W .any base t v:=hval0
  have hW':=hW
  obtain⟨p,q,hA0,hV,rfl,hfz,hnd⟩:=hW
  have hA:DataW.TrodAll enc Tryz.prog W 0 (fun _=>true) true Tryz.f7.params.toList args.toList ds p:=hA0
  rw[Tryz.params7] at hA hval
  obtain⟨v0,vs0,d0,ds0,p0,q0,hargs,rfl,rfl,h0,r0⟩:=trodAll_cons hA
  obtain⟨v1,vs1,d1,ds1,p1,q1,rfl,rfl,rfl,h1,r1⟩:=trodAll_cons r0
  obtain⟨v2,vs2,d2,ds2,p2,q2,rfl,rfl,rfl,h2,r2⟩:=trodAll_cons r1
  obtain⟨rfl,rfl,rfl⟩:=trodAll_nil r2
  obtain rfl:args=#[v0,v1,v2]:=by cases args;simp_all
  obtain⟨rfl,rfl⟩:=trodVars_none hV
  obtain⟨x0,k0,g0⟩:=a3J (t:=.pair (.pair (.list (.list (.lf .dF))) .unit) (.pair (.list (.list (.lf .dF))) .unit)) (by kernel_rfl) (hval 0 40 v0 rfl rfl) h0
  have l0:∀ x ∈ p0,x.block<W.heap.size:=fun x hx=>hW'.lt x (by simp[hx])
  obtain⟨x1,k1,g1⟩:=a3J (t:=.pair (.list (.lf .dF)) (.pair (.list (.list (.lf .dF))) .unit)) (by kernel_rfl) (hval 1 70 v1 rfl rfl) h1
  have l1:∀ x ∈ p1,x.block<W.heap.size:=fun x hx=>hW'.lt x (by simp[hx])
  obtain⟨x2,k2,g2⟩:=a3J (t:=.list (.list (.lf .dF))) (by kernel_rfl) (hval 2 23 v2 rfl rfl) h2
  have l2:∀ x ∈ p2,x.block<W.heap.size:=fun x hx=>hW'.lt x (by simp[hx])
  refine(h (a3H W) W [v0,v1,v2] (x0,x1,x2,()) (fun q hq=>hq) ⟨_,_,rfl,k0,_,_,rfl,k1,_,_,rfl,k2,rfl⟩ (hp x0 x1 x2 g0 g1 g2)).mono fun e W' ⟨v,he,hr,hg⟩=>?_
  subst he
  have hr:kC _ W' .bool v true:=hr
  rw[b5u hr]
  exact⟨_,rfl,_,_,_,[],_,[],hW',trodAll_cons_mk (shut_bool Tryz.underlying4 _) trodAll_mk0,(trodAll_cons_mk (Below.trod laidOut (by kernel_rfl) (ql (by kernel_rfl)) h0 hg l0) (trodAll_cons_mk (Below.trod laidOut (by kernel_rfl) (ql (by kernel_rfl)) h1 hg l1) (trodAll_cons_mk (Below.trod laidOut (by kernel_rfl) (ql (by kernel_rfl)) h2 hg l2) trodAll_mk0))),rfl,hg.frame _,fun h=>by cases h⟩
 exact OpenClaim.holds_of_wide 7 Tryz.f7 rfl rfl rfl rfl rfl rfl rfl ⟨rfl,rfl,rfl,rfl,rfl⟩ rfl rfl rfl rfl rfl (by kernel_rfl) Tryz.func7 (by kernel_rfl)
  (ql (by kernel_rfl)) (by unfold Func.isWrapper;first|(rw[gy (by decide +kernel)];kernel_rfl)|(rw[ig (by decide +kernel)];exact⟨rfl,rfl⟩))
  (fun os started H enc _=>lifted os started H enc)
end
theorem b2R {x:MR} (g:good (.list (.list (.lf .dF))) x):gdM x:=fun r hr q hq=>(g.2 r hr).2 q hq
theorem c3E {x:LR} (g:good (.list (.lf .dF)) x):gdL x:=fun q hq=>g.2 q hq
end Go.Proofs.YtgplhbhfdgempaaGreat
