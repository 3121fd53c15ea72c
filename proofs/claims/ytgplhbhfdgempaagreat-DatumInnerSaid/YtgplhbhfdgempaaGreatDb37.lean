/-
  Lemmas for the statements about datums, part 37 of 37.
-/
import Derived.Carry
import Derived.Test.YtgplhbhfdgempaaGreatDb36
namespace Go.Proofs.YtgplhbhfdgempaaGreat
open Go Go.RowKit
section
open Go Go.ChangeShapes Go.WideShapes Go.ChangeAt Go.RowKit Go.Joins
set_option linter.unusedVariables false
set_option linter.unusedSimpArgs false
set_option maxRecDepth 100000
theorem laidOut:laidOutB Tryz.prog=true:=by kernel_rfl
theorem b0u:Tryz.prog.cellsOf 64=4:=by kernel_rfl
theorem b0t:Tryz.prog.cellsOf 62=2:=by kernel_rfl
theorem a8D:Tryz.prog.cellsOf 60=1:=by kernel_rfl
theorem a8C:Tryz.prog.cellsOf 4=1:=by kernel_rfl
theorem b0v:Tryz.prog.cellsOf 133=1:=by kernel_rfl
def a3h (q:aF):Prop:=∀ K,1<=K->q.n<=K->q.m<=K->rsz q.x<=K
def c1J {α:Type} (p:α->Prop) (xs:List α):Prop:=∀ x ∈ xs,p x
def good:(t:Ty)->t.den->Prop
 | .bool,_=>True
 | .int k,n=>(Lit.int k n).wf=true
 | .lf .aU,q=>a3h q
 | .lf _,_=>True
 | .list t,xs=>List.length (α:=t.den) xs<=9223372036854775807/\c1J (good t) xs
 | .arr n t,xs=>List.length (α:=t.den) xs=n/\c1J (good t) xs
 | .pair a b,x=>good a x.1/\good b x.2
 | .unit,_=>True
 | .ref _,_=>True
 | .clo _ _,_=>True
 | .nls _,_=>True
noncomputable def fV:Ty->Option TypeId->List Field->Nat->Bool
 | .pair a b,none,f::fs,o=>f.offset==o&&Tryz.prog.cellsOf f.type==a.n&&fV a (some f.type) [] 0&&fV b none fs (o+a.n)
 | .unit,none,[],_=>true
 | .bool,some T,_,_=>match Tryz.prog.underlying T with
  | some .bool=>true
  | _=>false
 | .int k,some T,_,_=>match Tryz.prog.underlying T with
  | some (.int k')=>k==k'
  | _=>false
 | .lf .aU,some T,_,_=>T==64
 | .list t,some T,_,_=>match Tryz.prog.underlying T with
  | some (.slice e)=>Tryz.prog.cellsOf e==t.n&&decide (0<t.n)&&fV t (some e) [] 0
  | _=>false
 | .arr n t,some T,_,_=>match Tryz.prog.underlying T with
  | some (.array m e)=>m==n&&Tryz.prog.cellsOf e==t.n&&Tryz.prog.cellsOf T==n*t.n&&fV t (some e) [] 0
  | _=>false
 | .pair a b,some T,_,_=>match Tryz.prog.underlying T with
  | some (.struct fs)=>Tryz.prog.cellsOf T==a.n+b.n&&(match fs.toList with
   | f::fs'=>f.offset==0&&Tryz.prog.cellsOf f.type==a.n&&fV a (some f.type) [] 0&&fV b none fs' a.n
   | []=>false)
  | _=>false
 | _,_,_,_=>false
section
variable {H:Type} {enc:TypeId × Value->H} {W:World}
theorem b0h {a:Addr} {v:Value} (h:W.cell? a=some v):a=⟨a.block,a.off,none⟩/\a.block<W.heap.size:=by
 have h1:=World.cell?_spot h
 refine⟨by obtain⟨b,o,s⟩:=a;cases h1;rfl,?_⟩
 exact World.block_lt_of_cell? W a h
theorem b6C {n:Nat} {cs:List Value} {y:DataW H × List MemPlace} (h:DataW.trod enc Tryz.prog W 0 (fun _=>true) true n 60 cs=some y):∃ p l c,cs=[.slice p l.length c]/\Rd W (.slice p l.length c) l/\∀ g ∈ l,g<4294967296:=by
 rcases open_ints (k:=.u32) je Tryz.underlying133 b0v h with⟨rfl,_⟩|⟨a,len,cap,zs,rfl,_,h1,h2,h3,_,h4,h5⟩
 ·exact⟨none,[],0,rfl,.inl ⟨none,rfl,rfl⟩,by simp⟩
 ·simp at h3
  by_cases hc:cap=0
  ·have hl:len=0:=by omega
   subst hc hl
   exact⟨some a,[],0,rfl,.inl ⟨_,rfl,rfl⟩,by simp⟩
  ·obtain⟨ha,hb⟩:=b0h (h4 0 (by omega))
   have ha:a=⟨a.block,a.off,none⟩:=by simpa [Addr.add] using ha
   have hb:a.block<W.heap.size:=by simpa [Addr.add] using hb
   have hz:∀ n ∈ zs,0<=n/\n<4294967296:=fun n hn=>by
    have:=h5 n hn
    simp[Lit.wf,IntKind.min,IntKind.max,IntKind.signed,IntKind.bits] at this
    omega
   have hL:((zs.take len).map Int.toNat).length=len:=by simp;omega
   refine⟨some a,(zs.take len).map Int.toNat,cap,by rw[hL],.inr ⟨a.block,a.off,cap,by rw[<-ha],by rw[hL];exact h1,by unfold maxLen at h2;omega,hb,fun i hi=>?_⟩,fun g hg=>?_⟩
   ·rw[hL] at hi
    have hi':i<zs.length:=by omega
    have hc:=h4 i hi'
    have hm:zs[i] ∈ zs:=jm hi'
    have:=hz _ hm
    have hg:((gr ((zs.take len).map Int.toNat) i:Nat):Int)=zs.getD i 0:=by
     have e1:gr ((zs.take len).map Int.toNat) i=(zs[i]).toNat:=by simp[gr,List.getD,hi,hi']
     have e2:zs.getD i 0=zs[i]:=by simp[List.getD,hi']
     rw[e1,e2];omega
    rw[hg,<-hc,ha]
    rw[add_plain]
   ·obtain⟨x,hx,rfl⟩:=ni.1 hg
    have:=hz x (Am hx)
    omega
theorem c5n {α:Type} {l:List α} (h:l.length=4):∃ a b c d,l=[a,b,c,d]:=by
 match l,h with
 | [a,b,c,d],_=>exact⟨a,b,c,d,rfl⟩
theorem b8f {n:Nat} {cs:List Value} {y:DataW H × List MemPlace} (h:DataW.trod enc Tryz.prog W 0 (fun _=>true) true n 64 cs=some y):∃ x:aF,Lf.rep W cs .aU x/\a3h x:=by
 obtain⟨xs,m,_,_,hl,hlen,hf⟩:=DataW.trod_struct Tryz.underlying64 h
 rw[b0u] at hl
 obtain⟨c0,c1,c2,c3,rfl⟩:=c5n hl
 match xs,hlen with
 | [y0,y1],_ =>
 have k0:=hf 0 _ rfl
 have k1:=hf 1 _ rfl
 obtain⟨xs0,m0,_,_,_,hlen0,hf0⟩:=DataW.trod_struct Tryz.underlying62 k0
 obtain⟨xs1,m1,_,_,_,hlen1,hf1⟩:=DataW.trod_struct Tryz.underlying62 k1
 match xs0,hlen0,xs1,hlen1 with
 | [z0,z1],_,[z2,z3],_ =>
 have a0:=hf0 0 _ rfl
 have a1:=hf0 1 _ rfl
 have a2:=hf1 0 _ rfl
 have a3:=hf1 1 _ rfl
 simp[b0t,a8C,a8D] at a0 a1 a2 a3
 obtain⟨b,e0,_⟩:=DataW.trod_bool Tryz.underlying4 a0
 obtain⟨d,e2,_⟩:=DataW.trod_bool Tryz.underlying4 a2
 simp at e0 e2
 subst e0 e2
 obtain⟨p,l,c,e1,r1,l1⟩:=b6C a1
 obtain⟨q,k,e,e3,r3,l3⟩:=b6C a3
 simp at e1 e3
 subst e1 e3
 have hq:iI W (.agg #[.bool b,.slice p l.length c,.bool d,.slice q k.length e]) _ _:=⟨_,_,_,_,_,_,_,_,rfl,⟨b,_,l,rfl,r1,l1,rfl,rfl⟩,⟨d,_,k,rfl,r3,l3,rfl,rfl⟩,rfl,rfl⟩
 exact⟨⟨_,_,l,k⟩,⟨b,p,c,d,q,e,rfl,hq,r1,r3⟩,fun K h1 h2 h3=>hq.lJ ⟨b,p,_,c,d,q,_,e,rfl,h2,h3⟩ h1⟩
theorem a1J {α:Type} {Q:Nat->α->Prop}:∀ n,(∀ i,i<n->∃ x,Q i x)->∃ xs:List α,xs.length=n/\∀ i (h:i<xs.length),Q i xs[i]
 | 0,_=>⟨[],rfl,fun i h=>by simp at h⟩
 | n+1,h=>by
  obtain⟨xs,h1,h2⟩:=a1J n (fun i hi=>h i (by omega))
  obtain⟨x,hx⟩:=h n (by omega)
  refine⟨xs++[x],by simp[h1],fun i hi=>?_⟩
  by_cases e:i<xs.length
  ·rw[List.getElem_append_left e];exact h2 i e
  ·have:i=n:=by simp at hi;omega
   subst this
   rw[List.getElem_append_right (by omega)]
   simpa using hx
theorem CG {α:Type} {R:List Value->α->Prop} {b o ce:Nat}:∀ (xs:List α) (k:Nat),(∀ i (h:i<xs.length),∃ c,c.length=ce/\(∀ j v,c[j]?=some v->W.cell? ⟨b,o+((k+i)*ce+j),none⟩=some v)/\R c xs[i])->∃ ds,(∀ j v,ds[j]?=some v->W.cell? ⟨b,o+(k*ce+j),none⟩=some v)/\chunks R ds xs
 | [],k,_=>⟨[],fun j v h=>by simp at h,rfl⟩
 | x::xs,k,h=>by
  obtain⟨c,h1,h2,h3⟩:=h 0 (by simp)
  obtain⟨ds,h4,h5⟩:=CG xs (k+1) (fun i hi=>by
   obtain⟨c,h1,h2,h3⟩:=h (i+1) (by simpa using hi)
   exact⟨c,h1,fun j v hj=>by rw[show k+1+i=k+(i+1) by omega];exact h2 j v hj,h3⟩)
  refine⟨c++ds,fun j v hj=>?_,c,ds,rfl,h3,h5⟩
  by_cases e:j<c.length
  ·rw[vw e] at hj
   exact h2 j v hj
  ·rw[List.getElem?_append_right (by omega)] at hj
   have:=h4 _ _ hj
   rw[xg,Nat.one_mul] at this
   rwa [show k*ce+ce+(j-c.length)=k*ce+j by omega] at this
theorem DW {α:Type} {R:List Value->α->Prop} {ce:Nat}:∀ (xs:List α) (cs:List Value),cs.length=xs.length*ce->(∀ i (h:i<xs.length),R ((cs.drop (i*ce)).take ce) xs[i])->chunks R cs xs
 | [],cs,h,_=>jo (by simpa using h)
 | x::xs,cs,h,hR=>by
  rw[List.length_cons,vg] at h
  refine⟨cs.take ce,cs.drop ce,(zq ce cs).symm,?_,DW (ce:=ce) xs (cs.drop ce) (by rw[wz];omega) (fun i hi=>?_)⟩
  ·have:=hR 0 (by simp)
   rwa [Nat.zero_mul,List.drop_zero] at this
  ·have:=hR (i+1) (by simpa using hi)
   rwa [vg,Bg,<-List.drop_drop] at this
theorem b0w {a:Addr} {n:Nat} {cs:List Value} (h:W.cells? 0 a n=some cs):cs.length=n/\∀ j v,cs[j]?=some v->W.cell? (a.add j)=some v:=by
 unfold World.cells? at h
 rw[eY (pq _)] at h
 refine⟨by simpa using mapM_some_length h,fun j v hj=>?_⟩
 have hl:cs.length=n:=by simpa using mapM_some_length h
 have hjn:j<n:=by rw[<-hl];exact(jr.1 hj).1
 have:=mapM_some_get h j j (by simp[hjn])
 rw[hj] at this
 exact this
abbrev a0Q (W:World) (q:Nat):Prop:=q<W.heap.size
theorem nR:(t:Ty)->(T:Option TypeId)->(fs:List Field)->(o:Nat)->fV t T fs o=true->(n:Nat)->(cs:List Value) ->
  (∀ T',T=some T'->(∃ y,DataW.trod enc Tryz.prog W 0 (fun _=>true) true n T' cs=some y)->∃ x:t.den,rep (a0Q W) W t cs x/\good t x) /\
  (T=none->cs.length=o+t.n->(∀ f ∈ fs,∃ y,DataW.trod enc Tryz.prog W 0 (fun _=>true) true n f.type ((cs.drop f.offset).take (Tryz.prog.cellsOf f.type))=some y)->∃ x:t.den,rep (a0Q W) W t (cs.drop o) x/\good t x)
 | .bool,some T,fs,o,hm,n,cs=>by
  refine⟨fun T' e ⟨y,hy⟩=>?_,fun e=>(by cases e)⟩
  cases e
  unfold fV at hm
  split at hm<;>first|(cases hm;done)|skip
  rename_i hu
  obtain⟨b,rfl,_⟩:=DataW.trod_bool hu hy
  exact⟨b,rfl,trivial⟩
 | .int k,some T,fs,o,hm,n,cs=>by
  refine⟨fun T' e ⟨y,hy⟩=>?_,fun e=>(by cases e)⟩
  cases e
  unfold fV at hm
  split at hm<;>first|(cases hm;done)|skip
  rename_i k' hu
  have hk:k=k':=by simpa using hm
  subst hk
  obtain⟨b,rfl,_,hw⟩:=DataW.trod_int hu hy
  exact⟨b,rfl,hw⟩
 | .lf .aU,some T,fs,o,hm,n,cs=>by
  refine⟨fun T' e ⟨y,hy⟩=>?_,fun e=>(by cases e)⟩
  cases e
  have hT:T=64:=by unfold fV at hm;simpa using hm
  subst hT
  exact b8f hy
 | .list t,some T,fs,o,hm,n,cs=>by
  refine⟨fun T' e ⟨y,hy⟩=>?_,fun e=>(by cases e)⟩
  cases e
  unfold fV at hm
  split at hm<;>first|(cases hm;done)|skip
  rename_i e hu
  simp only[ak,jd,dh] at hm
  obtain⟨⟨hc,hp⟩,hmt⟩:=hm
  rcases DataW.trod_slice hu hy with⟨rfl,_⟩|⟨a,len,cap,elems,rest,m,_,rfl,_,_,h1,h2,h3,h4,_,_⟩
  ·exact⟨([]:List t.den),⟨none,0,rfl,aj _,by omega,.inl rfl⟩,by show 0<=_;omega,fun x hx=>by cases hx⟩
  ·rw[hc] at h4
   obtain⟨xs,hxl,hxs⟩:=a1J (Q:=fun i (x:t.den)=>(∃ c,c.length=t.n/\(∀ j v,c[j]?=some v->W.cell? ((a.add (i*t.n)).add j)=some v)/\rep (a0Q W) W t c x)/\good t x) len (fun i hi=>by
    have h5:=h4 i hi
    rw[dn (by omega),Option.bind_eq_some_iff] at h5
    obtain⟨c,h6,h7⟩:=h5
    obtain⟨x,h8,h9⟩:=(nR t (some e) [] 0 hmt m c).1 e rfl ⟨_,h7⟩
    obtain⟨k1,k2⟩:=b0w h6
    exact⟨x,⟨c,k1,k2,h8⟩,h9⟩)
   have hcap:cap<=9223372036854775807:=by unfold maxLen at h2;omega
   refine⟨xs,?_,⟨?_,?_⟩⟩
   ·refine⟨some a,cap,by rw[show List.length (α:=t.den) xs=len from hxl],by rw[show List.length (α:=t.den) xs=len from hxl];exact h1,hcap,?_⟩
    by_cases h0:len=0
    ·exact .inl (jo (by rw[hxl,h0]))
    ·right
     obtain⟨⟨c,k1,k2,_⟩,_⟩:=hxs 0 (by omega)
     obtain⟨v,hv⟩:∃ v,c[0]?=some v:=⟨_,dn (by omega)⟩
     have hcell:=k2 0 v hv
     rw[Nat.zero_mul,show (a.add 0).add 0=a by simp[Addr.add]] at hcell
     obtain⟨ha,hb⟩:=b0h hcell
     obtain⟨ds,d1,d2⟩:=CG (W:=W) (R:=rep (a0Q W) W t) (b:=a.block) (o:=a.off) (ce:=t.n) xs 0 (fun i hi=>by
      obtain⟨⟨c,k1,k2,k3⟩,_⟩:=hxs i hi
      refine⟨c,k1,fun j v hj=>?_,k3⟩
      have:=k2 j v hj
      rw[ha,add_plain,add_plain] at this
      rw[ou,<-Nat.add_assoc];exact this)
     exact⟨a.block,a.off,ds,by rw[<-ha],hb,fun j v hj=>by have:=d1 j v hj;rwa [Nat.zero_mul,ou] at this,d2⟩
   ·show xs.length<=_;omega
   ·intro x hx
    obtain⟨i,hi,rfl⟩:=Bc hx
    exact(hxs i hi).2
 | .arr k t,some T,fs,o,hm,n,cs=>by
  refine⟨fun T' e ⟨y,hy⟩=>?_,fun e=>(by cases e)⟩
  cases e
  unfold fV at hm
  split at hm<;>first|(cases hm;done)|skip
  rename_i m e hu
  simp only[ak,jd] at hm
  obtain⟨⟨⟨hk,hc⟩,hC⟩,hmt⟩:=hm
  subst hk
  obtain⟨ys,q,_,_,hl,hyl,hys⟩:=DataW.trod_array hu hy
  rw[hC] at hl
  rw[hc] at hys
  obtain⟨xs,hxl,hxs⟩:=a1J (Q:=fun i (x:t.den)=>rep (a0Q W) W t ((cs.drop (i*t.n)).take t.n) x/\good t x) m (fun i hi=>by
   have h5:=hys i hi
   rw[dn (by omega)] at h5
   exact(nR t (some e) [] 0 hmt q _).1 e rfl ⟨_,h5⟩)
  refine⟨xs,⟨hxl,DW (ce:=t.n) xs cs (by rw[hl,hxl]) (fun i hi=>(hxs i hi).1)⟩,hxl,fun x hx=>?_⟩
  obtain⟨i,hi,rfl⟩:=Bc hx
  exact(hxs i hi).2
 | .pair a b,some T,fs,o,hm,n,cs=>by
  refine⟨fun T' e ⟨y,hy⟩=>?_,fun e=>(by cases e)⟩
  cases e
  unfold fV at hm
  split at hm<;>first|(cases hm;done)|skip
  rename_i gs hu
  simp only[ak,jd] at hm
  obtain⟨hC,hm⟩:=hm
  split at hm<;>first|(cases hm;done)|skip
  rename_i f fs' hgs
  simp only[ak,jd] at hm
  obtain⟨⟨⟨ho,hc⟩,hma⟩,hmb⟩:=hm
  obtain⟨ys,q,_,_,hl,hyl,hys⟩:=DataW.trod_struct hu hy
  rw[hC] at hl
  have hget:∀ (i:Nat) (g:Field),gs[i]?=some g->∃ y,DataW.trod enc Tryz.prog W 0 (fun _=>true) true q g.type ((cs.drop g.offset).take (Tryz.prog.cellsOf g.type))=some y:=fun i g hg=>by
   have hi:i<gs.size:=(xu.1 hg).1
   have:=hys i g hg
   rw[dn (by omega)] at this
   exact⟨_,this⟩
  have h0:=hget 0 f (by rw[<-Array.getElem?_toList,hgs];rfl)
  rw[ho,hc,List.drop_zero] at h0
  obtain⟨x,hx,gx⟩:=(nR a (some f.type) [] 0 hma q _).1 _ rfl h0
  obtain⟨z,hz,gz⟩:=(nR b none fs' a.n hmb q cs).2 rfl hl (fun g hg=>by
   obtain⟨i,hi⟩:=List.getElem?_of_mem hg
   exact hget (i+1) g (by rw[<-Array.getElem?_toList,hgs];exact hi))
  exact⟨(x,z),⟨_,_,(zq a.n cs).symm,hx,hz⟩,gx,gz⟩
 | .pair a b,none,[],o,hm,n,cs=>by simp[fV] at hm
 | .pair a b,none,f::fs',o,hm,n,cs=>by
  refine⟨fun T' e=>(by cases e),fun _ hl hg=>?_⟩
  unfold fV at hm
  simp only[ak,jd] at hm
  obtain⟨⟨⟨ho,hc⟩,hma⟩,hmb⟩:=hm
  have h0:=hg f (jX ..)
  rw[ho,hc] at h0
  obtain⟨x,hx,gx⟩:=(nR a (some f.type) [] 0 hma n _).1 _ rfl h0
  obtain⟨z,hz,gz⟩:=(nR b none fs' (o+a.n) hmb n cs).2 rfl (by rw[hl];show o+(a.n+b.n)=_;omega) (fun g hg'=>hg g (iy _ hg'))
  refine⟨(x,z),⟨(cs.drop o).take a.n,cs.drop (o+a.n),?_,hx,hz⟩,gx,gz⟩
  rw[<-List.drop_drop,zq]
 | .unit,none,[],o,hm,n,cs=>by
  refine⟨fun T' e=>(by cases e),fun _ hl _=>⟨(),?_,trivial⟩⟩
  show cs.drop o=[]
  exact List.drop_eq_nil_of_le (by rw[hl];exact aj _)
 | .unit,none,_::_,o,hm,n,cs=>by simp[fV] at hm
 | .unit,some _,_,_,hm,_,_=>by simp[fV] at hm
 | .bool,none,_,_,hm,_,_=>by simp[fV] at hm
 | .int _,none,_,_,hm,_,_=>by simp[fV] at hm
 | .lf .aU,none,_,_,hm,_,_=>by simp[fV] at hm
 | .lf .rat,_,_,_,hm,_,_=>by simp[fV] at hm
 | .lf .big,_,_,_,hm,_,_=>by simp[fV] at hm
 | .lf .PW,_,_,_,hm,_,_=>by simp[fV] at hm
 | .lf .str,_,_,_,hm,_,_=>by simp[fV] at hm
 | .list _,none,_,_,hm,_,_=>by simp[fV] at hm
 | .arr _ _,none,_,_,hm,_,_=>by simp[fV] at hm
 | .ref _,_,_,_,hm,_,_=>by simp[fV] at hm
 | .clo _ _,_,_,_,hm,_,_=>by simp[fV] at hm
 | .nls _,_,_,_,hm,_,_=>by simp[fV] at hm
theorem DJ {t:Ty} {T:TypeId} {v:Value} {d:DataW H} {p:List MemPlace} {b0:Nat} (hm:fV t (some T) [] 0=true) (hv:Value.okWide Tryz.prog W .any b0 T v) (h:DataW.Trod enc Tryz.prog W 0 (fun _=>true) true T v d p) :
  ∃ x:t.den,kM (a0Q W) W t v x/\good t x:=by
 obtain⟨n,hn⟩:=h
 obtain⟨x,hx,gx⟩:=(nR t (some T) [] 0 hm n v.cells.toList).1 T rfl ⟨_,hn⟩
 refine⟨x,⟨v.cells.toList,?_,hx⟩,gx⟩
 cases t with
 | bool =>
  unfold fV at hm
  split at hm<;>first|(cases hm;done)|skip
  rename_i hu
  simp only[Value.okWide,hu,Cell.okWide,Cell.ok] at hv
  split at hv<;>simp_all [Value.cells,Ty.toV,Ty.agg]
 | int k =>
  unfold fV at hm
  split at hm<;>first|(cases hm;done)|skip
  rename_i k' hu
  simp only[Value.okWide,hu,Cell.okWide,Cell.ok] at hv
  split at hv<;>simp_all [Value.cells,Ty.toV,Ty.agg]
 | lf l =>
  cases l<;>try (simp[fV] at hm;done)
  have hT:T=64:=by unfold fV at hm;simpa using hm
  subst hT
  simp only[Value.okWide,Tryz.underlying64] at hv
  obtain⟨cs,rfl,_⟩:=hv
  simp[Ty.toV,Ty.agg,Lf.agg,Value.cells]
 | list t =>
  unfold fV at hm
  split at hm<;>first|(cases hm;done)|skip
  rename_i e hu
  simp only[Value.okWide,hu,Cell.okWide,Cell.ok] at hv
  split at hv<;>simp_all [Value.cells,Ty.toV,Ty.agg]
 | arr k t =>
  unfold fV at hm
  split at hm<;>first|(cases hm;done)|skip
  rename_i m e hu
  simp only[Value.okWide,hu] at hv
  obtain⟨cs,rfl,_⟩:=hv
  simp[Ty.toV,Ty.agg,Value.cells]
 | pair a b =>
  unfold fV at hm
  split at hm<;>first|(cases hm;done)|skip
  rename_i gs hu
  simp only[Value.okWide,hu] at hv
  obtain⟨cs,rfl,_⟩:=hv
  simp[Ty.toV,Ty.agg,Value.cells]
 | _=>simp[fV] at hm
end
end
set_option maxRecDepth 100000
set_option maxHeartbeats 1000000
set_option linter.unusedVariables false
set_option linter.unusedSimpArgs false
def gdM (a:MR):Prop:=∀ r ∈ a,∀ q ∈ r,a3h q
theorem UA (a b:Bool):(bif a then b else false)=(a&&b):=by cases a<;>rfl
theorem b0V {a:MR} (h:yJ a=true):a.length<=7/\∀ r ∈ a,r.length<=7/\∀ q ∈ r,mV q=true:=by
 unfold yJ at h
 rw[ak] at h
 refine⟨oz h.1,fun r hr=>?_⟩
 have:=ql.mp h.2 r hr
 unfold brL at this
 rw[ak] at this
 exact⟨oz this.1,fun q hq=>ql.mp this.2 q hq⟩
theorem JU {a:MR} (h:yJ a=true) (g:gdM a):smK 100 a/\dV a:=by
 obtain⟨h1,h2⟩:=b0V h
 refine⟨⟨⟨by omega,fun r hr=>⟨by have:=(h2 r hr).1;omega,fun q hq=>?_⟩⟩,fun c=>?_⟩,⟨by omega,fun r hr=>⟨by have:=(h2 r hr).1;omega,fun q hq=>?_⟩⟩⟩
 ·have:=vI ((h2 r hr).2 q hq);exact⟨by omega,by omega⟩
 ·obtain⟨hM,ok⟩:=gX c
  have hr0:a.getD 0 [] ∈ a:=by
   have:0<a.length:=hM.2.2.1
   rw[ay,dn this];exact jm this
  have hw:wdM a<=7:=(h2 _ hr0).1
  refine⟨h1,hw,?_⟩
  have hs:szM (mq a) 1:=fun i hi j hj=>by
   have hi2:i<a.length:=by rw[kT] at hi;exact hi
   have hir:a.getD i [] ∈ a:=by rw[ay,dn hi2];exact jm hi2
   have hj2:j<(a.getD i []).length:=by
    have:=hM.row (i:=i) hi2
    rw[KH,wG] at this
    rw[RF] at hj;omega
   have e:ent (mq a) i j=((a.getD i []).getD j bV).x:=by
    show ((mq a).getD i []).getD j 0=_
    rw[KH];unfold lq
    rw[ay,uz,dn hj2,ay (l:=a.getD i []),dn hj2];rfl
   rw[e]
   have hq:(a.getD i []).getD j bV ∈ a.getD i []:=by rw[ay (l:=a.getD i []),dn hj2];exact jm hj2
   have hb:=vI ((h2 _ hir).2 _ hq)
   exact g _ hir _ hq 1 (aj 1) hb.1 hb.2
  have h4:=a9W hM hs
  have h5:a.length*(wdM a+1)<=7*8:=oh h1 (by omega)
  exact h4.mono (by omega)
 ·have:=vI ((h2 r hr).2 q hq);exact⟨by omega,by omega⟩
structure a8v (n g b:MR):Prop where
 cn:bW n=0
 cg:bW g=0
 cb:bW b=0
 e1:n.length=wdM n
 e2:g.length=n.length
 e3:b.length=n.length
 e4:wdM b=wdM g
 hG:lY (mq n) (mq g)=true
 hR:kR (bgM (mq g) (mq b))=true
structure c4a (n g b:MR) (N c:Nat):Prop where
 hn:isM (mq n) N N
 hg:isM (mq g) N c
 hb:isM (mq b) N c
 n7:N<=7
 c7:c<=7
 nC:CdM (mq n) 100
 gC:CdM (mq g) 100
 bC:CdM (mq b) 100
theorem a8v.m {n g b:MR} (F:a8v n g b) (pn:smK 100 n) (pg:smK 100 g) (pb:smK 100 b):c4a n g b n.length (wdM g):=by
 obtain⟨hn,n7,wn7,nC⟩:=pn.at F.cn
 obtain⟨hg,g7,wg7,gC⟩:=pg.at F.cg
 obtain⟨hb,b7,wb7,bC⟩:=pb.at F.cb
 have e1:=F.e1
 have e2:=F.e2
 have e3:=F.e3
 have e4:=F.e4
 rw[<-e1] at hn
 rw[e2] at hg
 rw[e3,e4] at hb
 exact⟨hn,hg,hb,n7,wg7,nC,gC,bC⟩
theorem a4X {l:ML}:gW l=0↔∀ a ∈ l,bW a=0:=by
 unfold gW
 split
 ·next h =>
  obtain⟨a,ha,h2⟩:=tY.mp h
  exact⟨fun h=>absurd h (by decide),fun h3=>by rw[h3 a ha] at h2;exact absurd h2 (by decide)⟩
 ·next h=>exact⟨fun _ a ha=>by
   by_cases e:bW a=0
   ·exact e
   ·exact absurd (tY.mpr ⟨a,ha,(by exact uy.mpr e:(bW a != 0)=true)⟩) h,fun _=>rfl⟩
theorem a4Y {l:ML} (h:¬ gW l=0):gW l=1:=by
 unfold gW at h ⊢
 split
 ·rfl
 ·next h2=>exact absurd (dw h2) h
theorem a5g {x:MR} (g:good (.list (.list (.lf .aU))) x):gdM x:=fun r hr q hq=>(g.2 r hr).2 q hq
end Go.Proofs.YtgplhbhfdgempaaGreat
