/-
  The law EpipolarMatrices of chapter 28 holds for every input; no condition but those of the given statement.
-/
import Derived.Carry
import Derived.Test.YtbkocjmmbkifjaaGreatQm31
import Derived.Test.YtbkocjmmbkifjaaGreatQm32
namespace Go.Proofs.YtbkocjmmbkifjaaGreat
open Go Go.RowKit
section
open Go Go.ChangeShapes Go.WideShapes Go.ChangeAt Go.RowKit Go.Joins
set_option linter.unusedVariables false
set_option linter.unusedSimpArgs false
set_option maxRecDepth 100000
theorem laidOut:laidOutB Tryz.prog=true:=by kernel_rfl
theorem a8g:Tryz.prog.cellsOf 47=4:=by kernel_rfl
theorem a8f:Tryz.prog.cellsOf 45=2:=by kernel_rfl
theorem a6n:Tryz.prog.cellsOf 43=1:=by kernel_rfl
theorem a6m:Tryz.prog.cellsOf 4=1:=by kernel_rfl
theorem a8h:Tryz.prog.cellsOf 148=1:=by kernel_rfl
def a4M (q:aG):Prop:=∀ K,1<=K->q.n<=K->q.m<=K->rsz q.x<=K
def b9Q {α:Type} (p:α->Prop) (xs:List α):Prop:=∀ x ∈ xs,p x
def good:(t:Ty)->t.den->Prop
 | .bool,_=>True
 | .int k,n=>(Lit.int k n).wf=true
 | .lf .jF,q=>a4M q
 | .lf _,_=>True
 | .list t,xs=>List.length (α:=t.den) xs<=9223372036854775807/\b9Q (good t) xs
 | .arr n t,xs=>List.length (α:=t.den) xs=n/\b9Q (good t) xs
 | .pair a b,x=>good a x.1/\good b x.2
 | .unit,_=>True
 | .ref _,_=>True
 | .clo _ _,_=>True
 | .nls _,_=>True
noncomputable def eF:Ty->Option TypeId->List Field->Nat->Bool
 | .pair a b,none,f::fs,o=>f.offset==o&&Tryz.prog.cellsOf f.type==a.n&&eF a (some f.type) [] 0&&eF b none fs (o+a.n)
 | .unit,none,[],_=>true
 | .bool,some T,_,_=>match Tryz.prog.underlying T with
  | some .bool=>true
  | _=>false
 | .int k,some T,_,_=>match Tryz.prog.underlying T with
  | some (.int k')=>k==k'
  | _=>false
 | .lf .jF,some T,_,_=>T==47
 | .list t,some T,_,_=>match Tryz.prog.underlying T with
  | some (.slice e)=>Tryz.prog.cellsOf e==t.n&&decide (0<t.n)&&eF t (some e) [] 0
  | _=>false
 | .arr n t,some T,_,_=>match Tryz.prog.underlying T with
  | some (.array m e)=>m==n&&Tryz.prog.cellsOf e==t.n&&Tryz.prog.cellsOf T==n*t.n&&eF t (some e) [] 0
  | _=>false
 | .pair a b,some T,_,_=>match Tryz.prog.underlying T with
  | some (.struct fs)=>Tryz.prog.cellsOf T==a.n+b.n&&(match fs.toList with
   | f::fs'=>f.offset==0&&Tryz.prog.cellsOf f.type==a.n&&eF a (some f.type) [] 0&&eF b none fs' a.n
   | []=>false)
  | _=>false
 | _,_,_,_=>false
section
variable {H:Type} {enc:TypeId × Value->H} {W:World}
theorem a7S {a:Addr} {v:Value} (h:W.cell? a=some v):a=⟨a.block,a.off,none⟩/\a.block<W.heap.size:=by
 have h1:=World.cell?_spot h
 refine⟨by obtain⟨b,o,s⟩:=a;cases h1;rfl,?_⟩
 exact World.block_lt_of_cell? W a h
theorem b4K {n:Nat} {cs:List Value} {y:DataW H × List MemPlace} (h:DataW.trod enc Tryz.prog W 0 (fun _=>true) true n 43 cs=some y):∃ p l c,cs=[.slice p l.length c]/\Rd W (.slice p l.length c) l/\∀ g ∈ l,g<4294967296:=by
 rcases open_ints (k:=.u32) ku Tryz.underlying148 a8h h with⟨rfl,_⟩|⟨a,len,cap,zs,rfl,_,h1,h2,h3,_,h4,h5⟩
 ·exact⟨none,[],0,rfl,.inl ⟨none,rfl,rfl⟩,by simp⟩
 ·simp at h3
  by_cases hc:cap=0
  ·have hl:len=0:=by omega
   subst hc hl
   exact⟨some a,[],0,rfl,.inl ⟨_,rfl,rfl⟩,by simp⟩
  ·obtain⟨ha,hb⟩:=a7S (h4 0 (by omega))
   have ha:a=⟨a.block,a.off,none⟩:=by simpa [Addr.add] using ha
   have hb:a.block<W.heap.size:=by simpa [Addr.add] using hb
   have hz:∀ n ∈ zs,0<=n/\n<4294967296:=fun n hn=>by
    have:=h5 n hn
    simp[Lit.wf,IntKind.min,IntKind.max,IntKind.signed,IntKind.bits] at this
    omega
   have hL:((zs.take len).map Int.toNat).length=len:=by simp;omega
   refine⟨some a,(zs.take len).map Int.toNat,cap,by rw[hL],.inr ⟨a.block,a.off,cap,by rw[<-ha],by rw[hL];exact h1,by unfold maxLen at h2;omega,hb,fun i hi=>?_⟩,fun g hg=>?_⟩
   ·rw[hL] at hi
    have hi':i<zs.length:=by omega
    have hc:=h4 i hi'
    have hm:zs[i] ∈ zs:=uw hi'
    have:=hz _ hm
    have hg:((gr ((zs.take len).map Int.toNat) i:Nat):Int)=zs.getD i 0:=by
     have e1:gr ((zs.take len).map Int.toNat) i=(zs[i]).toNat:=by simp[gr,List.getD,hi,hi']
     have e2:zs.getD i 0=zs[i]:=by simp[List.getD,hi']
     rw[e1,e2];omega
    rw[hg,<-hc,ha]
    rw[add_plain]
   ·obtain⟨x,hx,rfl⟩:=uj.1 hg
    have:=hz x (zu hx)
    omega
theorem c2X {α:Type} {l:List α} (h:l.length=4):∃ a b c d,l=[a,b,c,d]:=by
 match l,h with
 | [a,b,c,d],_=>exact⟨a,b,c,d,rfl⟩
theorem b6i {n:Nat} {cs:List Value} {y:DataW H × List MemPlace} (h:DataW.trod enc Tryz.prog W 0 (fun _=>true) true n 47 cs=some y):∃ x:aG,Lf.rep W cs .jF x/\a4M x:=by
 obtain⟨xs,m,_,_,hl,hlen,hf⟩:=DataW.trod_struct Tryz.underlying47 h
 rw[a8g] at hl
 obtain⟨c0,c1,c2,c3,rfl⟩:=c2X hl
 match xs,hlen with
 | [y0,y1],_ =>
 have k0:=hf 0 _ rfl
 have k1:=hf 1 _ rfl
 obtain⟨xs0,m0,_,_,_,hlen0,hf0⟩:=DataW.trod_struct Tryz.underlying45 k0
 obtain⟨xs1,m1,_,_,_,hlen1,hf1⟩:=DataW.trod_struct Tryz.underlying45 k1
 match xs0,hlen0,xs1,hlen1 with
 | [z0,z1],_,[z2,z3],_ =>
 have a0:=hf0 0 _ rfl
 have a1:=hf0 1 _ rfl
 have a2:=hf1 0 _ rfl
 have a3:=hf1 1 _ rfl
 simp[a8f,a6m,a6n] at a0 a1 a2 a3
 obtain⟨b,e0,_⟩:=DataW.trod_bool Tryz.underlying4 a0
 obtain⟨d,e2,_⟩:=DataW.trod_bool Tryz.underlying4 a2
 simp at e0 e2
 subst e0 e2
 obtain⟨p,l,c,e1,r1,l1⟩:=b4K a1
 obtain⟨q,k,e,e3,r3,l3⟩:=b4K a3
 simp at e1 e3
 subst e1 e3
 have hq:fK W (.agg #[.bool b,.slice p l.length c,.bool d,.slice q k.length e]) _ _:=⟨_,_,_,_,_,_,_,_,rfl,⟨b,_,l,rfl,r1,l1,rfl,rfl⟩,⟨d,_,k,rfl,r3,l3,rfl,rfl⟩,rfl,rfl⟩
 exact⟨⟨_,_,l,k⟩,⟨b,p,c,d,q,e,rfl,hq,r1,r3⟩,fun K h1 h2 h3=>hq.jO ⟨b,p,_,c,d,q,_,e,rfl,h2,h3⟩ h1⟩
theorem ZX {α:Type} {Q:Nat->α->Prop}:∀ n,(∀ i,i<n->∃ x,Q i x)->∃ xs:List α,xs.length=n/\∀ i (h:i<xs.length),Q i xs[i]
 | 0,_=>⟨[],rfl,fun i h=>by simp at h⟩
 | n+1,h=>by
  obtain⟨xs,h1,h2⟩:=ZX n (fun i hi=>h i (by omega))
  obtain⟨x,hx⟩:=h n (by omega)
  refine⟨xs++[x],by simp[h1],fun i hi=>?_⟩
  by_cases e:i<xs.length
  ·rw[List.getElem_append_left e];exact h2 i e
  ·have:i=n:=by simp at hi;omega
   subst this
   rw[List.getElem_append_right (by omega)]
   simpa using hx
theorem yC {α:Type} {R:List Value->α->Prop} {b o ce:Nat}:∀ (xs:List α) (k:Nat),(∀ i (h:i<xs.length),∃ c,c.length=ce/\(∀ j v,c[j]?=some v->W.cell? ⟨b,o+((k+i)*ce+j),none⟩=some v)/\R c xs[i])->∃ ds,(∀ j v,ds[j]?=some v->W.cell? ⟨b,o+(k*ce+j),none⟩=some v)/\chunks R ds xs
 | [],k,_=>⟨[],fun j v h=>by simp at h,rfl⟩
 | x::xs,k,h=>by
  obtain⟨c,h1,h2,h3⟩:=h 0 (by simp)
  obtain⟨ds,h4,h5⟩:=yC xs (k+1) (fun i hi=>by
   obtain⟨c,h1,h2,h3⟩:=h (i+1) (by simpa using hi)
   exact⟨c,h1,fun j v hj=>by rw[show k+1+i=k+(i+1) by omega];exact h2 j v hj,h3⟩)
  refine⟨c++ds,fun j v hj=>?_,c,ds,rfl,h3,h5⟩
  by_cases e:j<c.length
  ·rw[zx e] at hj
   exact h2 j v hj
  ·rw[List.getElem?_append_right (by omega)] at hj
   have:=h4 _ _ hj
   rw[Ac,Nat.one_mul] at this
   rwa [show k*ce+ce+(j-c.length)=k*ce+j by omega] at this
theorem yS {α:Type} {R:List Value->α->Prop} {ce:Nat}:∀ (xs:List α) (cs:List Value),cs.length=xs.length*ce->(∀ i (h:i<xs.length),R ((cs.drop (i*ce)).take ce) xs[i])->chunks R cs xs
 | [],cs,h,_=>qj (by simpa using h)
 | x::xs,cs,h,hR=>by
  rw[List.length_cons,yx] at h
  refine⟨cs.take ce,cs.drop ce,(Aq ce cs).symm,?_,yS (ce:=ce) xs (cs.drop ce) (by rw[zl];omega) (fun i hi=>?_)⟩
  ·have:=hR 0 (by simp)
   rwa [Nat.zero_mul,List.drop_zero] at this
  ·have:=hR (i+1) (by simpa using hi)
   rwa [yx,Dy,<-Dn] at this
theorem a8i {a:Addr} {n:Nat} {cs:List Value} (h:W.cells? 0 a n=some cs):cs.length=n/\∀ j v,cs[j]?=some v->W.cell? (a.add j)=some v:=by
 unfold World.cells? at h
 rw[jv (um _)] at h
 refine⟨by simpa using mapM_some_length h,fun j v hj=>?_⟩
 have hl:cs.length=n:=by simpa using mapM_some_length h
 have hjn:j<n:=by rw[<-hl];exact(oz.1 hj).1
 have:=mapM_some_get h j j (by simp[hjn])
 rw[hj] at this
 exact this
abbrev a2K (W:World) (q:Nat):Prop:=q<W.heap.size
theorem kQ:(t:Ty)->(T:Option TypeId)->(fs:List Field)->(o:Nat)->eF t T fs o=true->(n:Nat)->(cs:List Value) ->
  (∀ T',T=some T'->(∃ y,DataW.trod enc Tryz.prog W 0 (fun _=>true) true n T' cs=some y)->∃ x:t.den,rep (a2K W) W t cs x/\good t x) /\
  (T=none->cs.length=o+t.n->(∀ f ∈ fs,∃ y,DataW.trod enc Tryz.prog W 0 (fun _=>true) true n f.type ((cs.drop f.offset).take (Tryz.prog.cellsOf f.type))=some y)->∃ x:t.den,rep (a2K W) W t (cs.drop o) x/\good t x)
 | .bool,some T,fs,o,hm,n,cs=>by
  refine⟨fun T' e ⟨y,hy⟩=>?_,fun e=>(by cases e)⟩
  cases e
  unfold eF at hm
  split at hm<;>first|(cases hm;done)|skip
  rename_i hu
  obtain⟨b,rfl,_⟩:=DataW.trod_bool hu hy
  exact⟨b,rfl,trivial⟩
 | .int k,some T,fs,o,hm,n,cs=>by
  refine⟨fun T' e ⟨y,hy⟩=>?_,fun e=>(by cases e)⟩
  cases e
  unfold eF at hm
  split at hm<;>first|(cases hm;done)|skip
  rename_i k' hu
  have hk:k=k':=by simpa using hm
  subst hk
  obtain⟨b,rfl,_,hw⟩:=DataW.trod_int hu hy
  exact⟨b,rfl,hw⟩
 | .lf .jF,some T,fs,o,hm,n,cs=>by
  refine⟨fun T' e ⟨y,hy⟩=>?_,fun e=>(by cases e)⟩
  cases e
  have hT:T=47:=by unfold eF at hm;simpa using hm
  subst hT
  exact b6i hy
 | .list t,some T,fs,o,hm,n,cs=>by
  refine⟨fun T' e ⟨y,hy⟩=>?_,fun e=>(by cases e)⟩
  cases e
  unfold eF at hm
  split at hm<;>first|(cases hm;done)|skip
  rename_i e hu
  simp only[aj,jh,ay] at hm
  obtain⟨⟨hc,hp⟩,hmt⟩:=hm
  rcases DataW.trod_slice hu hy with⟨rfl,_⟩|⟨a,len,cap,elems,rest,m,_,rfl,_,_,h1,h2,h3,h4,_,_⟩
  ·exact⟨([]:List t.den),⟨none,0,rfl,au _,by omega,.inl rfl⟩,by show 0<=_;omega,fun x hx=>by cases hx⟩
  ·rw[hc] at h4
   obtain⟨xs,hxl,hxs⟩:=ZX (Q:=fun i (x:t.den)=>(∃ c,c.length=t.n/\(∀ j v,c[j]?=some v->W.cell? ((a.add (i*t.n)).add j)=some v)/\rep (a2K W) W t c x)/\good t x) len (fun i hi=>by
    have h5:=h4 i hi
    rw[dw (by omega),Option.bind_eq_some_iff] at h5
    obtain⟨c,h6,h7⟩:=h5
    obtain⟨x,h8,h9⟩:=(kQ t (some e) [] 0 hmt m c).1 e rfl ⟨_,h7⟩
    obtain⟨k1,k2⟩:=a8i h6
    exact⟨x,⟨c,k1,k2,h8⟩,h9⟩)
   have hcap:cap<=9223372036854775807:=by unfold maxLen at h2;omega
   refine⟨xs,?_,⟨?_,?_⟩⟩
   ·refine⟨some a,cap,by rw[show List.length (α:=t.den) xs=len from hxl],by rw[show List.length (α:=t.den) xs=len from hxl];exact h1,hcap,?_⟩
    by_cases h0:len=0
    ·exact .inl (qj (by rw[hxl,h0]))
    ·right
     obtain⟨⟨c,k1,k2,_⟩,_⟩:=hxs 0 (by omega)
     obtain⟨v,hv⟩:∃ v,c[0]?=some v:=⟨_,dw (by omega)⟩
     have hcell:=k2 0 v hv
     rw[Nat.zero_mul,show (a.add 0).add 0=a by simp[Addr.add]] at hcell
     obtain⟨ha,hb⟩:=a7S hcell
     obtain⟨ds,d1,d2⟩:=yC (W:=W) (R:=rep (a2K W) W t) (b:=a.block) (o:=a.off) (ce:=t.n) xs 0 (fun i hi=>by
      obtain⟨⟨c,k1,k2,k3⟩,_⟩:=hxs i hi
      refine⟨c,k1,fun j v hj=>?_,k3⟩
      have:=k2 j v hj
      rw[ha,add_plain,add_plain] at this
      rw[qp,<-Nat.add_assoc];exact this)
     exact⟨a.block,a.off,ds,by rw[<-ha],hb,fun j v hj=>by have:=d1 j v hj;rwa [Nat.zero_mul,qp] at this,d2⟩
   ·show xs.length<=_;omega
   ·intro x hx
    obtain⟨i,hi,rfl⟩:=Bl hx
    exact(hxs i hi).2
 | .arr k t,some T,fs,o,hm,n,cs=>by
  refine⟨fun T' e ⟨y,hy⟩=>?_,fun e=>(by cases e)⟩
  cases e
  unfold eF at hm
  split at hm<;>first|(cases hm;done)|skip
  rename_i m e hu
  simp only[aj,jh] at hm
  obtain⟨⟨⟨hk,hc⟩,hC⟩,hmt⟩:=hm
  subst hk
  obtain⟨ys,q,_,_,hl,hyl,hys⟩:=DataW.trod_array hu hy
  rw[hC] at hl
  rw[hc] at hys
  obtain⟨xs,hxl,hxs⟩:=ZX (Q:=fun i (x:t.den)=>rep (a2K W) W t ((cs.drop (i*t.n)).take t.n) x/\good t x) m (fun i hi=>by
   have h5:=hys i hi
   rw[dw (by omega)] at h5
   exact(kQ t (some e) [] 0 hmt q _).1 e rfl ⟨_,h5⟩)
  refine⟨xs,⟨hxl,yS (ce:=t.n) xs cs (by rw[hl,hxl]) (fun i hi=>(hxs i hi).1)⟩,hxl,fun x hx=>?_⟩
  obtain⟨i,hi,rfl⟩:=Bl hx
  exact(hxs i hi).2
 | .pair a b,some T,fs,o,hm,n,cs=>by
  refine⟨fun T' e ⟨y,hy⟩=>?_,fun e=>(by cases e)⟩
  cases e
  unfold eF at hm
  split at hm<;>first|(cases hm;done)|skip
  rename_i gs hu
  simp only[aj,jh] at hm
  obtain⟨hC,hm⟩:=hm
  split at hm<;>first|(cases hm;done)|skip
  rename_i f fs' hgs
  simp only[aj,jh] at hm
  obtain⟨⟨⟨ho,hc⟩,hma⟩,hmb⟩:=hm
  obtain⟨ys,q,_,_,hl,hyl,hys⟩:=DataW.trod_struct hu hy
  rw[hC] at hl
  have hget:∀ (i:Nat) (g:Field),gs[i]?=some g->∃ y,DataW.trod enc Tryz.prog W 0 (fun _=>true) true q g.type ((cs.drop g.offset).take (Tryz.prog.cellsOf g.type))=some y:=fun i g hg=>by
   have hi:i<gs.size:=(zq.1 hg).1
   have:=hys i g hg
   rw[dw (by omega)] at this
   exact⟨_,this⟩
  have h0:=hget 0 f (by rw[<-Array.getElem?_toList,hgs];rfl)
  rw[ho,hc,List.drop_zero] at h0
  obtain⟨x,hx,gx⟩:=(kQ a (some f.type) [] 0 hma q _).1 _ rfl h0
  obtain⟨z,hz,gz⟩:=(kQ b none fs' a.n hmb q cs).2 rfl hl (fun g hg=>by
   obtain⟨i,hi⟩:=List.getElem?_of_mem hg
   exact hget (i+1) g (by rw[<-Array.getElem?_toList,hgs];exact hi))
  exact⟨(x,z),⟨_,_,(Aq a.n cs).symm,hx,hz⟩,gx,gz⟩
 | .pair a b,none,[],o,hm,n,cs=>by simp[eF] at hm
 | .pair a b,none,f::fs',o,hm,n,cs=>by
  refine⟨fun T' e=>(by cases e),fun _ hl hg=>?_⟩
  unfold eF at hm
  simp only[aj,jh] at hm
  obtain⟨⟨⟨ho,hc⟩,hma⟩,hmb⟩:=hm
  have h0:=hg f (jr ..)
  rw[ho,hc] at h0
  obtain⟨x,hx,gx⟩:=(kQ a (some f.type) [] 0 hma n _).1 _ rfl h0
  obtain⟨z,hz,gz⟩:=(kQ b none fs' (o+a.n) hmb n cs).2 rfl (by rw[hl];show o+(a.n+b.n)=_;omega) (fun g hg'=>hg g (jk _ hg'))
  refine⟨(x,z),⟨(cs.drop o).take a.n,cs.drop (o+a.n),?_,hx,hz⟩,gx,gz⟩
  rw[<-Dn,Aq]
 | .unit,none,[],o,hm,n,cs=>by
  refine⟨fun T' e=>(by cases e),fun _ hl _=>⟨(),?_,trivial⟩⟩
  show cs.drop o=[]
  exact List.drop_eq_nil_of_le (by rw[hl];exact au _)
 | .unit,none,_::_,o,hm,n,cs=>by simp[eF] at hm
 | .unit,some _,_,_,hm,_,_=>by simp[eF] at hm
 | .bool,none,_,_,hm,_,_=>by simp[eF] at hm
 | .int _,none,_,_,hm,_,_=>by simp[eF] at hm
 | .lf .jF,none,_,_,hm,_,_=>by simp[eF] at hm
 | .lf .rat,_,_,_,hm,_,_=>by simp[eF] at hm
 | .lf .big,_,_,_,hm,_,_=>by simp[eF] at hm
 | .lf .GN,_,_,_,hm,_,_=>by simp[eF] at hm
 | .lf .str,_,_,_,hm,_,_=>by simp[eF] at hm
 | .list _,none,_,_,hm,_,_=>by simp[eF] at hm
 | .arr _ _,none,_,_,hm,_,_=>by simp[eF] at hm
 | .ref _,_,_,_,hm,_,_=>by simp[eF] at hm
 | .clo _ _,_,_,_,hm,_,_=>by simp[eF] at hm
 | .nls _,_,_,_,hm,_,_=>by simp[eF] at hm
theorem a7O {t:Ty} {T:TypeId} {v:Value} {d:DataW H} {p:List MemPlace} {b0:Nat} (hm:eF t (some T) [] 0=true) (hv:Value.okWide Tryz.prog W .any b0 T v) (h:DataW.Trod enc Tryz.prog W 0 (fun _=>true) true T v d p) :
  ∃ x:t.den,iU (a2K W) W t v x/\good t x:=by
 obtain⟨n,hn⟩:=h
 obtain⟨x,hx,gx⟩:=(kQ t (some T) [] 0 hm n v.cells.toList).1 T rfl ⟨_,hn⟩
 refine⟨x,⟨v.cells.toList,?_,hx⟩,gx⟩
 cases t with
 | bool =>
  unfold eF at hm
  split at hm<;>first|(cases hm;done)|skip
  rename_i hu
  simp only[Value.okWide,hu,Cell.okWide,Cell.ok] at hv
  split at hv<;>simp_all [Value.cells,Ty.toV,Ty.agg]
 | int k =>
  unfold eF at hm
  split at hm<;>first|(cases hm;done)|skip
  rename_i k' hu
  simp only[Value.okWide,hu,Cell.okWide,Cell.ok] at hv
  split at hv<;>simp_all [Value.cells,Ty.toV,Ty.agg]
 | lf l =>
  cases l<;>try (simp[eF] at hm;done)
  have hT:T=47:=by unfold eF at hm;simpa using hm
  subst hT
  simp only[Value.okWide,Tryz.underlying47] at hv
  obtain⟨cs,rfl,_⟩:=hv
  simp[Ty.toV,Ty.agg,Lf.agg,Value.cells]
 | list t =>
  unfold eF at hm
  split at hm<;>first|(cases hm;done)|skip
  rename_i e hu
  simp only[Value.okWide,hu,Cell.okWide,Cell.ok] at hv
  split at hv<;>simp_all [Value.cells,Ty.toV,Ty.agg]
 | arr k t =>
  unfold eF at hm
  split at hm<;>first|(cases hm;done)|skip
  rename_i m e hu
  simp only[Value.okWide,hu] at hv
  obtain⟨cs,rfl,_⟩:=hv
  simp[Ty.toV,Ty.agg,Value.cells]
 | pair a b =>
  unfold eF at hm
  split at hm<;>first|(cases hm;done)|skip
  rename_i gs hu
  simp only[Value.okWide,hu] at hv
  obtain⟨cs,rfl,_⟩:=hv
  simp[Ty.toV,Ty.agg,Value.cells]
 | _=>simp[eF] at hm
end
end
set_option maxRecDepth 100000
set_option maxHeartbeats 4000000
set_option linter.unusedVariables false
set_option linter.unusedSimpArgs false
theorem a4B {P:Program} {f:FuncId} {args res:List Ty} {pre:(nest args).den->Prop} {fn fn':(nest args).den->(nest res).den} {d d':∀ x,Dc (pre x)} (h:aS P f (@Ctr.mk args res pre fn d)) (e:∀ x,pre x->fn x=fn' x):aS P f (@Ctr.mk args res pre fn' d'):=fun F w vs x a b hp=>by
 have h2:=h F w vs x a b hp
 rw[show (@Ctr.mk args res pre fn d).fn x=fn' x from e x hp] at h2
 exact h2
theorem b1l:aS Tryz.prog 41 c0A:=a4B b3P fun x hp=>b1k hp.1 _
def b5i (a:MR):Prop:=∀ r ∈ a,∀ q ∈ r,a4M q
theorem a7V {q:aG} (h:iC q=true) (g:a4M q):smQ q:=by
 unfold iC at h
 rw[aj,aj] at h
 have h1:=Bj h.1.1
 have h2:=Bj h.1.2
 exact⟨h1,h2,fun _=>g 1 (au 1) h1 h2⟩
theorem b1f {f:MR} (h:SK f=true) (g:b5i f):uG f:=by
 unfold SK at h
 rw[aj,ay,iw] at h
 refine⟨h.1,fun r hr=>?_⟩
 have h2:=Bh.mp h.2 r hr
 have h3:qZ r=false:=by simpa using h2
 unfold qZ at h3
 rw[iy,ak,jo] at h3
 exact⟨by omega,fun q hq=>a7V (vg.mp h3.2 q hq) (g r hr q hq)⟩
theorem b0V:aS Tryz.prog 159 c0z:=by
 refine bH (nil0.ad b9H) ⟨[],[],[]⟩ Tryz.func159 rfl (by decide) (fun x=>[.inv {k:Nat // k<=(show LQ' from x.1).length/\(show LQ' from x.1).take k=(show LQ' from x.2.1).take k} (fun k=>[(5,.val tI (k.1:Int))]) (fun k=>[]) (fun k=>(show LQ' from x.1).length-k.1) ⟨0,by omega,rfl⟩ (fun _=>[])]) (fun x hp=>?_)
 obtain⟨x,y,u⟩:=x
 change List Rat at x
 change List Rat at y
 refine dD (ifB (aB x.length != aB y.length) (True/\false=decide (x=y)/\True) ((asT Int 0=0/\True)/\∀ (i:{ k:Nat // k<=List.length x/\List.take k x=List.take k y }),asT Bool true=true/\ifB (decide (aB (aA i)<aB x.length)) ((0<=aB (aA i)/\aB (aA i)<aB x.length/\0<=aB (aA i)/\aB (aA i)<aB y.length/\s19 (List.getD x (aB (aA i)).toNat 0) (List.getD y (aB (aA i)).toNat 0)/\True)/\ifB (!decide (List.getD x (aB (aA i)).toNat 0=List.getD y (aB (aA i)).toNat 0)) (True/\false=decide (x=y)/\True) (∃ (i':{ k:Nat // k<=List.length x/\List.take k x=List.take k y }),List.length x-aA i'<List.length x-aA i/\IntKind.wrap IntKind.i64 (aB (aA i)+1)=aB (aA i')/\True)) (True/\true=decide (x=y)/\True))) (by kernel_rfl) ?_
 have hZ:(⟨false,0,[],[]⟩:aG)=bM:=rfl
 dsimp only[aB,asT,aA,aJ,Ty.den,Lf.den] at *
 simp only[hZ,Int.toNat_natCast,aO,ay,ak,ni,lg,iE,nameAt,cO,jQ,lD,rowAt,jc,iq]
 have hp:szL x/\szL y:=hp
 obtain⟨⟨q1,q2⟩,q3,q4⟩:=hp
 refine⟨fun h=>?_,fun h i=>⟨fun h1=>?_,fun h1=>?_⟩⟩
 ·have h:(x.length:Int)≠y.length:=by simpa using h
  exact(qw (fun e=>h (by rw[e]))).symm
 ·have hl:x.length=y.length:=by
   have:(x.length:Int)=y.length:=by simpa using h
   omega
  have hi:i.1<x.length:=by omega
  have z1:rsz (x.getD i.1 0)<=100000000:=aV q2 hi
  have z2:rsz (y.getD i.1 0)<=100000000:=aV q4 (by omega)
  refine⟨⟨by omega,by omega,by omega,by omega,⟨by omega,by omega⟩⟩,fun h2=>?_,fun h2=>⟨⟨i.1+1,by omega,?_⟩,by simp only;omega,by rw[bI (by omega) (by omega)];rfl⟩⟩
  ·have h2:x.getD i.1 0≠y.getD i.1 0:=by simpa using h2
   exact(qw (fun e=>h2 (yj (fun l=>l.getD i.1 0) e))).symm
  ·have h2:x.getD i.1 0=y.getD i.1 0:=by simpa using h2
   exact SV hi (by omega) i.2.2 h2
 ·have hl:x.length=y.length:=by
   have:(x.length:Int)=y.length:=by simpa using h
   omega
  have h3:=i.2.2
  rw[jg (by omega),jg (by omega)] at h3
  exact(wz h3).symm
theorem b1n:aS Tryz.prog 73 c0z:=by
 refine bH (nil0.ad b0V) ⟨[],[],[]⟩ Tryz.func73 rfl (by decide) (fun x=>[]) (fun x hp=>?_)
 obtain⟨x,y,u⟩:=x
 change List Rat at x
 change List Rat at y
 refine dD (((szL x/\szL y)/\True)/\True/\decide (x=y)=decide (x=y)/\True) (by kernel_rfl) ?_
 exact⟨⟨hp,trivial⟩,trivial,rfl,trivial⟩
noncomputable def c0i:Ctr:=⟨[tM,tM,.clo 73 .unit],[tB],fun x=>SS x.1/\SS x.2.1,fun x=>(decide ((show MQ from x.1)=(show MQ from x.2.1)),())⟩
theorem a8x:aS Tryz.prog 72 c0i:=by
 refine bH (nil0.ad b1n) ⟨[],[],[]⟩ Tryz.func72 rfl (by decide) (fun x=>[.inv {k:Nat // k<=(show MQ from x.1).length/\(show MQ from x.1).take k=(show MQ from x.2.1).take k} (fun k=>[(17,.val tI (k.1:Int))]) (fun k=>[]) (fun k=>(show MQ from x.1).length-k.1) ⟨0,by omega,rfl⟩ (fun _=>[])]) (fun x hp=>?_)
 obtain⟨x,y,c,u⟩:=x
 change List (List Rat) at x
 change List (List Rat) at y
 change Unit at c
 refine dD (ifB (aB x.length != aB y.length) (True/\false=decide (x=y)/\True) ((asT Int 0=0/\True)/\∀ (i:{ k:Nat // k<=List.length x/\List.take k x=List.take k y }),asT Bool true=true/\ifB (decide (aB (aA i)<aB x.length)) ((0<=aB (aA i)/\aB (aA i)<aB x.length/\True)/\(0<=aB (aA i)/\aB (aA i)<aB y.length/\True)/\((szL (List.getD x (aB (aA i)).toNat (aJ Rat))/\szL (List.getD y (aB (aA i)).toNat (aJ Rat)))/\True)/\ifB (!decide (List.getD x (aB (aA i)).toNat (aJ Rat)=List.getD y (aB (aA i)).toNat (aJ Rat))) (True/\false=decide (x=y)/\True) (∃ (i':{ k:Nat // k<=List.length x/\List.take k x=List.take k y }),List.length x-aA i'<List.length x-aA i/\IntKind.wrap IntKind.i64 (aB (aA i)+1)=aB (aA i')/\True)) (True/\true=decide (x=y)/\True))) (by kernel_rfl) ?_
 have hZ:(⟨false,0,[],[]⟩:aG)=bM:=rfl
 try simp only[aO,ay,ak]
 try dsimp only[aB,asT,aA,aJ,Ty.den,Lf.den] at *
 try simp only[hZ,Int.toNat_natCast,aO,ay,ak,ni,lg,jc,iq]
 try simp only[fU,fQ,List.all_cons,List.all_nil,oq,iw,jo,jh,ql,ne_eq,aj,je,jf,jl,mg,vw,qg,wu,ni,lg,jw,iy,List.length_cons,List.length_nil]
 have hp:SS x/\SS y:=hp
 obtain⟨⟨q1,q2⟩,q3,q4⟩:=hp
 refine⟨fun h=>(qw fun e=>h (by rw[e])).symm,fun h i=>⟨fun h1=>⟨⟨by omega,h1⟩,⟨by omega,by omega⟩,⟨aV q2 (by omega),aV q4 (by omega)⟩,fun h2=>(qw fun e=>of_decide_eq_false h2 (yj (fun l=>l.getD i.1 []) e)).symm,fun h2=>⟨⟨i.1+1,by omega,?_⟩,by simp only;omega,by rw[bI (by omega) (by omega)];rfl⟩⟩,fun h1=>?_⟩⟩
 ·exact SV (d:=[]) (by omega) (by omega) i.2.2 (Bj h2)
 ·have h3:=i.2.2
  rw[jg (by omega),jg (by omega)] at h3
  exact(wz h3).symm
theorem a7w:aS Tryz.prog 14 c2k:=by
 refine bH (nil0.ad a8x) ⟨[],[],[]⟩ Tryz.func14 rfl (by decide) (fun x=>[]) (fun x hp=>?_)
 obtain⟨x,y,u⟩:=x
 change List (List Rat) at x
 change List (List Rat) at y
 refine dD (((SS x/\SS y)/\True)/\True/\decide (x=y)=decide (x=y)/\True) (by kernel_rfl) ?_
 exact⟨⟨hp,trivial⟩,trivial,rfl,trivial⟩
theorem b4o (f:MR):List.map (fun x:aG=>x.x) f.flatten=(mq8 f).flatten:=by
 unfold mq8 lq8
 rw[List.map_flatten]
theorem b1F {f:MR} (hs:uG f) (h:vM f=true):GK (mq8 f).flatten:=by
 have hm:=IY hs h
 refine⟨by rw[hm.1.flat.1];omega,fun q hq=>dh (hm.1.flat.2 q hq) (by omega),?_⟩
 rw[NZ,aj,<-a7L] at h
 obtain⟨q,hq,hz⟩:=List.any_eq_true.mp h.2
 exact⟨q.x,by rw[<-b4o];exact uj.2 ⟨q,hq,rfl⟩,by unfold nzQ at hz;exact Bj hz⟩
theorem b6j {p:dZ} (h:¬ rJ [p]=0):yH p=true/\rJ [p]=2:=by
 revert h
 unfold rJ
 rw[List.any_cons,List.any_nil,Bool.or_false]
 cases yH p<;>simp
theorem b3y {p:dZ} (h:rJ [p]=0):¬ yH p=true:=fun e=>by
 unfold rJ at h
 rw[List.any_cons,e] at h
 exact absurd h (by decide)
def sJ (f:MR):MQ × Int × Unit:=if vM f=true then (TM (mq8 f).flatten,0,()) else ([],1,())
noncomputable def b4X:Ctr:=⟨[tMR],[tM,tI],fun x=>uG x.1,fun x=>sJ x.1⟩
theorem a6l:aS Tryz.prog 35 b4X:=by
 refine bH (((nil0.ad a0G).ad a0Y).ad a8c) ⟨[],[],[]⟩ Tryz.func35 rfl (by decide) (fun x=>[]) (fun x hp=>?_)
 obtain⟨f,u⟩:=x
 change List (List aG) at f
 refine dD (let A₀:=(List.map (fun(x:Ty.den (Ty.lf Lf.jF))=>aG.x x) (List.flatten f));let A₁:=(List.map (fun(n:Int)=>dR n) (qI A₀));(uG f/\True)/\ifB (!vM f) (True/\aJ (List Rat)=Prod.fst (sJ f)/\True/\1=Prod.fst (sJ f).2/\True) (((List.length f<=1000/\∀ (r:List aG),r ∈ f->List.length r<=1000)/\mF (fun(x:Ty.den (Ty.lf Lf.jF))=>dP ((aG.ok x=true)::aJ Cd)) (List.flatten f)/\(GK A₀/\List.length A₀=9)/\True)/\True/\List.take 3 A₁::List.drop 3 (List.take 6 A₁)::List.drop 6 A₁::aJ (List Rat)=Prod.fst (sJ f)/\True/\0=Prod.fst (sJ f).2/\True)) (by kernel_rfl) ?_
 have hZ:(⟨false,0,[],[]⟩:aG)=bM:=rfl
 try simp only[aO,ay,ak]
 try dsimp only[aB,asT,aA,aJ,Ty.den,Lf.den] at *
 try simp only[hZ,Int.toNat_natCast,aO,ay,ak,ni,lg,jc,iq]
 try simp only[fU,fQ,List.all_cons,List.all_nil,oq,iw,jo,jh,ql,ne_eq,aj,je,jf,jl,mg,vw,qg,wu,ni,lg,jw,iy,List.length_cons,List.length_nil]
 have hp:uG f:=hp
 refine⟨hp,fun h=>?_,fun h=>?_⟩
 ·unfold sJ;rw[jq (by rw[h];decide)];exact⟨rfl,rfl⟩
 ·obtain⟨hm,ho⟩:=IY hp h
  have e:=b4o f
  have h9:=hm.flat.1
  have h3:f.length<=4:=hp.1
  refine⟨⟨⟨by omega,fun r hr=>by have:=(hp.2 r hr).1;omega⟩,jX.mpr fun q hq=>?_,?_,?_⟩,?_⟩
  ·obtain⟨r,hr,hq⟩:=List.mem_flatten.mp hq
   exact⟨ho r hr q hq,trivial⟩
  ·rw[e];exact b1F hp h
  ·rw[e];exact h9
  ·rw[e];unfold sJ;rw[jv h];exact⟨rfl,rfl⟩
def qW (f:MR) (p:dZ):aG × Int × Unit:=if vM f=true then (if yH p=true then (bM,2,()) else (kC (pU (mq8 f) p),0,())) else (bM,1,())
def vI (f:MR) (p:dZ):aG × Int × Unit:=if vM f=true then (if yH p=true then (bM,2,()) else yJ (mq8 f) p) else (bM,1,())
noncomputable def b5a:Ctr:=⟨[tMR,IJ],[tR,tI],fun x=>uG x.1,fun x=>qW x.1 x.2.1⟩
noncomputable def b5b:Ctr:=⟨[tMR,IJ],[tR,tI],fun x=>uG x.1,fun x=>vI x.1 x.2.1⟩
theorem a7i:aS Tryz.prog 36 b5a:=by
 refine bH (((nil0.ad a0G).ad WI).ad a5B) ⟨[4],[],[]⟩ Tryz.func36 rfl (by decide) (fun x=>[]) (fun x hp=>?_)
 obtain⟨f,p,u⟩:=x
 change List (List aG) at f
 change dZ at p
 refine dD ((uG f/\True)/\ifB (!vM f) (True/\bM=Prod.fst (qW f p)/\True/\1=Prod.fst (qW f p).2/\True) ((List.length (p::aJ ((Int × Int × PUnit) × (Int × Int × PUnit) × PUnit))<=1000000/\True)/\ifB (rJ (p::aJ ((Int × Int × PUnit) × (Int × Int × PUnit) × PUnit)) != 0) (True/\bM=Prod.fst (qW f p)/\True/\rJ (p::aJ ((Int × Int × PUnit) × (Int × Int × PUnit) × PUnit))=Prod.fst (qW f p).2/\True) ((mF (fun(x:Ty.den (Ty.list (Ty.lf Lf.jF)))=>dP (mF (fun(x:Ty.den (Ty.lf Lf.jF))=>dP ((aG.ok x=true)::aJ Cd)) x::aJ Cd)) f/\(m33 100 (mq8 f)/\cdP p.1/\cdP p.2.1)/\True)/\True/\kC (pU (mq8 f) p)=Prod.fst (qW f p)/\True/\0=Prod.fst (qW f p).2/\True))) (by kernel_rfl) ?_
 have hZ:(⟨false,0,[],[]⟩:aG)=bM:=rfl
 try simp only[aO,ay,ak]
 try dsimp only[aB,asT,aA,aJ,Ty.den,Lf.den] at *
 try simp only[hZ,Int.toNat_natCast,aO,ay,ak,ni,lg,jc,iq]
 try simp only[fU,fQ,List.all_cons,List.all_nil,oq,iw,jo,jh,ql,ne_eq,aj,je,jf,jl,mg,vw,qg,wu,ni,lg,jw,iy,List.length_cons,List.length_nil]
 have hp:uG f:=hp
 refine⟨hp,fun h=>?_,fun h=>⟨by omega,fun h1=>?_,fun h1=>?_⟩⟩
 ·unfold qW;rw[jq (by rw[h];decide)];exact⟨rfl,rfl⟩
 ·unfold qW
  obtain⟨h2,h3⟩:=b6j h1
  rw[jv h,jv h2];exact⟨rfl,h3⟩
 ·obtain⟨hm,ho⟩:=IY hp h
  have hc:=a3F h1 p (by simp)
  refine⟨⟨jX.mpr fun r hr=>⟨jX.mpr fun q hq=>⟨ho r hr q hq,trivial⟩,trivial⟩,hm,hc.1,hc.2⟩,?_⟩
  unfold qW
  rw[jv h,jq (b3y h1)];exact⟨rfl,rfl⟩
theorem a7x:aS Tryz.prog 37 b5b:=by
 refine bH (((nil0.ad a0G).ad WI).ad b3O) ⟨[4],[],[]⟩ Tryz.func37 rfl (by decide) (fun x=>[]) (fun x hp=>?_)
 obtain⟨f,p,u⟩:=x
 change List (List aG) at f
 change dZ at p
 refine dD ((uG f/\True)/\ifB (!vM f) (True/\bM=Prod.fst (vI f p)/\True/\1=Prod.fst (vI f p).2/\True) ((List.length (p::aJ ((Int × Int × PUnit) × (Int × Int × PUnit) × PUnit))<=1000000/\True)/\ifB (rJ (p::aJ ((Int × Int × PUnit) × (Int × Int × PUnit) × PUnit)) != 0) (True/\bM=Prod.fst (vI f p)/\True/\rJ (p::aJ ((Int × Int × PUnit) × (Int × Int × PUnit) × PUnit))=Prod.fst (vI f p).2/\True) ((mF (fun(x:Ty.den (Ty.list (Ty.lf Lf.jF)))=>dP (mF (fun(x:Ty.den (Ty.lf Lf.jF))=>dP ((aG.ok x=true)::aJ Cd)) x::aJ Cd)) f/\(m33 100 (mq8 f)/\cdP p.1/\cdP p.2.1)/\True)/\True/\Prod.fst (yJ (mq8 f) p)=Prod.fst (vI f p)/\True/\Prod.fst (yJ (mq8 f) p).2=Prod.fst (vI f p).2/\True))) (by kernel_rfl) ?_
 have hZ:(⟨false,0,[],[]⟩:aG)=bM:=rfl
 try simp only[aO,ay,ak]
 try dsimp only[aB,asT,aA,aJ,Ty.den,Lf.den] at *
 try simp only[hZ,Int.toNat_natCast,aO,ay,ak,ni,lg,jc,iq]
 try simp only[fU,fQ,List.all_cons,List.all_nil,oq,iw,jo,jh,ql,ne_eq,aj,je,jf,jl,mg,vw,qg,wu,ni,lg,jw,iy,List.length_cons,List.length_nil]
 have hp:uG f:=hp
 refine⟨hp,fun h=>?_,fun h=>⟨by omega,fun h1=>?_,fun h1=>?_⟩⟩
 ·unfold vI;rw[jq (by rw[h];decide)];exact⟨rfl,rfl⟩
 ·unfold vI
  obtain⟨h2,h3⟩:=b6j h1
  rw[jv h,jv h2];exact⟨rfl,h3⟩
 ·obtain⟨hm,ho⟩:=IY hp h
  have hc:=a3F h1 p (by simp)
  refine⟨⟨jX.mpr fun r hr=>⟨jX.mpr fun q hq=>⟨ho r hr q hq,trivial⟩,trivial⟩,hm,hc.1,hc.2⟩,?_⟩
  unfold vI
  rw[jv h,jq (b3y h1)];exact⟨rfl,rfl⟩
section
open Go Go.ChangeShapes Go.WideShapes Go.ChangeAt Go.RowKit Go.Joins
set_option maxRecDepth 100000 in
theorem wS {pre:(nest [(.list (.list (.lf .jF))),(.pair (.pair (.int .i64) (.pair (.int .i64) .unit)) (.pair (.pair (.int .i64) (.pair (.int .i64) .unit)) .unit))]).den->Prop} (h:aS Tryz.prog 6 ⟨[(.list (.list (.lf .jF))),(.pair (.pair (.int .i64) (.pair (.int .i64) .unit)) (.pair (.pair (.int .i64) (.pair (.int .i64) .unit)) .unit))],[.bool],pre,fun _=>(true,())⟩) (hp:∀ (x0:Ty.den (.list (.list (.lf .jF)))) (x1:Ty.den (.pair (.pair (.int .i64) (.pair (.int .i64) .unit)) (.pair (.pair (.int .i64) (.pair (.int .i64) .unit)) .unit))),good (.list (.list (.lf .jF))) x0->good (.pair (.pair (.int .i64) (.pair (.int .i64) .unit)) (.pair (.pair (.int .i64) (.pair (.int .i64) .unit)) .unit)) x1->pre (x0,x1,())):Rows.EpipolarMatricesSaid:=by
 have lifted:∀ (os:Os) (started:os.Started) (H:Type) (enc:TypeId × Value->H),ReturnsInHanded {} Tryz.checked os 6 .any (Rows.epipolarMatricesSpec.pre6 enc Tryz.prog Tryz.f6 Rows.epipolarMatricesRow.domain false) (Rows.epipolarMatricesSpec.post enc Tryz.prog Tryz.f6 false true false false):=by
  intro os started H enc
  refine returnsInHanded_of_change (C:=Tryz.checked) own started (by kernel_rfl) Tryz.func6
   (ChangeSpec.witness6 (enc:=enc) (C:=Tryz.checked) false ⟨#[],#[.slice none 0 0,.agg #[.int .i64 0,.int .i64 0,.int .i64 0,.int .i64 0]],[]⟩ 8 (by kernel_rfl) (by kernel_rfl) (by kernel_rfl) (by kernel_rfl)) ?_
  intro W base args ds gs before hval0 hW hcnd _
  have hval:∀ (j:Nat) t v,Tryz.f6.params[j]?=some t->args[j]?=some v->Value.okWide Tryz.prog W .any base t v:=hval0
  have hW':=hW
  obtain⟨p,q,hA0,hV,rfl,hfz,hnd⟩:=hW
  have hA:DataW.TrodAll enc Tryz.prog W 0 (fun _=>true) true Tryz.f6.params.toList args.toList ds p:=hA0
  rw[Tryz.params6] at hA hval
  obtain⟨v0,vs0,d0,ds0,p0,q0,hargs,rfl,rfl,h0,r0⟩:=trodAll_cons hA
  obtain⟨v1,vs1,d1,ds1,p1,q1,rfl,rfl,rfl,h1,r1⟩:=trodAll_cons r0
  obtain⟨rfl,rfl,rfl⟩:=trodAll_nil r1
  obtain rfl:args=#[v0,v1]:=by cases args;simp_all
  obtain⟨rfl,rfl⟩:=trodVars_none hV
  obtain⟨x0,k0,g0⟩:=a7O (t:=.list (.list (.lf .jF))) (by kernel_rfl) (hval 0 32 v0 rfl rfl) h0
  have l0:∀ x ∈ p0,x.block<W.heap.size:=fun x hx=>hW'.lt x (by simp[hx])
  obtain⟨x1,k1,g1⟩:=a7O (t:=.pair (.pair (.int .i64) (.pair (.int .i64) .unit)) (.pair (.pair (.int .i64) (.pair (.int .i64) .unit)) .unit)) (by kernel_rfl) (hval 1 76 v1 rfl rfl) h1
  have l1:∀ x ∈ p1,x.block<W.heap.size:=fun x hx=>hW'.lt x (by simp[hx])
  refine(h (a2K W) W [v0,v1] (x0,x1,()) (fun q hq=>hq) ⟨_,_,rfl,k0,_,_,rfl,k1,rfl⟩ (hp x0 x1 g0 g1)).mono fun e W' ⟨v,he,hr,hg⟩=>?_
  subst he
  have hr:iU _ W' .bool v true:=hr
  rw[b4W hr]
  exact⟨_,rfl,_,_,_,[],_,[],hW',trodAll_cons_mk (shut_bool Tryz.underlying4 _) trodAll_mk0,(trodAll_cons_mk (Below.trod laidOut (by kernel_rfl) (Bj (by kernel_rfl)) h0 hg l0) (trodAll_cons_mk (Below.trod laidOut (by kernel_rfl) (Bj (by kernel_rfl)) h1 hg l1) trodAll_mk0)),rfl,hg.frame _,fun h=>by cases h⟩
 exact OpenClaim.holds_of_wide 6 Tryz.f6 rfl rfl rfl rfl rfl rfl rfl ⟨rfl,rfl,rfl,rfl,rfl⟩ rfl rfl rfl rfl rfl (by kernel_rfl) Tryz.func6 (by kernel_rfl)
  (Bj (by kernel_rfl)) (by unfold Func.isWrapper;first|(rw[jv (by decide +kernel)];kernel_rfl)|(rw[jq (by decide +kernel)];exact⟨rfl,rfl⟩))
  (fun os started H enc _=>lifted os started H enc)
end
theorem b0W:aS Tryz.prog 43 c0y:=a4B a5D fun x hp=>yj (fun r:Rat=>(r,())) (a2h hp.1 _)
theorem b9I:aS Tryz.prog 42 (b1X s19 (fun x y=>decide (x=y))):=(YG fun v u x y w a b h=>a0o v u x y w a b h.1 h.2)
theorem b2d {l:LQ'} (h:GK l) (h9:l.length=9):SS (TM l):=by
 have hl:((qI l).map fun n=>dR n).length=9:=by rw[xw,RU,h9]
 have hs:∀ q ∈ ((qI l).map fun n=>dR n),rsz q<=100000000:=fun q hq=>by
  obtain⟨n,hn,rfl⟩:=uj.1 hq
  have:=a5u h n hn
  have h2:rsz (dR n)<=isz n+1:=a0q n
  omega
 refine⟨by show 3<=1000;omega,fun r hr=>?_⟩
 simp only[TM,a6v,qm,Bz,or_false] at hr
 rcases hr with rfl|rfl|rfl
 ·exact⟨by rw[jy];omega,fun q hq=>hs q (zu hq)⟩
 ·exact⟨by rw[zl,jy];omega,fun q hq=>hs q (zu (List.mem_of_mem_drop hq))⟩
 ·exact⟨by rw[zl];omega,fun q hq=>hs q (List.mem_of_mem_drop hq)⟩
theorem m33.mono {K L:Nat} {f:MQ} (h:m33 K f) (hl:K<=L):m33 L f:=⟨h.1,fun i hi j hj=>dh (h.2 i hi j hj) hl⟩
noncomputable def c1Z:Ctr:=⟨[tMR,IJ],[tB],fun x=>b5i x.1,fun _=>(true,())⟩
theorem b2m:aS Tryz.prog 6 c1Z:=by
 refine bH ((((((((((((nil0.ad a6P).ad b3M).ad a6l).ad a7i).ad a7x).ad b2q).ad b0L).ad b1l).ad b0W).ad a8d).ad a7w).ad b9I) ⟨[7,9,12],[],[]⟩ Tryz.func6 rfl (by decide) (fun x=>[]) (fun x hp=>?_)
 obtain⟨f,p,u⟩:=x
 change List (List aG) at f
 change dZ at p
 refine dD (let A₁:=(bif bif Prod.fst (sJ f).2==1 then Prod.fst (qW f p).2==Prod.fst (sJ f).2 else false then Prod.fst (vI f p).2==Prod.fst (sJ f).2 else false);let A₂:=(p::aJ ((Int × Int × PUnit) × (Int × Int × PUnit) × PUnit));let eU:=(bif Prod.fst (sJ f).2==1 then Prod.fst (qW f p).2==Prod.fst (sJ f).2 else false);let iF:=(List.map (fun(n:Int)=>dR n) (qI (List.flatten (mq8 f))));let pY:=(fun(x:Ty.den (Ty.list (Ty.lf Lf.jF)))=>dP (mF (fun(x:Ty.den (Ty.lf Lf.jF))=>dP ((aG.ok x=true)::aJ Cd)) x::aJ Cd));let oO:=(Prod.fst (qW f p).2==rJ A₂);let CB:=(Prod.fst (sJ f).2==1);let a0K:=(yJ (mq8 f) p).2;let b4S:=(aG.x (qW f p).1=pU (mq8 f) p);let A₀:=(bif bif Prod.fst (qW f p).2==0 then decide b4S else false then Prod.fst (vI f p).2==Prod.fst a0K else false);let gQ:=(bif Prod.fst (qW f p).2==0 then decide b4S else false);let yG:=(A₀==true&&(Prod.fst a0K != 0)==false);let b9J:=(m33 100 (mq8 f)/\cdP p.1/\cdP p.2.1);let b4T:=(yJ (mq8 f) p).1;let b9K:=((A₁==true)=true->(A₁==true)=true/\True);let b9L:=((A₀==true)=true->(A₀==true)=true/\True);let b9M:=(Prod.fst (qW f p).2==0);let lG:=(b9M==true);let b9N:=(Prod.fst (sJ f).2 != 0);let jR:=(b9N==false);(True/\True)/\(True/\True)/\ifB (!SK f) (True/\asT Bool true=true/\True) ((uG f/\True)/\(uG f/\True)/\(uG f/\True)/\(uG f/\True)/\ifB (!vM f) ((((CB==true)=true->(CB==true)=true/\(CB==true)=true/\True)/\(CB=true->(CB==true)=true)/\((eU==true)=true->(eU==true)=true/\(eU==true)=true/\True)/\(eU=true->(eU==true)=true)/\b9K/\b9K/\(A₁=true->(A₁==true)=true)/\True)/\True/\(bif bif bif Prod.fst (sJ f).2==1 then Prod.fst (qW f p).2==Prod.fst (sJ f).2 else false then Prod.fst (vI f p).2==Prod.fst (sJ f).2 else false then aB (sJ f).1.length==0 else false)=true/\True) (((jR=true->jR=true/\mF pY f/\(m33 1000000 (mq8 f)/\∃ (q:Rat),q ∈ List.flatten (mq8 f)/\q≠0)/\True)/\(jR=true->jR=true/\jR=true/\(SS (sJ f).1/\SS (List.take 3 iF::List.drop 3 (List.take 6 iF)::List.drop 6 iF::aJ (List Rat)))/\True)/\(jR=true->jR=true/\True)/\(b9N=false->jR=true)/\True)/\ifB (bif Prod.fst (sJ f).2 != 0 then true else !decide (Prod.fst (sJ f)=List.take 3 iF::List.drop 3 (List.take 6 iF)::List.drop 6 iF::aJ (List Rat))) (True/\asT Bool false=true/\True) ((List.length A₂<=1000000/\True)/\ifB (rJ A₂ != 0) ((((oO==true)=true->(oO==true)=true/\(oO==true)=true/\True)/\(oO=true->(oO==true)=true)/\True)/\True/\(bif Prod.fst (qW f p).2==rJ A₂ then Prod.fst (vI f p).2==rJ A₂ else false)=true/\True) ((mF pY f/\b9J/\True)/\((lG=true->lG=true/\lG=true/\mF pY f/\b9J/\True)/\(lG=true->lG=true/\lG=true/\aG.ok (qW f p).1=true/\s19 (aG.x (qW f p).1) (pU (mq8 f) p)/\True)/\(b9M=true->lG=true)/\((gQ==true)=true->(gQ==true)=true/\(gQ==true)=true/\True)/\(gQ=true->(gQ==true)=true)/\b9L/\b9L/\(yG=true->yG=true/\yG=true/\aG.ok (vI f p).1=true/\aG.ok b4T=true/\s19 (aG.x (vI f p).1) (aG.x b4T)/\True)/\((A₀==true)=true->(A₀==true)=true/\((Prod.fst a0K != 0)=false->yG=true)/\True)/\(A₀=true->(A₀==true)=true)/\True)/\True/\(bif bif bif Prod.fst (qW f p).2==0 then decide b4S else false then Prod.fst (vI f p).2==Prod.fst a0K else false then bif Prod.fst a0K != 0 then true else decide (aG.x (vI f p).1=aG.x b4T) else false)=true/\True))))) (by kernel_rfl) ?_
 have hZ:(⟨false,0,[],[]⟩:aG)=bM:=rfl
 try simp only[aO,ay,ak]
 try dsimp only[aB,asT,aA,aJ,Ty.den,Lf.den] at *
 try simp only[hZ,Int.toNat_natCast,aO,ay,ak,ni,lg,jc,iq]
 try simp only[fU,fQ,List.all_cons,List.all_nil,oq,iw,jo,jh,ql,ne_eq,aj,je,jf,jl,mg,vw,qg,wu,ni,lg,jw,iy,List.length_cons,List.length_nil]
 have hp:b5i f:=hp
 intro hb
 have hs:=b1f hb hp
 refine⟨hs,hs,hs,hs,fun h=>?_,fun h=>?_⟩
 ·have e:¬ vM f=true:=by rw[h];decide
  rw[show sJ f=([],1,()) from jq e,show qW f p=(bM,1,()) from jq e,show vI f p=(bM,1,()) from jq e]
  exact⟨⟨⟨rfl,rfl⟩,rfl⟩,rfl⟩
 ·obtain⟨hm,ho⟩:=IY hs h
  have hpr:=b1F hs h
  have hsz:=b2d hpr hm.flat.1
  have hall:mF (fun r:LR=>dP [mF (fun q:aG=>dP [q.ok=true]) r]) f:=jX.mpr fun r hr=>⟨jX.mpr fun q hq=>⟨ho r hr q hq,trivial⟩,trivial⟩
  rw[show sJ f=(TM (mq8 f).flatten,0,()) from jv h,show [List.take 3 (List.map (fun n=>dR n) (qI (List.flatten (mq8 f)))),List.drop 3 (List.take 6 (List.map (fun n=>dR n) (qI (List.flatten (mq8 f))))),List.drop 6 (List.map (fun n=>dR n) (qI (List.flatten (mq8 f))))]=TM (mq8 f).flatten from rfl]
  refine⟨⟨fun _=>⟨rfl,hall,hm.mono (by omega),hpr.2.2⟩,fun _=>⟨rfl,rfl,hsz,hsz⟩⟩,fun h2=>absurd h2 (by rw[wz rfl];simp),fun _=>⟨by omega,fun h1=>?_,fun h1=>?_⟩⟩
  ·obtain⟨h2,h3⟩:=b6j h1
   rw[show qW f p=(bM,2,()) from(jv h).trans (jv h2),show vI f p=(bM,2,()) from(jv h).trans (jv h2),h3]
   exact⟨rfl,rfl⟩
  ·have hc:=a3F h1 p (by simp)
   have hz:=b9m hm hc.1 hc.2
   have hr:rsz (pU (mq8 f) p)<=190000000:=dh (EW (A:=2) (B:=1000) fun j hj=>⟨aV (BX hc.2) (by rw[lW];exact hj),aV (zG hm hc.1) (by rw[pV hm];exact hj)⟩) (by omega)
   rw[show qW f p=(kC (pU (mq8 f) p),0,()) from(jv h).trans (jq (b3y h1)),show vI f p=yJ (mq8 f) p from(jv h).trans (jq (b3y h1))]
   exact⟨⟨hall,hm,hc.1,hc.2⟩,⟨fun _=>⟨rfl,rfl,hall,hm,hc.1,hc.2⟩,fun _=>⟨rfl,rfl,rfl,hr,hr⟩,fun h5=>⟨h5,h5,hz.2 h5.2,hz.2 h5.2,by omega,by omega⟩,fun h5=>⟨h5,fun h6=>⟨h5,h6⟩⟩⟩,⟨⟨rfl,wz rfl⟩,rfl⟩,Or.inr (wz rfl)⟩
theorem vmatrices28_holds:Rows.EpipolarMatricesSaid:=wS (YR b2m) (fun _ _ a _=>fun r hr q hq=>(a.2 r hr).2 q hq)
end Go.Proofs.YtbkocjmmbkifjaaGreat
