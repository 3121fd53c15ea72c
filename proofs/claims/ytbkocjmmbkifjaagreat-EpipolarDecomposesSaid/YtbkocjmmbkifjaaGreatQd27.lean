/-
  Lemmas for the theorem vdecomposes28_holds, part 27 of 34.
-/
import Derived.Carry
import Derived.Test.YtbkocjmmbkifjaaGreatQd25
import Derived.Test.YtbkocjmmbkifjaaGreatQd26
namespace Go.Proofs.YtbkocjmmbkifjaaGreat
open Go Go.RowKit
section
open Go Go.ChangeShapes Go.WideShapes Go.ChangeAt Go.RowKit Go.Joins
set_option linter.unusedVariables false
set_option linter.unusedSimpArgs false
set_option maxRecDepth 100000
theorem laidOut:laidOutB Tryz.prog=true:=by kernel_rfl
theorem a8w:Tryz.prog.cellsOf 47=4:=by kernel_rfl
theorem a8v:Tryz.prog.cellsOf 45=2:=by kernel_rfl
theorem a6F:Tryz.prog.cellsOf 43=1:=by kernel_rfl
theorem a6E:Tryz.prog.cellsOf 4=1:=by kernel_rfl
theorem a8x:Tryz.prog.cellsOf 148=1:=by kernel_rfl
def a5e (q:aG):Prop:=∀ K,1<=K->q.n<=K->q.m<=K->rsz q.x<=K
def c1M {α:Type} (p:α->Prop) (xs:List α):Prop:=∀ x ∈ xs,p x
def good:(t:Ty)->t.den->Prop
 | .bool,_=>True
 | .int k,n=>(Lit.int k n).wf=true
 | .lf .gQ,q=>a5e q
 | .lf _,_=>True
 | .list t,xs=>List.length (α:=t.den) xs<=9223372036854775807/\c1M (good t) xs
 | .arr n t,xs=>List.length (α:=t.den) xs=n/\c1M (good t) xs
 | .pair a b,x=>good a x.1/\good b x.2
 | .unit,_=>True
 | .ref _,_=>True
 | .clo _ _,_=>True
 | .nls _,_=>True
noncomputable def eX:Ty->Option TypeId->List Field->Nat->Bool
 | .pair a b,none,f::fs,o=>f.offset==o&&Tryz.prog.cellsOf f.type==a.n&&eX a (some f.type) [] 0&&eX b none fs (o+a.n)
 | .unit,none,[],_=>true
 | .bool,some T,_,_=>match Tryz.prog.underlying T with
  | some .bool=>true
  | _=>false
 | .int k,some T,_,_=>match Tryz.prog.underlying T with
  | some (.int k')=>k==k'
  | _=>false
 | .lf .gQ,some T,_,_=>T==47
 | .list t,some T,_,_=>match Tryz.prog.underlying T with
  | some (.slice e)=>Tryz.prog.cellsOf e==t.n&&decide (0<t.n)&&eX t (some e) [] 0
  | _=>false
 | .arr n t,some T,_,_=>match Tryz.prog.underlying T with
  | some (.array m e)=>m==n&&Tryz.prog.cellsOf e==t.n&&Tryz.prog.cellsOf T==n*t.n&&eX t (some e) [] 0
  | _=>false
 | .pair a b,some T,_,_=>match Tryz.prog.underlying T with
  | some (.struct fs)=>Tryz.prog.cellsOf T==a.n+b.n&&(match fs.toList with
   | f::fs'=>f.offset==0&&Tryz.prog.cellsOf f.type==a.n&&eX a (some f.type) [] 0&&eX b none fs' a.n
   | []=>false)
  | _=>false
 | _,_,_,_=>false
section
variable {H:Type} {enc:TypeId × Value->H} {W:World}
theorem a8j {a:Addr} {v:Value} (h:W.cell? a=some v):a=⟨a.block,a.off,none⟩/\a.block<W.heap.size:=by
 have h1:=World.cell?_spot h
 refine⟨by obtain⟨b,o,s⟩:=a;cases h1;rfl,?_⟩
 exact World.block_lt_of_cell? W a h
theorem b6v {n:Nat} {cs:List Value} {y:DataW H × List MemPlace} (h:DataW.trod enc Tryz.prog W 0 (fun _=>true) true n 43 cs=some y):∃ p l c,cs=[.slice p l.length c]/\Rd W (.slice p l.length c) l/\∀ g ∈ l,g<4294967296:=by
 rcases open_ints (k:=.u32) jg Tryz.underlying148 a8x h with⟨rfl,_⟩|⟨a,len,cap,zs,rfl,_,h1,h2,h3,_,h4,h5⟩
 ·exact⟨none,[],0,rfl,.inl ⟨none,rfl,rfl⟩,by simp⟩
 ·simp at h3
  by_cases hc:cap=0
  ·have hl:len=0:=by omega
   subst hc hl
   exact⟨some a,[],0,rfl,.inl ⟨_,rfl,rfl⟩,by simp⟩
  ·obtain⟨ha,hb⟩:=a8j (h4 0 (by omega))
   have ha:a=⟨a.block,a.off,none⟩:=by simpa [Addr.add] using ha
   have hb:a.block<W.heap.size:=by simpa [Addr.add] using hb
   have hz:∀ n ∈ zs,0<=n/\n<4294967296:=fun n hn=>by
    have:=h5 n hn
    simp[Lit.wf,IntKind.min,IntKind.max,IntKind.signed,IntKind.bits] at this
    omega
   have hL:((zs.take len).map Int.toNat).length=len:=by simp;omega
   refine⟨some a,(zs.take len).map Int.toNat,cap,by rw[hL],.inr ⟨a.block,a.off,cap,by rw[<-ha],by rw[hL];exact h1,by unfold maxLen at h2;omega,hb,fun i hi=>?_⟩,fun g hg=>?_⟩
   ·rw[hL] at hi
    have hi':i<zs.length:=by omega
    have hc:=h4 i hi'
    have hm:zs[i] ∈ zs:=Am hi'
    have:=hz _ hm
    have hg:((gr ((zs.take len).map Int.toNat) i:Nat):Int)=zs.getD i 0:=by
     have e1:gr ((zs.take len).map Int.toNat) i=(zs[i]).toNat:=by simp[gr,List.getD,hi,hi']
     have e2:zs.getD i 0=zs[i]:=by simp[List.getD,hi']
     rw[e1,e2];omega
    rw[hg,<-hc,ha]
    rw[add_plain]
   ·obtain⟨x,hx,rfl⟩:=ni.1 hg
    have:=hz x (Bv hx)
    omega
theorem c6L {α:Type} {l:List α} (h:l.length=4):∃ a b c d,l=[a,b,c,d]:=by
 match l,h with
 | [a,b,c,d],_=>exact⟨a,b,c,d,rfl⟩
theorem b8d {n:Nat} {cs:List Value} {y:DataW H × List MemPlace} (h:DataW.trod enc Tryz.prog W 0 (fun _=>true) true n 47 cs=some y):∃ x:aG,Lf.rep W cs .gQ x/\a5e x:=by
 obtain⟨xs,m,_,_,hl,hlen,hf⟩:=DataW.trod_struct Tryz.underlying47 h
 rw[a8w] at hl
 obtain⟨c0,c1,c2,c3,rfl⟩:=c6L hl
 match xs,hlen with
 | [y0,y1],_ =>
 have k0:=hf 0 _ rfl
 have k1:=hf 1 _ rfl
 obtain⟨xs0,m0,_,_,_,hlen0,hf0⟩:=DataW.trod_struct Tryz.underlying45 k0
 obtain⟨xs1,m1,_,_,_,hlen1,hf1⟩:=DataW.trod_struct Tryz.underlying45 k1
 match xs0,hlen0,xs1,hlen1 with
 | [z0,z1],_,[z2,z3],_ =>
 have a0:=hf0 0 _ rfl
 have a1:=hf0 1 _ rfl
 have a2:=hf1 0 _ rfl
 have a3:=hf1 1 _ rfl
 simp[a8v,a6E,a6F] at a0 a1 a2 a3
 obtain⟨b,e0,_⟩:=DataW.trod_bool Tryz.underlying4 a0
 obtain⟨d,e2,_⟩:=DataW.trod_bool Tryz.underlying4 a2
 simp at e0 e2
 subst e0 e2
 obtain⟨p,l,c,e1,r1,l1⟩:=b6v a1
 obtain⟨q,k,e,e3,r3,l3⟩:=b6v a3
 simp at e1 e3
 subst e1 e3
 have hq:OD W (.agg #[.bool b,.slice p l.length c,.bool d,.slice q k.length e]) _ _:=⟨_,_,_,_,_,_,_,_,rfl,⟨b,_,l,rfl,r1,l1,rfl,rfl⟩,⟨d,_,k,rfl,r3,l3,rfl,rfl⟩,rfl,rfl⟩
 exact⟨⟨_,_,l,k⟩,⟨b,p,c,d,q,e,rfl,hq,r1,r3⟩,fun K h1 h2 h3=>hq.a3S ⟨b,p,_,c,d,q,_,e,rfl,h2,h3⟩ h1⟩
theorem a0k {α:Type} {Q:Nat->α->Prop}:∀ n,(∀ i,i<n->∃ x,Q i x)->∃ xs:List α,xs.length=n/\∀ i (h:i<xs.length),Q i xs[i]
 | 0,_=>⟨[],rfl,fun i h=>by simp at h⟩
 | n+1,h=>by
  obtain⟨xs,h1,h2⟩:=a0k n (fun i hi=>h i (by omega))
  obtain⟨x,hx⟩:=h n (by omega)
  refine⟨xs++[x],by simp[h1],fun i hi=>?_⟩
  by_cases e:i<xs.length
  ·rw[List.getElem_append_left e];exact h2 i e
  ·have:i=n:=by simp at hi;omega
   subst this
   rw[List.getElem_append_right (by omega)]
   simpa using hx
theorem yV {α:Type} {R:List Value->α->Prop} {b o ce:Nat}:∀ (xs:List α) (k:Nat),(∀ i (h:i<xs.length),∃ c,c.length=ce/\(∀ j v,c[j]?=some v->W.cell? ⟨b,o+((k+i)*ce+j),none⟩=some v)/\R c xs[i])->∃ ds,(∀ j v,ds[j]?=some v->W.cell? ⟨b,o+(k*ce+j),none⟩=some v)/\chunks R ds xs
 | [],k,_=>⟨[],fun j v h=>by simp at h,rfl⟩
 | x::xs,k,h=>by
  obtain⟨c,h1,h2,h3⟩:=h 0 (by simp)
  obtain⟨ds,h4,h5⟩:=yV xs (k+1) (fun i hi=>by
   obtain⟨c,h1,h2,h3⟩:=h (i+1) (by simpa using hi)
   exact⟨c,h1,fun j v hj=>by rw[show k+1+i=k+(i+1) by omega];exact h2 j v hj,h3⟩)
  refine⟨c++ds,fun j v hj=>?_,c,ds,rfl,h3,h5⟩
  by_cases e:j<c.length
  ·rw[zq e] at hj
   exact h2 j v hj
  ·rw[List.getElem?_append_right (by omega)] at hj
   have:=h4 _ _ hj
   rw[Ad,Nat.one_mul] at this
   rwa [show k*ce+ce+(j-c.length)=k*ce+j by omega] at this
theorem zK {α:Type} {R:List Value->α->Prop} {ce:Nat}:∀ (xs:List α) (cs:List Value),cs.length=xs.length*ce->(∀ i (h:i<xs.length),R ((cs.drop (i*ce)).take ce) xs[i])->chunks R cs xs
 | [],cs,h,_=>jm (by simpa using h)
 | x::xs,cs,h,hR=>by
  rw[List.length_cons,zf] at h
  refine⟨cs.take ce,cs.drop ce,(Af ce cs).symm,?_,zK (ce:=ce) xs (cs.drop ce) (by rw[Aa];omega) (fun i hi=>?_)⟩
  ·have:=hR 0 (by simp)
   rwa [Nat.zero_mul,List.drop_zero] at this
  ·have:=hR (i+1) (by simpa using hi)
   rwa [zf,En,<-Dx] at this
theorem a8y {a:Addr} {n:Nat} {cs:List Value} (h:W.cells? 0 a n=some cs):cs.length=n/\∀ j v,cs[j]?=some v->W.cell? (a.add j)=some v:=by
 unfold World.cells? at h
 rw[iw (qm _)] at h
 refine⟨by simpa using mapM_some_length h,fun j v hj=>?_⟩
 have hl:cs.length=n:=by simpa using mapM_some_length h
 have hjn:j<n:=by rw[<-hl];exact(jq.1 hj).1
 have:=mapM_some_get h j j (by simp[hjn])
 rw[hj] at this
 exact this
abbrev a2R (W:World) (q:Nat):Prop:=q<W.heap.size
theorem lI:(t:Ty)->(T:Option TypeId)->(fs:List Field)->(o:Nat)->eX t T fs o=true->(n:Nat)->(cs:List Value) ->
  (∀ T',T=some T'->(∃ y,DataW.trod enc Tryz.prog W 0 (fun _=>true) true n T' cs=some y)->∃ x:t.den,rep (a2R W) W t cs x/\good t x) /\
  (T=none->cs.length=o+t.n->(∀ f ∈ fs,∃ y,DataW.trod enc Tryz.prog W 0 (fun _=>true) true n f.type ((cs.drop f.offset).take (Tryz.prog.cellsOf f.type))=some y)->∃ x:t.den,rep (a2R W) W t (cs.drop o) x/\good t x)
 | .bool,some T,fs,o,hm,n,cs=>by
  refine⟨fun T' e ⟨y,hy⟩=>?_,fun e=>(by cases e)⟩
  cases e
  unfold eX at hm
  split at hm<;>first|(cases hm;done)|skip
  rename_i hu
  obtain⟨b,rfl,_⟩:=DataW.trod_bool hu hy
  exact⟨b,rfl,trivial⟩
 | .int k,some T,fs,o,hm,n,cs=>by
  refine⟨fun T' e ⟨y,hy⟩=>?_,fun e=>(by cases e)⟩
  cases e
  unfold eX at hm
  split at hm<;>first|(cases hm;done)|skip
  rename_i k' hu
  have hk:k=k':=by simpa using hm
  subst hk
  obtain⟨b,rfl,_,hw⟩:=DataW.trod_int hu hy
  exact⟨b,rfl,hw⟩
 | .lf .gQ,some T,fs,o,hm,n,cs=>by
  refine⟨fun T' e ⟨y,hy⟩=>?_,fun e=>(by cases e)⟩
  cases e
  have hT:T=47:=by unfold eX at hm;simpa using hm
  subst hT
  exact b8d hy
 | .list t,some T,fs,o,hm,n,cs=>by
  refine⟨fun T' e ⟨y,hy⟩=>?_,fun e=>(by cases e)⟩
  cases e
  unfold eX at hm
  split at hm<;>first|(cases hm;done)|skip
  rename_i e hu
  simp only[ay,jl,gy] at hm
  obtain⟨⟨hc,hp⟩,hmt⟩:=hm
  rcases DataW.trod_slice hu hy with⟨rfl,_⟩|⟨a,len,cap,elems,rest,m,_,rfl,_,_,h1,h2,h3,h4,_,_⟩
  ·exact⟨([]:List t.den),⟨none,0,rfl,aj _,by omega,.inl rfl⟩,by show 0<=_;omega,fun x hx=>by cases hx⟩
  ·rw[hc] at h4
   obtain⟨xs,hxl,hxs⟩:=a0k (Q:=fun i (x:t.den)=>(∃ c,c.length=t.n/\(∀ j v,c[j]?=some v->W.cell? ((a.add (i*t.n)).add j)=some v)/\rep (a2R W) W t c x)/\good t x) len (fun i hi=>by
    have h5:=h4 i hi
    rw[bn (by omega),Option.bind_eq_some_iff] at h5
    obtain⟨c,h6,h7⟩:=h5
    obtain⟨x,h8,h9⟩:=(lI t (some e) [] 0 hmt m c).1 e rfl ⟨_,h7⟩
    obtain⟨k1,k2⟩:=a8y h6
    exact⟨x,⟨c,k1,k2,h8⟩,h9⟩)
   have hcap:cap<=9223372036854775807:=by unfold maxLen at h2;omega
   refine⟨xs,?_,⟨?_,?_⟩⟩
   ·refine⟨some a,cap,by rw[show List.length (α:=t.den) xs=len from hxl],by rw[show List.length (α:=t.den) xs=len from hxl];exact h1,hcap,?_⟩
    by_cases h0:len=0
    ·exact .inl (jm (by rw[hxl,h0]))
    ·right
     obtain⟨⟨c,k1,k2,_⟩,_⟩:=hxs 0 (by omega)
     obtain⟨v,hv⟩:∃ v,c[0]?=some v:=⟨_,bn (by omega)⟩
     have hcell:=k2 0 v hv
     rw[Nat.zero_mul,show (a.add 0).add 0=a by simp[Addr.add]] at hcell
     obtain⟨ha,hb⟩:=a8j hcell
     obtain⟨ds,d1,d2⟩:=yV (W:=W) (R:=rep (a2R W) W t) (b:=a.block) (o:=a.off) (ce:=t.n) xs 0 (fun i hi=>by
      obtain⟨⟨c,k1,k2,k3⟩,_⟩:=hxs i hi
      refine⟨c,k1,fun j v hj=>?_,k3⟩
      have:=k2 j v hj
      rw[ha,add_plain,add_plain] at this
      rw[ny,<-Nat.add_assoc];exact this)
     exact⟨a.block,a.off,ds,by rw[<-ha],hb,fun j v hj=>by have:=d1 j v hj;rwa [Nat.zero_mul,ny] at this,d2⟩
   ·show xs.length<=_;omega
   ·intro x hx
    obtain⟨i,hi,rfl⟩:=Au hx
    exact(hxs i hi).2
 | .arr k t,some T,fs,o,hm,n,cs=>by
  refine⟨fun T' e ⟨y,hy⟩=>?_,fun e=>(by cases e)⟩
  cases e
  unfold eX at hm
  split at hm<;>first|(cases hm;done)|skip
  rename_i m e hu
  simp only[ay,jl] at hm
  obtain⟨⟨⟨hk,hc⟩,hC⟩,hmt⟩:=hm
  subst hk
  obtain⟨ys,q,_,_,hl,hyl,hys⟩:=DataW.trod_array hu hy
  rw[hC] at hl
  rw[hc] at hys
  obtain⟨xs,hxl,hxs⟩:=a0k (Q:=fun i (x:t.den)=>rep (a2R W) W t ((cs.drop (i*t.n)).take t.n) x/\good t x) m (fun i hi=>by
   have h5:=hys i hi
   rw[bn (by omega)] at h5
   exact(lI t (some e) [] 0 hmt q _).1 e rfl ⟨_,h5⟩)
  refine⟨xs,⟨hxl,zK (ce:=t.n) xs cs (by rw[hl,hxl]) (fun i hi=>(hxs i hi).1)⟩,hxl,fun x hx=>?_⟩
  obtain⟨i,hi,rfl⟩:=Au hx
  exact(hxs i hi).2
 | .pair a b,some T,fs,o,hm,n,cs=>by
  refine⟨fun T' e ⟨y,hy⟩=>?_,fun e=>(by cases e)⟩
  cases e
  unfold eX at hm
  split at hm<;>first|(cases hm;done)|skip
  rename_i gs hu
  simp only[ay,jl] at hm
  obtain⟨hC,hm⟩:=hm
  split at hm<;>first|(cases hm;done)|skip
  rename_i f fs' hgs
  simp only[ay,jl] at hm
  obtain⟨⟨⟨ho,hc⟩,hma⟩,hmb⟩:=hm
  obtain⟨ys,q,_,_,hl,hyl,hys⟩:=DataW.trod_struct hu hy
  rw[hC] at hl
  have hget:∀ (i:Nat) (g:Field),gs[i]?=some g->∃ y,DataW.trod enc Tryz.prog W 0 (fun _=>true) true q g.type ((cs.drop g.offset).take (Tryz.prog.cellsOf g.type))=some y:=fun i g hg=>by
   have hi:i<gs.size:=(zn.1 hg).1
   have:=hys i g hg
   rw[bn (by omega)] at this
   exact⟨_,this⟩
  have h0:=hget 0 f (by rw[<-Array.getElem?_toList,hgs];rfl)
  rw[ho,hc,List.drop_zero] at h0
  obtain⟨x,hx,gx⟩:=(lI a (some f.type) [] 0 hma q _).1 _ rfl h0
  obtain⟨z,hz,gz⟩:=(lI b none fs' a.n hmb q cs).2 rfl hl (fun g hg=>by
   obtain⟨i,hi⟩:=List.getElem?_of_mem hg
   exact hget (i+1) g (by rw[<-Array.getElem?_toList,hgs];exact hi))
  exact⟨(x,z),⟨_,_,(Af a.n cs).symm,hx,hz⟩,gx,gz⟩
 | .pair a b,none,[],o,hm,n,cs=>by simp[eX] at hm
 | .pair a b,none,f::fs',o,hm,n,cs=>by
  refine⟨fun T' e=>(by cases e),fun _ hl hg=>?_⟩
  unfold eX at hm
  simp only[ay,jl] at hm
  obtain⟨⟨⟨ho,hc⟩,hma⟩,hmb⟩:=hm
  have h0:=hg f (jd ..)
  rw[ho,hc] at h0
  obtain⟨x,hx,gx⟩:=(lI a (some f.type) [] 0 hma n _).1 _ rfl h0
  obtain⟨z,hz,gz⟩:=(lI b none fs' (o+a.n) hmb n cs).2 rfl (by rw[hl];show o+(a.n+b.n)=_;omega) (fun g hg'=>hg g (iy _ hg'))
  refine⟨(x,z),⟨(cs.drop o).take a.n,cs.drop (o+a.n),?_,hx,hz⟩,gx,gz⟩
  rw[<-Dx,Af]
 | .unit,none,[],o,hm,n,cs=>by
  refine⟨fun T' e=>(by cases e),fun _ hl _=>⟨(),?_,trivial⟩⟩
  show cs.drop o=[]
  exact List.drop_eq_nil_of_le (by rw[hl];exact aj _)
 | .unit,none,_::_,o,hm,n,cs=>by simp[eX] at hm
 | .unit,some _,_,_,hm,_,_=>by simp[eX] at hm
 | .bool,none,_,_,hm,_,_=>by simp[eX] at hm
 | .int _,none,_,_,hm,_,_=>by simp[eX] at hm
 | .lf .gQ,none,_,_,hm,_,_=>by simp[eX] at hm
 | .lf .rat,_,_,_,hm,_,_=>by simp[eX] at hm
 | .lf .big,_,_,_,hm,_,_=>by simp[eX] at hm
 | .lf .FV,_,_,_,hm,_,_=>by simp[eX] at hm
 | .lf .str,_,_,_,hm,_,_=>by simp[eX] at hm
 | .list _,none,_,_,hm,_,_=>by simp[eX] at hm
 | .arr _ _,none,_,_,hm,_,_=>by simp[eX] at hm
 | .ref _,_,_,_,hm,_,_=>by simp[eX] at hm
 | .clo _ _,_,_,_,hm,_,_=>by simp[eX] at hm
 | .nls _,_,_,_,hm,_,_=>by simp[eX] at hm
theorem b6P {t:Ty} {T:TypeId} {v:Value} {d:DataW H} {p:List MemPlace} {b0:Nat} (hm:eX t (some T) [] 0=true) (hv:Value.okWide Tryz.prog W .any b0 T v) (h:DataW.Trod enc Tryz.prog W 0 (fun _=>true) true T v d p) :
  ∃ x:t.den,iQ (a2R W) W t v x/\good t x:=by
 obtain⟨n,hn⟩:=h
 obtain⟨x,hx,gx⟩:=(lI t (some T) [] 0 hm n v.cells.toList).1 T rfl ⟨_,hn⟩
 refine⟨x,⟨v.cells.toList,?_,hx⟩,gx⟩
 cases t with
 | bool =>
  unfold eX at hm
  split at hm<;>first|(cases hm;done)|skip
  rename_i hu
  simp only[Value.okWide,hu,Cell.okWide,Cell.ok] at hv
  split at hv<;>simp_all [Value.cells,Ty.toV,Ty.agg]
 | int k =>
  unfold eX at hm
  split at hm<;>first|(cases hm;done)|skip
  rename_i k' hu
  simp only[Value.okWide,hu,Cell.okWide,Cell.ok] at hv
  split at hv<;>simp_all [Value.cells,Ty.toV,Ty.agg]
 | lf l =>
  cases l<;>try (simp[eX] at hm;done)
  have hT:T=47:=by unfold eX at hm;simpa using hm
  subst hT
  simp only[Value.okWide,Tryz.underlying47] at hv
  obtain⟨cs,rfl,_⟩:=hv
  simp[Ty.toV,Ty.agg,Lf.agg,Value.cells]
 | list t =>
  unfold eX at hm
  split at hm<;>first|(cases hm;done)|skip
  rename_i e hu
  simp only[Value.okWide,hu,Cell.okWide,Cell.ok] at hv
  split at hv<;>simp_all [Value.cells,Ty.toV,Ty.agg]
 | arr k t =>
  unfold eX at hm
  split at hm<;>first|(cases hm;done)|skip
  rename_i m e hu
  simp only[Value.okWide,hu] at hv
  obtain⟨cs,rfl,_⟩:=hv
  simp[Ty.toV,Ty.agg,Value.cells]
 | pair a b =>
  unfold eX at hm
  split at hm<;>first|(cases hm;done)|skip
  rename_i gs hu
  simp only[Value.okWide,hu] at hv
  obtain⟨cs,rfl,_⟩:=hv
  simp[Ty.toV,Ty.agg,Value.cells]
 | _=>simp[eX] at hm
end
end
set_option maxRecDepth 100000
set_option maxHeartbeats 4000000
set_option linter.unusedVariables false
set_option linter.unusedSimpArgs false
theorem gG {P:Program} {f:FuncId} {args res:List Ty} {pre:(nest args).den->Prop} {fn fn':(nest args).den->(nest res).den} {d d':∀ x,Dc (pre x)} (h:aH P f (@Ctr.mk args res pre fn d)) (e:∀ x,pre x->fn x=fn' x):aH P f (@Ctr.mk args res pre fn' d'):=fun F w vs x a b hp=>by
 have h2:=h F w vs x a b hp
 rw[show (@Ctr.mk args res pre fn d).fn x=fn' x from e x hp] at h2
 exact h2
def b7j (a:MR):Prop:=∀ r ∈ a,∀ q ∈ r,a5e q
theorem a8m {q:aG} (h:iE q=true) (g:a5e q):smQ q:=by
 unfold iE at h
 rw[ay,ay] at h
 have h1:=og h.1.1
 have h2:=og h.1.2
 exact⟨h1,h2,fun _=>g 1 (aj 1) h1 h2⟩
theorem UM {f:MR} (h:UL f=true) (g:b7j f):rV f:=by
 unfold UL at h
 rw[ay,gy,yc] at h
 refine⟨h.1,fun r hr=>?_⟩
 have h2:=Dn.mp h.2 r hr
 have h3:rY r=false:=by simpa using h2
 unfold rY at h3
 rw[Bool.or_eq_false_iff,oz,Bool.not_eq_false'] at h3
 exact⟨by omega,fun q hq=>a8m (qg.mp h3.2 q hq) (g r hr q hq)⟩
theorem c2Y (f:MR):List.map (fun x:aG=>x.x) f.flatten=(mq8 f).flatten:=by
 unfold mq8 lq8
 rw[List.map_flatten]
theorem c1x {f:MR} (hs:rV f) (h:rW f=true):TW (mq8 f).flatten:=by
 have hm:=a6r hs h
 refine⟨by rw[hm.1.flat.1];omega,fun q hq=>ak (hm.1.flat.2 q hq) (by omega),?_⟩
 rw[DY,ay,<-a2S] at h
 obtain⟨q,hq,hz⟩:=Bl.mp h.2
 exact⟨q.x,by rw[<-c2Y];exact ni.2 ⟨q,hq,rfl⟩,by unfold nzQ at hz;exact og hz⟩
set_option maxHeartbeats 1000000
def c2W (x:MR):Mt:=fun i j=>((x.getD i []).getD j bF).x
abbrev rdm (x:MR) (j:Nat):Mt:=(red x.length (c2W x) j).1
abbrev rdp (x:MR) (j:Nat):List Nat:=(red x.length (c2W x) j).2
def kk (x:MR) (j:Nat):Nat:=fk (rdm x j) j (rdp x j).length (x.length-(rdp x j).length)
theorem b5s {R C r k:Nat} {m:Mt} (hr:r<R) (hk:k<R):List.map (fun t=>(dI R C m).getD t []) (((List.range R).set r k).set k r)=dI R C (oD m r k):=by
 rw[a6f,List.map_map]
 unfold dI
 refine ku fun i hi=>?_
 have hi:=oq.mp hi
 show (dI R C m).getD (if i=k then r else if i=r then k else i) []=_
 have hb:(if i=k then r else if i=r then k else i)<R:=by
  split
  ·exact hr
  ·split
   ·exact hk
   ·exact hi
 rw[a2y hb]
 refine ku fun c _=>?_
 unfold oD
 by_cases e1:i=k
 ·by_cases e2:i=r
  ·rw[iw e1,iw e2];have:r=k:=by omega
   rw[this]
  ·rw[iw e1,eu e2,iw e1]
 ·by_cases e2:i=r
  ·rw[eu e1,iw e2,iw e2]
  ·rw[eu e1,eu e2,eu e2,eu e1]
theorem b0z (C:Nat) (f:Nat->Rat):List.map (fun x=>aG.x x) ((List.range C).map fun c=>dM (f c))=(List.range C).map f:=by simp[dM]
theorem b1R {C:Nat} {f g:Nat->Rat} {k:Rat} {s:Nat}:qC ((List.range C).map fun c=>dM (f c)) ((List.range C).map g) k s C=(List.range C).map fun c=>dM (if s<=c then f c-k*g c else f c):=by
 unfold qC
 rw[show ((List.range C).map fun c=>dM (f c)).length=C by simp]
 refine ku fun c hc=>?_
 have hc:=oq.mp hc
 rw[wZ hc,show lv ((List.range C).map g) c=g c from wZ hc]
 by_cases h:s<=c
 ·rw[iw ⟨h,hc⟩,iw h];rfl
 ·rw[eu (by omega),eu h]
abbrev TAd:List Ty:=[.ref tM,.ref tM]
def b4n (c:(nest TAd).den) (i j:Int):Prop:=(0<=i/\i.toNat<(show MQ from c.1).length/\i.toNat<(show MQ from c.2.1).length/\0<=j/\j.toNat<((show MQ from c.1).getD i.toNat []).length/\j.toNat<((show MQ from c.2.1).getD i.toNat []).length)/\s44 (ent c.1 i.toNat j.toNat) (ent c.2.1 i.toNat j.toNat)
def gAd (c:(nest TAd).den) (i j:Nat):Rat:=ent c.1 i j+ent c.2.1 i j
theorem WJ:aH Tryz.prog 189 (a6B TAd b4n gAd):=by
 refine mG (nil0.ad vN) [6] Tryz.func189 rfl (by decide) (fun x=>[]) (fun x hp=>?_)
 obtain⟨i,j,c⟩:=x
 change Int at i
 change Int at j
 obtain⟨a,b,u⟩:=c
 change List (List Rat) at a
 change List (List Rat) at b
 refine aO ((0<=i/\i<aB a.length/\0<=j/\j<aB (List.getD a i.toNat (aC Rat)).length/\0<=i/\i<aB b.length/\0<=j/\j<aB (List.getD b i.toNat (aC Rat)).length/\s44 (List.getD (List.getD a i.toNat (aC Rat)) j.toNat 0) (List.getD (List.getD b i.toNat (aC Rat)) j.toNat 0)/\True)/\True/\List.getD (List.getD a i.toNat (aC Rat)) j.toNat 0+List.getD (List.getD b i.toNat (aC Rat)) j.toNat 0=gAd (a,b,u) i.toNat j.toNat/\True) (by kernel_rfl) ?_
 try dsimp only[aB,asT,aA,aC] at *
 have h1:(0<=i/\i.toNat<a.length/\i.toNat<b.length/\0<=j/\j.toNat<(a.getD i.toNat []).length/\j.toNat<(b.getD i.toNat []).length)/\s44 (ent a i.toNat j.toNat) (ent b i.toNat j.toNat):=hp
 obtain⟨⟨k1,k2,k3,k4,k5,k6⟩,k7⟩:=h1
 exact⟨⟨k1,by omega,k4,by omega,k1,by omega,k4,by omega,k7,trivial⟩,trivial,rfl,trivial⟩
abbrev TSb:List Ty:=[.ref tM,.ref tM]
def b4q (c:(nest TSb).den) (i j:Int):Prop:=(0<=i/\i.toNat<(show MQ from c.1).length/\i.toNat<(show MQ from c.2.1).length/\0<=j/\j.toNat<((show MQ from c.1).getD i.toNat []).length/\j.toNat<((show MQ from c.2.1).getD i.toNat []).length)/\s44 (ent c.1 i.toNat j.toNat) (ent c.2.1 i.toNat j.toNat)
def gSb (c:(nest TSb).den) (i j:Nat):Rat:=ent c.1 i j-ent c.2.1 i j
theorem WO:aH Tryz.prog 188 (a6B TSb b4q gSb):=by
 refine mG (nil0.ad IU) [6] Tryz.func188 rfl (by decide) (fun x=>[]) (fun x hp=>?_)
 obtain⟨i,j,c⟩:=x
 change Int at i
 change Int at j
 obtain⟨a,b,u⟩:=c
 change List (List Rat) at a
 change List (List Rat) at b
 refine aO ((0<=i/\i<aB a.length/\0<=j/\j<aB (List.getD a i.toNat (aC Rat)).length/\0<=i/\i<aB b.length/\0<=j/\j<aB (List.getD b i.toNat (aC Rat)).length/\s44 (List.getD (List.getD a i.toNat (aC Rat)) j.toNat 0) (List.getD (List.getD b i.toNat (aC Rat)) j.toNat 0)/\True)/\True/\List.getD (List.getD a i.toNat (aC Rat)) j.toNat 0-List.getD (List.getD b i.toNat (aC Rat)) j.toNat 0=gSb (a,b,u) i.toNat j.toNat/\True) (by kernel_rfl) ?_
 try dsimp only[aB,asT,aA,aC] at *
 have h1:(0<=i/\i.toNat<a.length/\i.toNat<b.length/\0<=j/\j.toNat<(a.getD i.toNat []).length/\j.toNat<(b.getD i.toNat []).length)/\s44 (ent a i.toNat j.toNat) (ent b i.toNat j.toNat):=hp
 obtain⟨⟨k1,k2,k3,k4,k5,k6⟩,k7⟩:=h1
 exact⟨⟨k1,by omega,k4,by omega,k1,by omega,k4,by omega,k7,trivial⟩,trivial,rfl,trivial⟩
theorem b5A {a b:MQ} (ha:okM a) (hb:okM b):KX [liftM a,liftM b]=0:=a4E fun m hm=>by
 rcases jw.mp hm with rfl|hm
 ·exact ha.chk
 ·rw[ng.mp hm];exact hb.chk
theorem a7R {a b:MQ} (ha:okM a) (hb:okM b):∀ m ∈ [liftM a,liftM b],pV m:=fun m hm=>by
 rcases jw.mp hm with rfl|hm
 ·exact ha.short
 ·rw[ng.mp hm];exact hb.short
set_option maxHeartbeats 4000000
abbrev c1H:Type:=Int × Int × Int × Unit
abbrev a8c:Type:=Int × Int × Int × Int × Unit
abbrev c1I:Type:=c1H × a8c × Int × c4y × Unit
def zN (v:LQ'):MQ:=[[aV 0,-lv v 2,lv v 1],[lv v 2,aV 0,-lv v 0],[-lv v 1,lv v 0,aV 0]]
set_option maxHeartbeats 1000000
abbrev TSc:List Ty:=[.ref tQ,.ref tM]
def b4r (c:(nest TSc).den) (i j:Int):Prop:=(0<=i/\i.toNat<(show MQ from c.2.1).length/\0<=j/\j.toNat<((show MQ from c.2.1).getD i.toNat []).length)/\s44 c.1 (ent c.2.1 i.toNat j.toNat)
def gSc (c:(nest TSc).den) (i j:Nat):Rat:=(show Rat from c.1)*ent c.2.1 i j
theorem WQ:aH Tryz.prog 185 (a6B TSc b4r gSc):=by
 refine mG (nil0.ad sF) [6] Tryz.func185 rfl (by decide) (fun x=>[]) (fun x hp=>?_)
 obtain⟨i,j,c⟩:=x
 change Int at i
 change Int at j
 obtain⟨q,a,u⟩:=c
 change Rat at q
 change List (List Rat) at a
 refine aO ((0<=i/\i<aB a.length/\0<=j/\j<aB (List.getD a i.toNat (aC Rat)).length/\s44 q (List.getD (List.getD a i.toNat (aC Rat)) j.toNat 0)/\True)/\True/\q*List.getD (List.getD a i.toNat (aC Rat)) j.toNat 0=gSc (q,a,u) i.toNat j.toNat/\True) (by kernel_rfl) ?_
 try dsimp only[aB,asT,aA,aC] at *
 have h1:(0<=i/\i.toNat<a.length/\0<=j/\j.toNat<(a.getD i.toNat []).length)/\s44 q (ent a i.toNat j.toNat):=hp
 obtain⟨⟨k1,k2,k3,k4⟩,k5⟩:=h1
 exact⟨⟨k1,by omega,k3,by omega,k5,trivial⟩,trivial,rfl,trivial⟩
theorem LY:NOk Tryz.prog 184 (XP 189 TAd b4n gAd):=by
 refine AZ ((((nil0.an oW).an pF).an oZ).ad WJ) ⟨[],[],[(11,tR)]⟩ Tryz.func184 rfl (by decide) (fun x=>DF x.1 x.2.1 (gAd x.2.2.1)) (fun x hp=>?_)
 obtain⟨m,n,c,u⟩:=x
 obtain⟨R,C,hR,hC,r2,c2,hP⟩:=hp
 change m=(R:Int) at hR
 change n=(C:Int) at hC
 subst hR hC
 refine aO (AV R C (gAd c) (b4n c) (fun y=>dI R C (gAd c)=y)) (by kernel_rfl) ?_
 exact sV r2 c2 hP rfl
theorem MB:NOk Tryz.prog 184 (XP 188 TSb b4q gSb):=by
 refine AZ ((((nil0.an oW).an pF).an oZ).ad WO) ⟨[],[],[(11,tR)]⟩ Tryz.func184 rfl (by decide) (fun x=>DF x.1 x.2.1 (gSb x.2.2.1)) (fun x hp=>?_)
 obtain⟨m,n,c,u⟩:=x
 obtain⟨R,C,hR,hC,r2,c2,hP⟩:=hp
 change m=(R:Int) at hR
 change n=(C:Int) at hC
 subst hR hC
 refine aO (AV R C (gSb c) (b4q c) (fun y=>dI R C (gSb c)=y)) (by kernel_rfl) ?_
 exact sV r2 c2 hP rfl
theorem TJ:NOk Tryz.prog 184 (XP 185 TSc b4r gSc):=by
 refine AZ ((((nil0.an oW).an pF).an oZ).ad WQ) ⟨[],[],[(11,tR)]⟩ Tryz.func184 rfl (by decide) (fun x=>DF x.1 x.2.1 (gSc x.2.2.1)) (fun x hp=>?_)
 obtain⟨m,n,c,u⟩:=x
 obtain⟨R,C,hR,hC,r2,c2,hP⟩:=hp
 change m=(R:Int) at hR
 change n=(C:Int) at hC
 subst hR hC
 refine aO (AV R C (gSc c) (b4r c) (fun y=>dI R C (gSc c)=y)) (by kernel_rfl) ?_
 exact sV r2 c2 hP rfl
noncomputable def c1V:Ctr:=⟨[tM,tM],[tI],fun x=>okM x.1/\okM x.2.1/\(show MQ from x.1).length=(show MQ from x.2.1).length/\wdM (show MQ from x.1)=wdM (show MQ from x.2.1),fun x=>((0:Int),())⟩
theorem a0W:aH Tryz.prog 187 c1V:=by
 refine aI (nil0.ad NQ) ⟨[],[],[]⟩ Tryz.func187 rfl (by decide) (fun x=>[]) (fun x hp=>?_)
 obtain⟨a,b,u⟩:=x
 change List (List Rat) at a
 change List (List Rat) at b
 refine aO (let aN:=(a::b::aC (List (List Rat)));let aX:=(aB a.length != aB b.length);let A₀:=(aX==false);let aU:=(A₀=true->A₀=true/\True);let bJ:=(Ty.list (Ty.lf Lf.rat));let A₁:=(fun(xs:Ty.den (Ty.list bJ))=>List.map (fun(xs:Ty.den bJ)=>List.map (fun(x:Ty.den (Ty.lf Lf.rat))=>dM x) xs) xs);let A₂:=(fun(x:Ty.den bJ)=>dH (iR (fun(x:Ty.den (Ty.lf Lf.rat))=>dH (aC Cd)) x::aC Cd));(((iR A₂ a/\True)/\(iR A₂ b/\True)/\True)/\(List.length (List.map A₁ aN)<=1000000/\∀ (a_1:List (List aG)),a_1 ∈ List.map A₁ aN->pV a_1)/\True)/\ifB (KX (List.map A₁ aN) != 0) (True/\KX (List.map A₁ aN)=0/\True) (((A₀=true->A₀=true/\asT Int 0<=0/\0<aB a.length/\True)/\aU/\aU/\(A₀=true->A₀=true/\asT Int 0<=0/\0<aB b.length/\True)/\aU/\aU/\(A₀=true->A₀=true/\A₀=true/\True)/\(aX=false->A₀=true)/\True)/\ifB (bif aB a.length != aB b.length then true else aB (List.getD a 0 (aC Rat)).length != aB (List.getD b 0 (aC Rat)).length) (True/\asT Int 4=0/\True) (True/\asT Int 0=0/\True))) (by kernel_rfl) ?_
 have hp:okM a/\okM b/\a.length=b.length/\wdM a=wdM b:=hp
 obtain⟨ha,hb,hl,hw⟩:=hp
 have e:((a.length:Int) != (b.length:Int))=false:=by rw[hl];simp
 refine⟨⟨⟨⟨vJ a,trivial⟩,⟨vJ b,trivial⟩,trivial⟩,⟨by show 2<=1000000;omega,a7R ha hb⟩,trivial⟩,ifF (a0m (b5A ha hb)) ⟨?_,ifF ?_ ⟨trivial,rfl,trivial⟩⟩⟩
 ·dsimp only[aB,asT]
  rw[e]
  exact⟨fun _=>⟨rfl,Dh 0,ha.poz,trivial⟩,fun h=>⟨h,trivial⟩,fun h=>⟨h,trivial⟩,fun _=>⟨rfl,Dh 0,hb.poz,trivial⟩,fun h=>⟨h,trivial⟩,fun h=>⟨h,trivial⟩,fun h=>⟨h,h,trivial⟩,fun _=>rfl,trivial⟩
 ·dsimp only[aB]
  rw[e]
  show ((wdM a:Int) != (wdM b:Int))=false
  rw[hw];simp
noncomputable def c1S:Ctr:=⟨[tM,tM],[tM,tI],fun x=>okM x.1/\okM x.2.1/\(show MQ from x.1).length=(show MQ from x.2.1).length/\wdM (show MQ from x.1)=wdM (show MQ from x.2.1),fun x=>(QG x.1 x.2.1,(0:Int),())⟩
noncomputable def c2E:Ctr:=⟨[tM,tM],[tM,tI],fun x=>okM x.1/\okM x.2.1/\(show MQ from x.1).length=(show MQ from x.2.1).length/\wdM (show MQ from x.1)=wdM (show MQ from x.2.1),fun x=>(UO x.1 x.2.1,(0:Int),())⟩
theorem a8d:aH Tryz.prog 96 c1S:=by
 refine aI ((((((((nil0.an oW).an pF).an oZ).ad WJ).ad a0W).an LY).an MB).an TJ) ⟨[],[],[]⟩ Tryz.func96 rfl (by decide) (fun x=>[]) (fun x hp=>?_)
 obtain⟨a,b,u⟩:=x
 change List (List Rat) at a
 change List (List Rat) at b
 refine aO (((okM a/\okM b/\List.length a=List.length b/\wdM a=wdM b)/\True)/\(asT Int 0<=0/\0<aB a.length/\TI TAd b4n (aB a.length,aB (List.getD a 0 (aC Rat)).length,(a,b,()),())/\True)/\(iR (fun(x:Ty.den (Ty.list (Ty.lf Lf.gQ)))=>dH (iR (fun(x:Ty.den (Ty.lf Lf.gQ))=>dH ((aG.ok x=true)::aC Cd)) x::aC Cd)) (dI (aB a.length).toNat (aB (List.getD a 0 (aC Rat)).length).toNat (gAd (a,b,())))/\True)/\List.map (fun(xs:Ty.den (Ty.list (Ty.lf Lf.gQ)))=>List.map (fun(x:Ty.den (Ty.lf Lf.gQ))=>aG.x x) xs) (dI (aB a.length).toNat (aB (List.getD a 0 (aC Rat)).length).toNat (gAd (a,b,())))=QG a b/\True/\asT Int 0=0/\True) (by kernel_rfl) ?_
 have hp':okM a/\okM b/\a.length=b.length/\wdM a=wdM b:=hp
 obtain⟨ha,hb,hl,hw⟩:=hp'
 refine⟨⟨hp,trivial⟩,⟨Dh 0,ha.poz,⟨a.length,wdM a,rfl,rfl,by have:=ha.r64;omega,by have:=ha.c64;omega,fun i j hi hj=>?_⟩,trivial⟩,⟨KH _ _ _,trivial⟩,UQ _ _ _,trivial,rfl,trivial⟩
 have hj:j<wdM a:=hj
 have hi:i<a.length:=hi
 have h1:=ha.2 i hi j hj
 have h2:=hb.2 i (by omega) j (by omega)
 exact⟨⟨xk i,hi,by show i<b.length;omega,xk j,by show j<(a.getD i []).length;rw[ha.row hi];exact hj,by show j<(b.getD i []).length;rw[hb.row (by omega)];omega⟩,by show rsz (ent a i j)<=_;omega,by show rsz (ent b i j)<=_;omega⟩
theorem b1U:aH Tryz.prog 95 c2E:=by
 refine aI ((((((((nil0.an oW).an pF).an oZ).ad WO).ad a0W).an LY).an MB).an TJ) ⟨[],[],[]⟩ Tryz.func95 rfl (by decide) (fun x=>[]) (fun x hp=>?_)
 obtain⟨a,b,u⟩:=x
 change List (List Rat) at a
 change List (List Rat) at b
 refine aO (((okM a/\okM b/\List.length a=List.length b/\wdM a=wdM b)/\True)/\(asT Int 0<=0/\0<aB a.length/\TI TSb b4q (aB a.length,aB (List.getD a 0 (aC Rat)).length,(a,b,()),())/\True)/\(iR (fun(x:Ty.den (Ty.list (Ty.lf Lf.gQ)))=>dH (iR (fun(x:Ty.den (Ty.lf Lf.gQ))=>dH ((aG.ok x=true)::aC Cd)) x::aC Cd)) (dI (aB a.length).toNat (aB (List.getD a 0 (aC Rat)).length).toNat (gSb (a,b,())))/\True)/\List.map (fun(xs:Ty.den (Ty.list (Ty.lf Lf.gQ)))=>List.map (fun(x:Ty.den (Ty.lf Lf.gQ))=>aG.x x) xs) (dI (aB a.length).toNat (aB (List.getD a 0 (aC Rat)).length).toNat (gSb (a,b,())))=UO a b/\True/\asT Int 0=0/\True) (by kernel_rfl) ?_
 have hp':okM a/\okM b/\a.length=b.length/\wdM a=wdM b:=hp
 obtain⟨ha,hb,hl,hw⟩:=hp'
 refine⟨⟨hp,trivial⟩,⟨Dh 0,ha.poz,⟨a.length,wdM a,rfl,rfl,by have:=ha.r64;omega,by have:=ha.c64;omega,fun i j hi hj=>?_⟩,trivial⟩,⟨KH _ _ _,trivial⟩,UQ _ _ _,trivial,rfl,trivial⟩
 have hj:j<wdM a:=hj
 have hi:i<a.length:=hi
 have h1:=ha.2 i hi j hj
 have h2:=hb.2 i (by omega) j (by omega)
 exact⟨⟨xk i,hi,by show i<b.length;omega,xk j,by show j<(a.getD i []).length;rw[ha.row hi];exact hj,by show j<(b.getD i []).length;rw[hb.row (by omega)];omega⟩,by show rsz (ent a i j)<=_;omega,by show rsz (ent b i j)<=_;omega⟩
def nT (a:MQ) (k:Rat):MQ:=tab a.length (wdM a) fun i j=>k*ent a i j
noncomputable def c2B:Ctr:=⟨[tM,tQ],[tM,tI],fun x=>okM x.1/\rsz x.2.1<=400000000,fun x=>(nT x.1 x.2.1,(0:Int),())⟩
theorem a2u:aH Tryz.prog 92 c2B:=by
 refine aI (((((((((nil0.ad QD).ad qL).an oW).an pF).an oZ).ad WQ).an LY).an MB).an TJ) ⟨[],[],[]⟩ Tryz.func92 rfl (by decide) (fun x=>[]) (fun x hp=>?_)
 obtain⟨a,k,u⟩:=x
 change List (List Rat) at a
 change Rat at k
 refine aO (let A₀:=(List.map (fun(xs:Ty.den (Ty.list (Ty.lf Lf.rat)))=>List.map (fun(x:Ty.den (Ty.lf Lf.rat))=>dM x) xs) a);let A₂:=(List.getD a 0 (aC Rat)).length;let A₁:=(dI (aB a.length).toNat (aB A₂).toNat (gSc (k,a,())));(iR (fun(x:Ty.den (Ty.list (Ty.lf Lf.rat)))=>dH (iR (fun(x:Ty.den (Ty.lf Lf.rat))=>dH (aC Cd)) x::aC Cd)) a/\pV A₀/\True)/\ifB (kC A₀ != 0) (True/\aC (List Rat)=nT a k/\True/\kC A₀=0/\True) (((aG.n (dM k)<=1000000000/\aG.m (dM k)<=1000000000)/\True)/\(asT Int 0<=0/\0<aB a.length/\TI TSc b4r (aB a.length,aB A₂,(k,a,()),())/\True)/\(iR (fun(x:Ty.den (Ty.list (Ty.lf Lf.gQ)))=>dH (iR (fun(x:Ty.den (Ty.lf Lf.gQ))=>dH ((aG.ok x=true)::aC Cd)) x::aC Cd)) A₁/\True)/\List.map (fun(xs:Ty.den (Ty.list (Ty.lf Lf.gQ)))=>List.map (fun(x:Ty.den (Ty.lf Lf.gQ))=>aG.x x) xs) A₁=nT a k/\True/\asT Int 0=0/\True)) (by kernel_rfl) ?_
 have hZ:(⟨false,0,[],[]⟩:aG)=bF:=rfl
 dsimp only[aB,asT,aA,aC,Ty.den,Lf.den] at *
 simp only[hZ,Int.toNat_natCast,jS,gy,oz,Ee,Dk,dB,nameAt,bZ,lK,jW,rowAt,uy,jy]
 obtain⟨ha,hk⟩:okM a/\rsz k<=400000000:=hp
 have hc:kC (List.map (fun xs=>List.map (fun x=>dM x) xs) a)=0:=ha.chk
 have n1:=gX k
 have n2:=fU k
 rw[hc]
 refine⟨⟨vJ a,ha.short⟩,(fun h=>by cases h),fun _=>⟨⟨ak (show (dM k).n<=isz k.num from aj _) (by omega),ak (show (dM k).m<=isz ((k.den:Nat):Int) from aj _) (by omega)⟩,⟨by omega,ha.poz,⟨a.length,wdM a,rfl,rfl,by have:=ha.r64;omega,by have:=ha.c64;omega,fun i j hi hj=>?_⟩⟩,KH _ _ _,UQ _ _ _⟩⟩
 have hj:j<wdM a:=hj
 have hi:i<a.length:=hi
 exact⟨⟨xk i,hi,xk j,by show j<(a.getD i []).length;rw[ha.row hi];exact hj⟩,hk,ak (ha.2 i hi j hj) (by omega)⟩
set_option maxHeartbeats 4000000
def trQ (f:MQ):Rat:=ent f 0 0+(ent f 1 1+ent f 2 2)
noncomputable def c6f:Ctr:=⟨[tM],[tQ],fun x=>m33 1000000 x.1,fun x=>(trQ x.1,())⟩
theorem UY:aH Tryz.prog 88 c6f:=by
 refine aI (nil0.ad vN) ⟨[2],[],[]⟩ Tryz.func88 rfl (by decide) (fun x=>[]) (fun x hp=>?_)
 obtain⟨f,u⟩:=x
 change MQ at f
 refine aO (let A₁:=(List.getD f 0 (aC Rat));let A₂:=(List.getD f 1 (aC Rat));let aN:=(List.getD f 2 (aC Rat));let A₀:=(List.getD A₂ 1 0+List.getD aN 2 0);(asT Int 0<=0/\0<aB f.length/\asT Int 0<=0/\0<aB A₁.length/\asT Int 0<=1/\1<aB f.length/\asT Int 0<=1/\1<aB A₂.length/\asT Int 0<=2/\2<aB f.length/\asT Int 0<=2/\2<aB aN.length/\s44 (List.getD A₂ 1 0) (List.getD aN 2 0)/\s44 (List.getD A₁ 0 0) A₀/\True)/\True/\List.getD A₁ 0 0+A₀=trQ f/\True) (by kernel_rfl) ?_
 try simp only[zP0]
 try dsimp only[aB,asT,aA,aC,Ty.den,Lf.den] at *
 try simp only[zP1]
 try simp only[zP2]
 have hf:m33 1000000 f:=hp
 obtain⟨l3,hr⟩:=hf.rows
 have b:∀ i j,i<3->j<3->rsz ((f.getD i []).getD j 0)<=1000000:=fun i j hi hj=>(hr i hi).2 j hj
 have L:∀ i,i<3->(f.getD i []).length=3:=fun i hi=>(hr i hi).1
 have b0:=b 0 0 (by omega) (by omega)
 have b1:=b 1 1 (by omega) (by omega)
 have b2:=b 2 2 (by omega) (by omega)
 have a1:=gW ((f.getD 1 []).getD 1 0) ((f.getD 2 []).getD 2 0)
 rw[l3,L 0 (by omega),L 1 (by omega),L 2 (by omega)]
 exact⟨⟨by omega,by omega,by omega,by omega,by omega,by omega,by omega,by omega,by omega,by omega,by omega,by omega,⟨by omega,by omega⟩,by omega,by omega⟩,rfl⟩
def mV (f:Mt):Mt:=fun i j=>f ((i+1)%3) ((j+1)%3)*f ((i+2)%3) ((j+2)%3)-f ((i+1)%3) ((j+2)%3)*f ((i+2)%3) ((j+1)%3)
def xO (f:MQ):MQ:=tab 3 3 (mV (ent f))
noncomputable def c4V:Ctr:=⟨[tM],[tM],fun x=>m33 1000000 x.1,fun x=>(xO x.1,())⟩
theorem a8K:aH Tryz.prog 93 c4V:=by
 refine aI ((nil0.ad sF).ad IU) ⟨[7,8,9,10],[],[]⟩ Tryz.func93 rfl (by decide) (fun x=>[.inv {k:Nat // k<=3} (fun i=>[(11,.val tI (i.1:Int)),(3,.own 74 0),(74,.any)]) (fun i=>[(74,.row 39 (.list tQ) (tab i.1 3 (mV (ent (show MQ from x.1)))) 0)]) (fun i=>3-i.1) ⟨0,by omega⟩ (fun i=>[
 .inv {k:Nat // k<=3} (fun j=>[(14,.val tI (j.1:Int)),(5,.own 69 0),(69,.any)]) (fun j=>[(74,.row 39 (.list tQ) (tab i.1 3 (mV (ent (show MQ from x.1)))) 0),(69,.row 47 tQ ((List.range j.1).map (mV (ent (show MQ from x.1)) i.1)) 0)]) (fun j=>3-j.1) ⟨0,by omega⟩ (fun _=>[])])]) (fun x hp=>?_)
 obtain⟨f,u⟩:=x
 change MQ at f
 refine aO ((asT Int 0=0/\(True/\asT (List (List Rat)) (aC (List Rat))=aC (List Rat))/\(asT (List (List Rat)) (aC (List Rat))=aC (List Rat)/\0=0/\asT Bool true=true)/\True)/\∀ (i:{ k:Nat // k<=3 }),let A₂:=(IntKind.wrap IntKind.i64 (aB (aA i)+1));let A₀:=(List.getD f (Int.tmod A₂ 3).toNat (aC Rat));let aN:=(IntKind.wrap IntKind.i64 (aB (aA i)+2));let A₁:=(List.getD f (Int.tmod aN 3).toNat (aC Rat));let aU:=(mV (ent f) (aA i));asT Bool true=true/\ifB (decide (aB (aA i)<3)) ((asT Int 0=0/\(True/\asT (List Rat) (aC Rat)=aC Rat)/\tab (aA i) 3 (mV (ent f))=tab (aA i) 3 (mV (ent f))/\(asT (List Rat) (aC Rat)=aC Rat/\0=0/\asT Bool true=true)/\True)/\∀ (i_1:{ k:Nat // k<=3 }),let aX:=(IntKind.wrap IntKind.i64 (aB (aA i_1)+1));let bJ:=(IntKind.wrap IntKind.i64 (aB (aA i_1)+2));let dF:=(Int.tmod aX 3).toNat;let dL:=(Int.tmod bJ 3).toNat;let dA:=(List.getD A₀ dF 0*List.getD A₁ dL 0-List.getD A₀ dL 0*List.getD A₁ dF 0);let dP:=(List.range (aA i_1));asT Bool true=true/\ifB (decide (aB (aA i_1)<3)) ((asT Int 3≠0/\0<=Int.tmod A₂ 3/\Int.tmod A₂ 3<aB f.length/\asT Int 3≠0/\0<=Int.tmod aX 3/\Int.tmod aX 3<aB A₀.length/\asT Int 3≠0/\0<=Int.tmod A₂ 3/\Int.tmod A₂ 3<aB f.length/\asT Int 3≠0/\0<=Int.tmod bJ 3/\Int.tmod bJ 3<aB A₀.length/\asT Int 3≠0/\0<=Int.tmod aN 3/\Int.tmod aN 3<aB f.length/\asT Int 3≠0/\0<=Int.tmod aX 3/\Int.tmod aX 3<aB A₁.length/\asT Int 3≠0/\0<=Int.tmod aN 3/\Int.tmod aN 3<aB f.length/\asT Int 3≠0/\0<=Int.tmod bJ 3/\Int.tmod bJ 3<aB A₁.length/\True)/\(s44 (List.getD A₀ dF 0) (List.getD A₁ dL 0)/\s44 (List.getD A₀ dL 0) (List.getD A₁ dF 0)/\s44 (List.getD A₀ dF 0*List.getD A₁ dL 0) (List.getD A₀ dL 0*List.getD A₁ dF 0)/\List.length (List.map aU dP)+List.length (dA::aC Rat)<=1000000000/\True)/\∃ (i':{ k:Nat // k<=3 }),3-aA i'<3-aA i_1/\IntKind.wrap IntKind.i64 (aB (aA i_1)+1)=aB (aA i')/\tab (aA i) 3 (mV (ent f))=tab (aA i) 3 (mV (ent f))/\List.map aU dP++dA::aC Rat=List.map aU (List.range (aA i'))/\True) ((List.length (tab (aA i) 3 (mV (ent f)))+List.length (List.map aU dP::aC (List Rat))<=1000000000/\True)/\∃ (i':{ k:Nat // k<=3 }),3-aA i'<3-aA i/\IntKind.wrap IntKind.i64 (aB (aA i)+1)=aB (aA i')/\tab (aA i) 3 (mV (ent f))++List.map aU dP::aC (List Rat)=tab (aA i') 3 (mV (ent f))/\True)) (True/\tab (aA i) 3 (mV (ent f))=xO f/\True)) (by kernel_rfl) ?_
 try simp only[zP0]
 try dsimp only[aB,asT,aA,aC,Ty.den,Lf.den] at *
 try simp only[zP1]
 try simp only[zP2]
 have hf:m33 1000000 f:=hp
 obtain⟨l3,hr⟩:=hf.rows
 have b:∀ i j,i<3->j<3->rsz ((f.getD i []).getD j 0)<=1000000:=fun i j hi hj=>(hr i hi).2 j hj
 have L:∀ i,i<3->(f.getD i []).length=3:=fun i hi=>(hr i hi).1
 have T1:∀ i:Nat,i<3->(IntKind.wrap .i64 ((i:Int)+1)).tmod 3=(((i+1)%3:Nat):Int):=fun i hi=>by
  rw[aJ (by omega) (by omega),wu (by omega)];omega
 have T2:∀ i:Nat,i<3->(IntKind.wrap .i64 ((i:Int)+2)).tmod 3=(((i+2)%3:Nat):Int):=fun i hi=>by
  rw[aJ (by omega) (by omega),wu (by omega)];omega
 refine fun i=>⟨fun h1 k=>⟨fun h2=>?_,fun h2=>?_⟩,fun h1=>?_⟩
 ·have hi:i.1<3:=by omega
  have hk:k.1<3:=by omega
  rw[T1 i.1 hi,T2 i.1 hi,T1 k.1 hk,T2 k.1 hk]
  simp only[Int.toNat_natCast]
  have e:mV (ent f) i.1 k.1=(f.getD ((i.1+1)%3) []).getD ((k.1+1)%3) 0*(f.getD ((i.1+2)%3) []).getD ((k.1+2)%3) 0-(f.getD ((i.1+1)%3) []).getD ((k.1+2)%3) 0*(f.getD ((i.1+2)%3) []).getD ((k.1+1)%3) 0:=rfl
  rw[<-e,l3,L _ (show (i.1+1)%3<3 by omega),L _ (show (i.1+2)%3<3 by omega)]
  have c1:=b _ _ (show (i.1+1)%3<3 by omega) (show (k.1+1)%3<3 by omega)
  have c2:=b _ _ (show (i.1+2)%3<3 by omega) (show (k.1+2)%3<3 by omega)
  have c3:=b _ _ (show (i.1+1)%3<3 by omega) (show (k.1+2)%3<3 by omega)
  have c4:=b _ _ (show (i.1+2)%3<3 by omega) (show (k.1+1)%3<3 by omega)
  generalize (f.getD ((i.1+1)%3) []).getD ((k.1+1)%3) 0=q1 at *
  generalize (f.getD ((i.1+2)%3) []).getD ((k.1+2)%3) 0=q2 at *
  generalize (f.getD ((i.1+1)%3) []).getD ((k.1+2)%3) 0=q3 at *
  generalize (f.getD ((i.1+2)%3) []).getD ((k.1+1)%3) 0=q4 at *
  have m1:=cO q1 q2
  have m2:=cO q3 q4
  refine⟨by and_intros<;>omega,⟨⟨by omega,by omega⟩,⟨by omega,by omega⟩,⟨by omega,by omega⟩,by rw[jo,jy];omega⟩,⟨k.1+1,by omega⟩,by simp only;omega,by rw[aJ (by omega) (by omega)];rfl,?_⟩
  show _=List.map _ (List.range (k.1+1))
  rw[oh,ug];rfl
 ·have hk:k.1=3:=by have:=k.2;omega
  refine⟨by rw[jW];omega,⟨i.1+1,by omega⟩,by simp only;omega,by rw[aJ (by omega) (by omega)];rfl,?_⟩
  show _=tab (i.1+1) 3 _
  unfold tab
  rw[hk,oh (n:=i.1),ug];rfl
 ·rw[show i.1=3 by have:=i.2;omega];rfl
def rtQ (x:Rat):Rat:=Rat.divInt ((isq x.num.natAbs:Nat):Int) ((isq x.den:Nat):Int)
def rtB (x:Rat):Bool:=decide (((isq x.num.natAbs:Nat):Int)*((isq x.num.natAbs:Nat):Int)=x.num)&&decide (((isq x.den:Nat):Int)*((isq x.den:Nat):Int)=((x.den:Nat):Int))
def rtT (x:Rat):aG × Bool × Unit:=if rtB x=true then (dM (rtQ x),true,()) else (bF,false,())
noncomputable def c5K:Ctr:=⟨[tQ],[tR,tB],fun x=>(0:Int)<(show Rat from x.1).num/\rsz x.1<=100000,fun x=>rtT x.1⟩
theorem b5e:aH Tryz.prog 91 c5K:=by
 refine aI (((((nil0.ad oU).ad IQ).ad JA).ad a2p).ad IQ) ⟨[2,4,6,8],[],[]⟩ Tryz.func91 rfl (by decide) (fun x=>[]) (fun x hp=>?_)
 obtain⟨q,u⟩:=x
 change Rat at q
 refine aO (let A₁:=(isq (Int.natAbs (Rat.num q)));let A₀:=(bif asT Int 0 != 0 then true else bK (aB A₁*aB A₁) (Rat.num q) != 0);let A₂:=(isq (Int.natAbs (aB (Rat.den q))));let aN:=(asT Bool true=true->asT Bool true=true/\True);let aU:=((A₀==false)=true->(A₀==false)=true/\True);((1<=Rat.num q/\isz (Rat.num q)<=400000000)/\True)/\((1<=aB (Rat.den q)/\isz (aB (Rat.den q))<=400000000)/\True)/\((asT Bool true=true->asT Bool true=true/\asT Bool true=true/\(isz (aB A₁)<=1000000000/\isz (aB A₁)<=1000000000)/\True)/\aN/\(asT Bool true=true->asT Bool true=true/\asT Bool true=true/\True/\True)/\aN/\(asT Bool (asT Int 0 != 0)=false->asT Bool true=true)/\((A₀==false)=true->(A₀==false)=true/\(A₀==false)=true/\(isz (aB A₂)<=1000000000/\isz (aB A₂)<=1000000000)/\True)/\aU/\((A₀==false)=true->(A₀==false)=true/\(A₀==false)=true/\True/\True)/\aU/\(A₀=false->(A₀==false)=true)/\True)/\ifB (bif bif asT Int 0 != 0 then true else bK (aB A₁*aB A₁) (Rat.num q) != 0 then true else bK (aB A₂*aB A₂) (aB (Rat.den q)) != 0) (True/\bF=Prod.fst (rtT q)/\True/\false=Prod.fst (rtT q).2/\True) (((isz (aB A₁)<=1000000000/\isz (aB A₂)<=1000000000)/\True)/\True/\Prod.fst (newT 14 (aB A₁) (aB A₂))=Prod.fst (rtT q)/\True/\true=Prod.fst (rtT q).2/\True)) (by kernel_rfl) ?_
 try simp only[zP0]
 try dsimp only[aB,asT,aA,aC,Ty.den,Lf.den] at *
 try simp only[zP1]
 try simp only[zP2]
 obtain⟨h0,hs⟩:(0:Int)<q.num/\rsz q<=100000:=hp
 have n1:=gX q
 have d1:=fU q
 have hd:=q.den_nz
 have iq:∀ n:Nat,isz ((isq n:Nat):Int)<=isz (n:Int):=fun n=>by
  by_cases hn:n=0
  ·rw[hn];exact aj _
  ·have h1:=(JD (show 1<=n by omega)).1
   have h2:isq n<=n:=by
    by_cases h3:isq n=0
    ·omega
    ·have:=vk (isq n) (show 1<=isq n by omega);omega
   exact rF (by simpa using h2)
 have en:(((q.den:Nat):Int)).natAbs=q.den:=rfl
 have a1:=iq q.num.natAbs
 have a2:=iq q.den
 have a3:isz ((q.num.natAbs:Nat):Int)=isz q.num:=by unfold isz;rw[Int.natAbs_natCast]
 rw[en]
 have c0:∀ x y:Int,bK x y=0↔x=y:=fun x y=>by unfold bK;split<;>(try split)<;>omega
 simp only[c0]
 refine⟨⟨by omega,by omega⟩,⟨by omega,by omega⟩,⟨fun _=>by omega,fun h=>⟨h,h,by omega⟩⟩,fun h=>?_,fun h=>⟨⟨by omega,by omega⟩,?_,?_⟩⟩
 ·have hb:rtB q=false:=by
   unfold rtB
   rcases h with(h|h)|h
   ·exact absurd trivial h
   ·rw[je h];rfl
   ·rw[je h,Bool.and_false]
  unfold rtT
  rw[hb];exact⟨rfl,rfl⟩
 ·have hb:rtB q=true:=by unfold rtB;rw[jf h.1,jf h.2];rfl
  have hz:((isq q.den:Nat):Int)≠0:=fun e=>by
   have h2:=h.2
   rw[e] at h2
   omega
  rw[show newT 14 ((isq q.num.natAbs:Nat):Int) ((isq q.den:Nat):Int)=(dM (rtQ q),0,()) from eu hz]
  unfold rtT
  rw[hb];rfl
 ·have hb:rtB q=true:=by unfold rtB;rw[jf h.1,jf h.2];rfl
  unfold rtT
  rw[hb];rfl
noncomputable def c4W:Ctr:=⟨[.list tZ],[tM],fun x=>(show List Int from x.1).length=3/\∀ n ∈ (show List Int from x.1),isz n<=1000000,fun x=>(zN ((show List Int from x.1).map fun n=>aV n),())⟩
theorem b2T:aH Tryz.prog 94 c4W:=by
 refine aI (((nil0.ad sN).ad IL).ad a2l) ⟨[3,4,5,6],[],[]⟩ Tryz.func94 rfl (by decide) (fun x=>[]) (fun x hp=>?_)
 obtain⟨l,u⟩:=x
 change List Int at l
 refine aO ((asT Int 0<=0/\0<aB l.length/\isz (List.getD l 0 0)<=390000000/\asT Int 0<=1/\1<aB l.length/\isz (List.getD l 1 0)<=390000000/\asT Int 0<=2/\2<aB l.length/\isz (List.getD l 2 0)<=390000000/\True)/\(bP 0/\True)/\(s4 (aV (List.getD l 2 0))/\s4 (aV (List.getD l 0 0))/\s4 (aV (List.getD l 1 0))/\True)/\True/\(aV 0::-aV (List.getD l 2 0)::aV (List.getD l 1 0)::aC Rat)::(aV (List.getD l 2 0)::aV 0::-aV (List.getD l 0 0)::aC Rat)::(-aV (List.getD l 1 0)::aV (List.getD l 0 0)::aV 0::aC Rat)::aC (List Rat)=zN (List.map (fun(n:Int)=>aV n) l)/\True) (by kernel_rfl) ?_
 try simp only[zP0]
 try dsimp only[aB,asT,aA,aC,Ty.den,Lf.den] at *
 try simp only[zP1]
 try simp only[zP2]
 obtain⟨h3,hs⟩:l.length=3/\∀ n ∈ l,isz n<=1000000:=hp
 have z:∀ i,i<3->isz (l.getD i 0)<=1000000:=fun i hi=>cZ hs (by omega)
 have z0:=z 0 (by omega)
 have z1:=z 1 (by omega)
 have z2:=z 2 (by omega)
 refine⟨⟨by omega,by omega,by omega,by omega,by omega,by omega,by omega,by omega,by omega⟩,⟨by omega,by omega⟩,⟨ak (JZ _) (by omega),ak (JZ _) (by omega),ak (JZ _) (by omega)⟩,?_⟩
 obtain⟨a,b,c,rfl⟩:=MN h3
 rfl
theorem three {i:Nat} (h:i<3):i=0\/i=1\/i=2:=by omega
end Go.Proofs.YtbkocjmmbkifjaaGreat
