/-
  DatumNulls: datum.Null returns the canonical basis of the null space of a symmetric matrix, or the specified error, for every matrix of at most 7 rows and columns; no conditions.
-/
import Derived.Carry
import Derived.Test.YtgplhbhfdgempaaGreatNu20
import Derived.Test.YtgplhbhfdgempaaGreatNu35
namespace Go.Proofs.YtgplhbhfdgempaaGreat
open Go Go.RowKit
section
open Go Go.ChangeShapes Go.WideShapes Go.ChangeAt Go.RowKit Go.Joins
set_option linter.unusedVariables false
set_option linter.unusedSimpArgs false
set_option maxRecDepth 100000
theorem laidOut:laidOutB Tryz.prog=true:=by kernel_rfl
theorem a7C:Tryz.prog.cellsOf 64=4:=by kernel_rfl
theorem a7B:Tryz.prog.cellsOf 62=2:=by kernel_rfl
theorem a5K:Tryz.prog.cellsOf 60=1:=by kernel_rfl
theorem a5J:Tryz.prog.cellsOf 4=1:=by kernel_rfl
theorem a7D:Tryz.prog.cellsOf 133=1:=by kernel_rfl
def a8e (q:aF):Prop:=∀ K,1<=K->q.n<=K->q.m<=K->rsz q.x<=K
def b8k {α:Type} (p:α->Prop) (xs:List α):Prop:=∀ x ∈ xs,p x
def good:(t:Ty)->t.den->Prop
 | .bool,_=>True
 | .int k,n=>(Lit.int k n).wf=true
 | .lf .dD,q=>a8e q
 | .lf _,_=>True
 | .list t,xs=>List.length (α:=t.den) xs<=9223372036854775807/\b8k (good t) xs
 | .arr n t,xs=>List.length (α:=t.den) xs=n/\b8k (good t) xs
 | .pair a b,x=>good a x.1/\good b x.2
 | .unit,_=>True
 | .ref _,_=>True
 | .clo _ _,_=>True
noncomputable def fG:Ty->Option TypeId->List Field->Nat->Bool
 | .pair a b,none,f::fs,o=>f.offset==o&&Tryz.prog.cellsOf f.type==a.n&&fG a (some f.type) [] 0&&fG b none fs (o+a.n)
 | .unit,none,[],_=>true
 | .bool,some T,_,_=>match Tryz.prog.underlying T with
  | some .bool=>true
  | _=>false
 | .int k,some T,_,_=>match Tryz.prog.underlying T with
  | some (.int k')=>k==k'
  | _=>false
 | .lf .dD,some T,_,_=>T==64
 | .list t,some T,_,_=>match Tryz.prog.underlying T with
  | some (.slice e)=>Tryz.prog.cellsOf e==t.n&&decide (0<t.n)&&fG t (some e) [] 0
  | _=>false
 | .arr n t,some T,_,_=>match Tryz.prog.underlying T with
  | some (.array m e)=>m==n&&Tryz.prog.cellsOf e==t.n&&Tryz.prog.cellsOf T==n*t.n&&fG t (some e) [] 0
  | _=>false
 | .pair a b,some T,_,_=>match Tryz.prog.underlying T with
  | some (.struct fs)=>Tryz.prog.cellsOf T==a.n+b.n&&(match fs.toList with
   | f::fs'=>f.offset==0&&Tryz.prog.cellsOf f.type==a.n&&fG a (some f.type) [] 0&&fG b none fs' a.n
   | []=>false)
  | _=>false
 | _,_,_,_=>false
section
variable {H:Type} {enc:TypeId × Value->H} {W:World}
theorem a7q {a:Addr} {v:Value} (h:W.cell? a=some v):a=⟨a.block,a.off,none⟩/\a.block<W.heap.size:=by
 have h1:=World.cell?_spot h
 refine⟨by obtain⟨b,o,s⟩:=a;cases h1;rfl,?_⟩
 exact World.block_lt_of_cell? W a h
theorem b3r {n:Nat} {cs:List Value} {y:DataW H × List MemPlace} (h:DataW.trod enc Tryz.prog W 0 (fun _=>true) true n 60 cs=some y):∃ p l c,cs=[.slice p l.length c]/\Rd W (.slice p l.length c) l/\∀ g ∈ l,g<4294967296:=by
 rcases open_ints (k:=.u32) Tryz.underlying60 Tryz.underlying133 a7D h with⟨rfl,_⟩|⟨a,len,cap,zs,rfl,_,h1,h2,h3,_,h4,h5⟩
 ·exact⟨none,[],0,rfl,.inl ⟨none,rfl,rfl⟩,by simp⟩
 ·simp at h3
  by_cases hc:cap=0
  ·have hl:len=0:=by omega
   subst hc hl
   exact⟨some a,[],0,rfl,.inl ⟨_,rfl,rfl⟩,by simp⟩
  ·obtain⟨ha,hb⟩:=a7q (h4 0 (by omega))
   have ha:a=⟨a.block,a.off,none⟩:=by simpa [Addr.add] using ha
   have hb:a.block<W.heap.size:=by simpa [Addr.add] using hb
   have hz:∀ n ∈ zs,0<=n/\n<4294967296:=fun n hn=>by
    have:=h5 n hn
    simp[Lit.wf,IntKind.min,IntKind.max,IntKind.signed,IntKind.bits] at this
    omega
   have hL:((zs.take len).map Int.toNat).length=len:=by simp;omega
   refine⟨some a,(zs.take len).map Int.toNat,cap,by rw[hL],.inr ⟨a.block,a.off,cap,by rw[<-ha],by rw[hL];exact h1,by unfold maxLen at h2;omega,hb,fun i hi=>?_⟩,fun g hg=>?_⟩
   ·rw[hL] at hi
    have hi':i<zs.length:=by omega
    have hc:=h4 i hi'
    have hm:zs[i] ∈ zs:=List.getElem_mem hi'
    have:=hz _ hm
    have hg:((gr ((zs.take len).map Int.toNat) i:Nat):Int)=zs.getD i 0:=by
     have e1:gr ((zs.take len).map Int.toNat) i=(zs[i]).toNat:=by simp[gr,List.getD,hi,hi']
     have e2:zs.getD i 0=zs[i]:=by simp[List.getD,hi']
     rw[e1,e2];omega
    rw[hg,<-hc,ha]
    rw[add_plain]
   ·obtain⟨x,hx,rfl⟩:=List.mem_map.1 hg
    have:=hz x (List.mem_of_mem_take hx)
    omega
theorem c1i {α:Type} {l:List α} (h:l.length=4):∃ a b c d,l=[a,b,c,d]:=by
 match l,h with
 | [a,b,c,d],_=>exact⟨a,b,c,d,rfl⟩
theorem b4L {n:Nat} {cs:List Value} {y:DataW H × List MemPlace} (h:DataW.trod enc Tryz.prog W 0 (fun _=>true) true n 64 cs=some y):∃ x:aF,Lf.rep W cs .dD x/\a8e x:=by
 obtain⟨xs,m,_,_,hl,hlen,hf⟩:=DataW.trod_struct Tryz.underlying64 h
 rw[a7C] at hl
 obtain⟨c0,c1,c2,c3,rfl⟩:=c1i hl
 match xs,hlen with
 | [y0,y1],_ =>
 have k0:=hf 0 _ rfl
 have k1:=hf 1 _ rfl
 obtain⟨xs0,m0,_,_,_,hlen0,hf0⟩:=DataW.trod_struct Tryz.underlying62 k0
 obtain⟨xs1,m1,_,_,_,hlen1,hf1⟩:=DataW.trod_struct Tryz.underlying62 k1
 match xs0,hlen0,xs1,hlen1 with
 | [z0,z1],_,[z2,z3],_ =>
 have a0:=hf0 0 _ rfl
 have a1:=hf0 1 _ rfl
 have a2:=hf1 0 _ rfl
 have a3:=hf1 1 _ rfl
 simp[a7B,a5J,a5K] at a0 a1 a2 a3
 obtain⟨b,e0,_⟩:=DataW.trod_bool Tryz.underlying4 a0
 obtain⟨d,e2,_⟩:=DataW.trod_bool Tryz.underlying4 a2
 simp at e0 e2
 subst e0 e2
 obtain⟨p,l,c,e1,r1,l1⟩:=b3r a1
 obtain⟨q,k,e,e3,r3,l3⟩:=b3r a3
 simp at e1 e3
 subst e1 e3
 have hq:gQ W (.agg #[.bool b,.slice p l.length c,.bool d,.slice q k.length e]) _ _:=⟨_,_,_,_,_,_,_,_,rfl,⟨b,_,l,rfl,r1,l1,rfl,rfl⟩,⟨d,_,k,rfl,r3,l3,rfl,rfl⟩,rfl,rfl⟩
 exact⟨⟨_,_,l,k⟩,⟨b,p,c,d,q,e,rfl,hq,r1,r3⟩,fun K h1 h2 h3=>hq.kF ⟨b,p,_,c,d,q,_,e,rfl,h2,h3⟩ h1⟩
theorem ZC {α:Type} {Q:Nat->α->Prop}:∀ n,(∀ i,i<n->∃ x,Q i x)->∃ xs:List α,xs.length=n/\∀ i (h:i<xs.length),Q i xs[i]
 | 0,_=>⟨[],rfl,fun i h=>by simp at h⟩
 | n+1,h=>by
  obtain⟨xs,h1,h2⟩:=ZC n (fun i hi=>h i (by omega))
  obtain⟨x,hx⟩:=h n (by omega)
  refine⟨xs++[x],by simp[h1],fun i hi=>?_⟩
  by_cases e:i<xs.length
  ·rw[List.getElem_append_left e];exact h2 i e
  ·have:i=n:=by simp at hi;omega
   subst this
   rw[List.getElem_append_right (by omega)]
   simpa using hx
theorem yI {α:Type} {R:List Value->α->Prop} {b o ce:Nat}:∀ (xs:List α) (k:Nat),(∀ i (h:i<xs.length),∃ c,c.length=ce/\(∀ j v,c[j]?=some v->W.cell? ⟨b,o+((k+i)*ce+j),none⟩=some v)/\R c xs[i])->∃ ds,(∀ j v,ds[j]?=some v->W.cell? ⟨b,o+(k*ce+j),none⟩=some v)/\chunks R ds xs
 | [],k,_=>⟨[],fun j v h=>by simp at h,rfl⟩
 | x::xs,k,h=>by
  obtain⟨c,h1,h2,h3⟩:=h 0 (by simp)
  obtain⟨ds,h4,h5⟩:=yI xs (k+1) (fun i hi=>by
   obtain⟨c,h1,h2,h3⟩:=h (i+1) (by simpa using hi)
   exact⟨c,h1,fun j v hj=>by rw[show k+1+i=k+(i+1) by omega];exact h2 j v hj,h3⟩)
  refine⟨c++ds,fun j v hj=>?_,c,ds,rfl,h3,h5⟩
  by_cases e:j<c.length
  ·rw[List.getElem?_append_left e] at hj
   exact h2 j v hj
  ·rw[List.getElem?_append_right (by omega)] at hj
   have:=h4 _ _ hj
   rw[Nat.add_mul,Nat.one_mul] at this
   rwa [show k*ce+ce+(j-c.length)=k*ce+j by omega] at this
theorem zD {α:Type} {R:List Value->α->Prop} {ce:Nat}:∀ (xs:List α) (cs:List Value),cs.length=xs.length*ce->(∀ i (h:i<xs.length),R ((cs.drop (i*ce)).take ce) xs[i])->chunks R cs xs
 | [],cs,h,_=>List.eq_nil_of_length_eq_zero (by simpa using h)
 | x::xs,cs,h,hR=>by
  rw[List.length_cons,Nat.succ_mul] at h
  refine⟨cs.take ce,cs.drop ce,(List.take_append_drop ce cs).symm,?_,zD (ce:=ce) xs (cs.drop ce) (by rw[List.length_drop];omega) (fun i hi=>?_)⟩
  ·have:=hR 0 (by simp)
   rwa [Nat.zero_mul,List.drop_zero] at this
  ·have:=hR (i+1) (by simpa using hi)
   rwa [Nat.succ_mul,Nat.add_comm,<-List.drop_drop] at this
theorem a7E {a:Addr} {n:Nat} {cs:List Value} (h:W.cells? 0 a n=some cs):cs.length=n/\∀ j v,cs[j]?=some v->W.cell? (a.add j)=some v:=by
 unfold World.cells? at h
 rw[if_pos (Nat.zero_le _)] at h
 refine⟨by simpa using mapM_some_length h,fun j v hj=>?_⟩
 have hl:cs.length=n:=by simpa using mapM_some_length h
 have hjn:j<n:=by rw[<-hl];exact(List.getElem?_eq_some_iff.1 hj).1
 have:=mapM_some_get h j j (by simp[hjn])
 rw[hj] at this
 exact this
abbrev a2I (W:World) (q:Nat):Prop:=q<W.heap.size
theorem lQ:(t:Ty)->(T:Option TypeId)->(fs:List Field)->(o:Nat)->fG t T fs o=true->(n:Nat)->(cs:List Value) ->
  (∀ T',T=some T'->(∃ y,DataW.trod enc Tryz.prog W 0 (fun _=>true) true n T' cs=some y)->∃ x:t.den,rep (a2I W) W t cs x/\good t x) /\
  (T=none->cs.length=o+t.n->(∀ f ∈ fs,∃ y,DataW.trod enc Tryz.prog W 0 (fun _=>true) true n f.type ((cs.drop f.offset).take (Tryz.prog.cellsOf f.type))=some y)->∃ x:t.den,rep (a2I W) W t (cs.drop o) x/\good t x)
 | .bool,some T,fs,o,hm,n,cs=>by
  refine⟨fun T' e ⟨y,hy⟩=>?_,fun e=>(by cases e)⟩
  cases e
  unfold fG at hm
  split at hm<;>first|(cases hm;done)|skip
  rename_i hu
  obtain⟨b,rfl,_⟩:=DataW.trod_bool hu hy
  exact⟨b,rfl,trivial⟩
 | .int k,some T,fs,o,hm,n,cs=>by
  refine⟨fun T' e ⟨y,hy⟩=>?_,fun e=>(by cases e)⟩
  cases e
  unfold fG at hm
  split at hm<;>first|(cases hm;done)|skip
  rename_i k' hu
  have hk:k=k':=by simpa using hm
  subst hk
  obtain⟨b,rfl,_,hw⟩:=DataW.trod_int hu hy
  exact⟨b,rfl,hw⟩
 | .lf .dD,some T,fs,o,hm,n,cs=>by
  refine⟨fun T' e ⟨y,hy⟩=>?_,fun e=>(by cases e)⟩
  cases e
  have hT:T=64:=by unfold fG at hm;simpa using hm
  subst hT
  exact b4L hy
 | .list t,some T,fs,o,hm,n,cs=>by
  refine⟨fun T' e ⟨y,hy⟩=>?_,fun e=>(by cases e)⟩
  cases e
  unfold fG at hm
  split at hm<;>first|(cases hm;done)|skip
  rename_i e hu
  simp only[Bool.and_eq_true,beq_iff_eq,decide_eq_true_eq] at hm
  obtain⟨⟨hc,hp⟩,hmt⟩:=hm
  rcases DataW.trod_slice hu hy with⟨rfl,_⟩|⟨a,len,cap,elems,rest,m,_,rfl,_,_,h1,h2,h3,h4,_,_⟩
  ·exact⟨([]:List t.den),⟨none,0,rfl,Nat.le_refl _,by omega,.inl rfl⟩,by show 0<=_;omega,fun x hx=>by cases hx⟩
  ·rw[hc] at h4
   obtain⟨xs,hxl,hxs⟩:=ZC (Q:=fun i (x:t.den)=>(∃ c,c.length=t.n/\(∀ j v,c[j]?=some v->W.cell? ((a.add (i*t.n)).add j)=some v)/\rep (a2I W) W t c x)/\good t x) len (fun i hi=>by
    have h5:=h4 i hi
    rw[List.getElem?_eq_getElem (by omega),Option.bind_eq_some_iff] at h5
    obtain⟨c,h6,h7⟩:=h5
    obtain⟨x,h8,h9⟩:=(lQ t (some e) [] 0 hmt m c).1 e rfl ⟨_,h7⟩
    obtain⟨k1,k2⟩:=a7E h6
    exact⟨x,⟨c,k1,k2,h8⟩,h9⟩)
   have hcap:cap<=9223372036854775807:=by unfold maxLen at h2;omega
   refine⟨xs,?_,⟨?_,?_⟩⟩
   ·refine⟨some a,cap,by rw[show List.length (α:=t.den) xs=len from hxl],by rw[show List.length (α:=t.den) xs=len from hxl];exact h1,hcap,?_⟩
    by_cases h0:len=0
    ·exact .inl (List.eq_nil_of_length_eq_zero (by rw[hxl,h0]))
    ·right
     obtain⟨⟨c,k1,k2,_⟩,_⟩:=hxs 0 (by omega)
     obtain⟨v,hv⟩:∃ v,c[0]?=some v:=⟨_,List.getElem?_eq_getElem (by omega)⟩
     have hcell:=k2 0 v hv
     rw[Nat.zero_mul,show (a.add 0).add 0=a by simp[Addr.add]] at hcell
     obtain⟨ha,hb⟩:=a7q hcell
     obtain⟨ds,d1,d2⟩:=yI (W:=W) (R:=rep (a2I W) W t) (b:=a.block) (o:=a.off) (ce:=t.n) xs 0 (fun i hi=>by
      obtain⟨⟨c,k1,k2,k3⟩,_⟩:=hxs i hi
      refine⟨c,k1,fun j v hj=>?_,k3⟩
      have:=k2 j v hj
      rw[ha,add_plain,add_plain] at this
      rw[Nat.zero_add,<-Nat.add_assoc];exact this)
     exact⟨a.block,a.off,ds,by rw[<-ha],hb,fun j v hj=>by have:=d1 j v hj;rwa [Nat.zero_mul,Nat.zero_add] at this,d2⟩
   ·show xs.length<=_;omega
   ·intro x hx
    obtain⟨i,hi,rfl⟩:=List.getElem_of_mem hx
    exact(hxs i hi).2
 | .arr k t,some T,fs,o,hm,n,cs=>by
  refine⟨fun T' e ⟨y,hy⟩=>?_,fun e=>(by cases e)⟩
  cases e
  unfold fG at hm
  split at hm<;>first|(cases hm;done)|skip
  rename_i m e hu
  simp only[Bool.and_eq_true,beq_iff_eq] at hm
  obtain⟨⟨⟨hk,hc⟩,hC⟩,hmt⟩:=hm
  subst hk
  obtain⟨ys,q,_,_,hl,hyl,hys⟩:=DataW.trod_array hu hy
  rw[hC] at hl
  rw[hc] at hys
  obtain⟨xs,hxl,hxs⟩:=ZC (Q:=fun i (x:t.den)=>rep (a2I W) W t ((cs.drop (i*t.n)).take t.n) x/\good t x) m (fun i hi=>by
   have h5:=hys i hi
   rw[List.getElem?_eq_getElem (by omega)] at h5
   exact(lQ t (some e) [] 0 hmt q _).1 e rfl ⟨_,h5⟩)
  refine⟨xs,⟨hxl,zD (ce:=t.n) xs cs (by rw[hl,hxl]) (fun i hi=>(hxs i hi).1)⟩,hxl,fun x hx=>?_⟩
  obtain⟨i,hi,rfl⟩:=List.getElem_of_mem hx
  exact(hxs i hi).2
 | .pair a b,some T,fs,o,hm,n,cs=>by
  refine⟨fun T' e ⟨y,hy⟩=>?_,fun e=>(by cases e)⟩
  cases e
  unfold fG at hm
  split at hm<;>first|(cases hm;done)|skip
  rename_i gs hu
  simp only[Bool.and_eq_true,beq_iff_eq] at hm
  obtain⟨hC,hm⟩:=hm
  split at hm<;>first|(cases hm;done)|skip
  rename_i f fs' hgs
  simp only[Bool.and_eq_true,beq_iff_eq] at hm
  obtain⟨⟨⟨ho,hc⟩,hma⟩,hmb⟩:=hm
  obtain⟨ys,q,_,_,hl,hyl,hys⟩:=DataW.trod_struct hu hy
  rw[hC] at hl
  have hget:∀ (i:Nat) (g:Field),gs[i]?=some g->∃ y,DataW.trod enc Tryz.prog W 0 (fun _=>true) true q g.type ((cs.drop g.offset).take (Tryz.prog.cellsOf g.type))=some y:=fun i g hg=>by
   have hi:i<gs.size:=(Array.getElem?_eq_some_iff.1 hg).1
   have:=hys i g hg
   rw[List.getElem?_eq_getElem (by omega)] at this
   exact⟨_,this⟩
  have h0:=hget 0 f (by rw[<-Array.getElem?_toList,hgs];rfl)
  rw[ho,hc,List.drop_zero] at h0
  obtain⟨x,hx,gx⟩:=(lQ a (some f.type) [] 0 hma q _).1 _ rfl h0
  obtain⟨z,hz,gz⟩:=(lQ b none fs' a.n hmb q cs).2 rfl hl (fun g hg=>by
   obtain⟨i,hi⟩:=List.getElem?_of_mem hg
   exact hget (i+1) g (by rw[<-Array.getElem?_toList,hgs];exact hi))
  exact⟨(x,z),⟨_,_,(List.take_append_drop a.n cs).symm,hx,hz⟩,gx,gz⟩
 | .pair a b,none,[],o,hm,n,cs=>by simp[fG] at hm
 | .pair a b,none,f::fs',o,hm,n,cs=>by
  refine⟨fun T' e=>(by cases e),fun _ hl hg=>?_⟩
  unfold fG at hm
  simp only[Bool.and_eq_true,beq_iff_eq] at hm
  obtain⟨⟨⟨ho,hc⟩,hma⟩,hmb⟩:=hm
  have h0:=hg f (List.mem_cons_self ..)
  rw[ho,hc] at h0
  obtain⟨x,hx,gx⟩:=(lQ a (some f.type) [] 0 hma n _).1 _ rfl h0
  obtain⟨z,hz,gz⟩:=(lQ b none fs' (o+a.n) hmb n cs).2 rfl (by rw[hl];show o+(a.n+b.n)=_;omega) (fun g hg'=>hg g (List.mem_cons_of_mem _ hg'))
  refine⟨(x,z),⟨(cs.drop o).take a.n,cs.drop (o+a.n),?_,hx,hz⟩,gx,gz⟩
  rw[<-List.drop_drop,List.take_append_drop]
 | .unit,none,[],o,hm,n,cs=>by
  refine⟨fun T' e=>(by cases e),fun _ hl _=>⟨(),?_,trivial⟩⟩
  show cs.drop o=[]
  exact List.drop_eq_nil_of_le (by rw[hl];exact Nat.le_refl _)
 | .unit,none,_::_,o,hm,n,cs=>by simp[fG] at hm
 | .unit,some _,_,_,hm,_,_=>by simp[fG] at hm
 | .bool,none,_,_,hm,_,_=>by simp[fG] at hm
 | .int _,none,_,_,hm,_,_=>by simp[fG] at hm
 | .lf .dD,none,_,_,hm,_,_=>by simp[fG] at hm
 | .lf .rat,_,_,_,hm,_,_=>by simp[fG] at hm
 | .lf .big,_,_,_,hm,_,_=>by simp[fG] at hm
 | .lf .KY,_,_,_,hm,_,_=>by simp[fG] at hm
 | .lf .str,_,_,_,hm,_,_=>by simp[fG] at hm
 | .list _,none,_,_,hm,_,_=>by simp[fG] at hm
 | .arr _ _,none,_,_,hm,_,_=>by simp[fG] at hm
 | .ref _,_,_,_,hm,_,_=>by simp[fG] at hm
 | .clo _ _,_,_,_,hm,_,_=>by simp[fG] at hm
theorem b3D {t:Ty} {T:TypeId} {v:Value} {d:DataW H} {p:List MemPlace} {b0:Nat} (hm:fG t (some T) [] 0=true) (hv:Value.okWide Tryz.prog W .any b0 T v) (h:DataW.Trod enc Tryz.prog W 0 (fun _=>true) true T v d p) :
  ∃ x:t.den,jY (a2I W) W t v x/\good t x:=by
 obtain⟨n,hn⟩:=h
 obtain⟨x,hx,gx⟩:=(lQ t (some T) [] 0 hm n v.cells.toList).1 T rfl ⟨_,hn⟩
 refine⟨x,⟨v.cells.toList,?_,hx⟩,gx⟩
 cases t with
 | bool =>
  unfold fG at hm
  split at hm<;>first|(cases hm;done)|skip
  rename_i hu
  simp only[Value.okWide,hu,Cell.okWide,Cell.ok] at hv
  split at hv<;>simp_all [Value.cells,Ty.toV,Ty.agg]
 | int k =>
  unfold fG at hm
  split at hm<;>first|(cases hm;done)|skip
  rename_i k' hu
  simp only[Value.okWide,hu,Cell.okWide,Cell.ok] at hv
  split at hv<;>simp_all [Value.cells,Ty.toV,Ty.agg]
 | lf l =>
  cases l<;>try (simp[fG] at hm;done)
  have hT:T=64:=by unfold fG at hm;simpa using hm
  subst hT
  simp only[Value.okWide,Tryz.underlying64] at hv
  obtain⟨cs,rfl,_⟩:=hv
  simp[Ty.toV,Ty.agg,Lf.agg,Value.cells]
 | list t =>
  unfold fG at hm
  split at hm<;>first|(cases hm;done)|skip
  rename_i e hu
  simp only[Value.okWide,hu,Cell.okWide,Cell.ok] at hv
  split at hv<;>simp_all [Value.cells,Ty.toV,Ty.agg]
 | arr k t =>
  unfold fG at hm
  split at hm<;>first|(cases hm;done)|skip
  rename_i m e hu
  simp only[Value.okWide,hu] at hv
  obtain⟨cs,rfl,_⟩:=hv
  simp[Ty.toV,Ty.agg,Value.cells]
 | pair a b =>
  unfold fG at hm
  split at hm<;>first|(cases hm;done)|skip
  rename_i gs hu
  simp only[Value.okWide,hu] at hv
  obtain⟨cs,rfl,_⟩:=hv
  simp[Ty.toV,Ty.agg,Value.cells]
 | _=>simp[fG] at hm
end
end
set_option maxRecDepth 100000
set_option maxHeartbeats 1000000
set_option linter.unusedVariables false
set_option linter.unusedSimpArgs false
def gdM (a:MR):Prop:=∀ r ∈ a,∀ q ∈ r,a8e q
theorem b3E (a b:Bool):(bif a then b else false)=(a&&b):=by cases a<;>rfl
theorem a7X {a:MR} (h:FW a=true):a.length<=7/\∀ r ∈ a,r.length<=7/\∀ q ∈ r,kW q=true:=by
 unfold FW at h
 rw[Bool.and_eq_true] at h
 refine⟨of_decide_eq_true h.1,fun r hr=>?_⟩
 have:=List.all_eq_true.mp h.2 r hr
 unfold brL at this
 rw[Bool.and_eq_true] at this
 exact⟨of_decide_eq_true this.1,fun q hq=>List.all_eq_true.mp this.2 q hq⟩
theorem b3P {a:MR} (h:FW a=true) (g:gdM a):smK 100 a/\xR a:=by
 obtain⟨h1,h2⟩:=a7X h
 refine⟨⟨⟨by omega,fun r hr=>⟨by have:=(h2 r hr).1;omega,fun q hq=>?_⟩⟩,fun c=>?_⟩,⟨by omega,fun r hr=>⟨by have:=(h2 r hr).1;omega,fun q hq=>?_⟩⟩⟩
 ·have:=BK ((h2 r hr).2 q hq);exact⟨by omega,by omega⟩
 ·obtain⟨hM,ok⟩:=nG c
  have hr0:a.getD 0 [] ∈ a:=by
   have:0<a.length:=hM.2.2.1
   rw[List.getD_eq_getElem?_getD,List.getElem?_eq_getElem this];exact List.getElem_mem this
  have hw:wdM a<=7:=(h2 _ hr0).1
  refine⟨h1,hw,?_⟩
  have hs:szM (mq a) 1:=fun i hi j hj=>by
   have hi2:i<a.length:=by rw[pV] at hi;exact hi
   have hir:a.getD i [] ∈ a:=by rw[List.getD_eq_getElem?_getD,List.getElem?_eq_getElem hi2];exact List.getElem_mem hi2
   have hj2:j<(a.getD i []).length:=by
    have:=hM.row (i:=i) hi2
    rw[a3h,ZE] at this
    rw[WA] at hj;omega
   have e:ent (mq a) i j=((a.getD i []).getD j cZ).x:=by
    show ((mq a).getD i []).getD j 0=_
    rw[a3h];unfold lq
    rw[List.getD_eq_getElem?_getD,List.getElem?_map,List.getElem?_eq_getElem hj2,List.getD_eq_getElem?_getD (l:=a.getD i []),List.getElem?_eq_getElem hj2];rfl
   rw[e]
   have hq:(a.getD i []).getD j cZ ∈ a.getD i []:=by rw[List.getD_eq_getElem?_getD (l:=a.getD i []),List.getElem?_eq_getElem hj2];exact List.getElem_mem hj2
   have hb:=BK ((h2 _ hir).2 _ hq)
   exact g _ hir _ hq 1 (Nat.le_refl 1) hb.1 hb.2
  have h4:=a7g hM hs
  have h5:a.length*(wdM a+1)<=7*8:=Nat.mul_le_mul h1 (by omega)
  exact h4.mono (by omega)
 ·have:=BK ((h2 r hr).2 q hq);exact⟨by omega,by omega⟩
theorem a4Z {a:MQ} {N:Nat} (h:isM a N N):rkM a=N↔fK a=[]:=by
 have E:=gX N (ent a) N
 have h1:=rZ E.nd E.lt
 rw[h.rk,sF h]
 constructor
 ·intro e
  have:(frees N (red N (ent a) N).2).length=0:=by omega
  rw[this];rfl
 ·intro e
  have:(tab (frees N (red N (ent a) N).2).length N (tr (MS N (ent a)))).length=0:=by rw[e];rfl
  rw[bK] at this
  omega
def b3J:Ctr:=⟨[tMR],[tB],fun x=>gdM x.1,fun _=>(true,())⟩
theorem a6s:aT Tryz.prog 3 b3J:=by
 refine bT ((((((((((nil0.ad TF).ad a5n).ad a6L).ad a6H).ad a9T).ad JW).ad PY).ad b1k).ad a8U).ad b1F) ⟨[3],[],[]⟩ Tryz.func3 rfl (by decide) (fun x=>[]) (fun x hp=>?_)
 obtain⟨n,u⟩:=x
 change List (List aF) at n
 refine bZ (let A₁:=(Prod.fst (Prod.fst (dW n)));let A₂:=(Ty.list (Ty.lf Lf.dD));let A₀:=(List.map (fun(xs:Ty.den A₂)=>List.map (fun(x:Ty.den (Ty.lf Lf.dD))=>aF.x x) xs) n);let bJ:=(List.map (fun(xs:Ty.den (Ty.list (Ty.lf Lf.rat)))=>List.map (fun(x:Ty.den (Ty.lf Lf.rat))=>dR x) xs) A₁);(True/\True)/\(List.length (n::aC (List (List aF)))<=100/\True)/\ifB (!List.all (n::aC (List (List aF))) FW) (True/\asT Bool true=true/\True) ((smK 100 n/\True)/\((List.length (n::aC (List (List aF)))<=1000000/\∀ (a:List (List aF)),a ∈ n::aC (List (List aF))->xR a)/\True)/\((((fA (n::aC (List (List aF)))==0)==true)=true->((fA (n::aC (List (List aF)))==0)==true)=true/\True)/\(((fA (n::aC (List (List aF)))==0)==true)=true->((fA (n::aC (List (List aF)))==0)==true)=true/\asT Int 0<=0/\0<aA (List.length n)/\True)/\(((fA (n::aC (List (List aF)))==0)==true)=true->((fA (n::aC (List (List aF)))==0)==true)=true/\True)/\(((fA (n::aC (List (List aF)))==0)==true)=true->((fA (n::aC (List (List aF)))==0)==true)=true/\True)/\(((fA (n::aC (List (List aF)))==0)==true)=true->((fA (n::aC (List (List aF)))==0)==true)=true/\((fA (n::aC (List (List aF)))==0)==true)=true/\True)/\((fA (n::aC (List (List aF)))==0)=true->((fA (n::aC (List (List aF)))==0)==true)=true)/\True)/\ifB (bif fA (n::aC (List (List aF)))==0 then aA (List.length n) != aA (List.length (List.getD n 0 (aC aF))) else false) (((asT Bool false=true->asT Bool false=true/\dO (fun(x:Ty.den A₂)=>aV (dO (fun(x:Ty.den (Ty.lf Lf.dD))=>aV ((aF.ok x=true)::aC Prop)) x::aC Prop)) n/\(okM A₀/\wdM A₀=List.length A₀)/\True)/\(asT Bool false=true->asT Bool false=true/\True)/\(asT Bool false=true->asT Bool false=true)/\True)/\((asT Bool false=true->asT Bool false=true/\dO (fun(x:Ty.den A₂)=>aV (dO (fun(x:Ty.den (Ty.lf Lf.dD))=>aV ((aF.ok x=true)::aC Prop)) x::aC Prop)) n/\okE A₀/\True)/\(asT Bool false=true->asT Bool false=true/\True)/\(asT Bool false=true->asT Bool false=true/\asT Bool false=true/\True)/\(asT Bool false=true->asT Bool false=true)/\True)/\((((Prod.fst (Prod.snd (dW n))==4)==true)=true->((Prod.fst (Prod.snd (dW n))==4)==true)=true/\True)/\(((Prod.fst (Prod.snd (dW n))==4)==true)=true->((Prod.fst (Prod.snd (dW n))==4)==true)=true/\True)/\(((Prod.fst (Prod.snd (dW n))==4)==true)=true->((Prod.fst (Prod.snd (dW n))==4)==true)=true/\True)/\((Prod.fst (Prod.snd (dW n))==4)=true->((Prod.fst (Prod.snd (dW n))==4)==true)=true)/\True)/\True/\(bif Prod.fst (Prod.snd (dW n))==4 then aA (List.length A₁)==0 else false)=true/\True) (((((fA (n::aC (List (List aF)))==0)==true)=true->((fA (n::aC (List (List aF)))==0)==true)=true/\dO (fun(x:Ty.den A₂)=>aV (dO (fun(x:Ty.den (Ty.lf Lf.dD))=>aV ((aF.ok x=true)::aC Prop)) x::aC Prop)) n/\(okM A₀/\wdM A₀=List.length A₀)/\True)/\(((fA (n::aC (List (List aF)))==0)==true)=true->((fA (n::aC (List (List aF)))==0)==true)=true/\True)/\((fA (n::aC (List (List aF)))==0)=true->((fA (n::aC (List (List aF)))==0)==true)=true)/\True)/\ifB (bif fA (n::aC (List (List aF)))==0 then !yQ A₀ else false) (((asT Bool false=true->asT Bool false=true/\dO (fun(x:Ty.den A₂)=>aV (dO (fun(x:Ty.den (Ty.lf Lf.dD))=>aV ((aF.ok x=true)::aC Prop)) x::aC Prop)) n/\okE A₀/\True)/\(asT Bool false=true->asT Bool false=true/\True)/\(asT Bool false=true->asT Bool false=true/\asT Bool false=true/\True)/\(asT Bool false=true->asT Bool false=true)/\True)/\((((Prod.fst (Prod.snd (dW n))==12)==true)=true->((Prod.fst (Prod.snd (dW n))==12)==true)=true/\True)/\(((Prod.fst (Prod.snd (dW n))==12)==true)=true->((Prod.fst (Prod.snd (dW n))==12)==true)=true/\True)/\(((Prod.fst (Prod.snd (dW n))==12)==true)=true->((Prod.fst (Prod.snd (dW n))==12)==true)=true/\True)/\((Prod.fst (Prod.snd (dW n))==12)=true->((Prod.fst (Prod.snd (dW n))==12)==true)=true)/\True)/\True/\(bif Prod.fst (Prod.snd (dW n))==12 then aA (List.length A₁)==0 else false)=true/\True) (((((fA (n::aC (List (List aF)))==0)==true)=true->((fA (n::aC (List (List aF)))==0)==true)=true/\dO (fun(x:Ty.den A₂)=>aV (dO (fun(x:Ty.den (Ty.lf Lf.dD))=>aV ((aF.ok x=true)::aC Prop)) x::aC Prop)) n/\okE A₀/\True)/\(((fA (n::aC (List (List aF)))==0)==true)=true->((fA (n::aC (List (List aF)))==0)==true)=true/\True)/\(((fA (n::aC (List (List aF)))==0)==true)=true->((fA (n::aC (List (List aF)))==0)==true)=true/\((fA (n::aC (List (List aF)))==0)==true)=true/\True)/\((fA (n::aC (List (List aF)))==0)=true->((fA (n::aC (List (List aF)))==0)==true)=true)/\True)/\ifB (bif fA (n::aC (List (List aF)))==0 then aA (rkM A₀)==aA (List.length n) else false) (((((Prod.fst (Prod.snd (dW n))==6)==true)=true->((Prod.fst (Prod.snd (dW n))==6)==true)=true/\True)/\(((Prod.fst (Prod.snd (dW n))==6)==true)=true->((Prod.fst (Prod.snd (dW n))==6)==true)=true/\True)/\(((Prod.fst (Prod.snd (dW n))==6)==true)=true->((Prod.fst (Prod.snd (dW n))==6)==true)=true/\True)/\((Prod.fst (Prod.snd (dW n))==6)=true->((Prod.fst (Prod.snd (dW n))==6)==true)=true)/\True)/\True/\(bif Prod.fst (Prod.snd (dW n))==6 then aA (List.length A₁)==0 else false)=true/\True) (ifB (fA (n::aC (List (List aF))) != 0) (((((Prod.fst (Prod.snd (dW n))==fA (n::aC (List (List aF))))==true)=true->((Prod.fst (Prod.snd (dW n))==fA (n::aC (List (List aF))))==true)=true/\True)/\(((Prod.fst (Prod.snd (dW n))==fA (n::aC (List (List aF))))==true)=true->((Prod.fst (Prod.snd (dW n))==fA (n::aC (List (List aF))))==true)=true/\True)/\(((Prod.fst (Prod.snd (dW n))==fA (n::aC (List (List aF))))==true)=true->((Prod.fst (Prod.snd (dW n))==fA (n::aC (List (List aF))))==true)=true/\True)/\((Prod.fst (Prod.snd (dW n))==fA (n::aC (List (List aF))))=true->((Prod.fst (Prod.snd (dW n))==fA (n::aC (List (List aF))))==true)=true)/\True)/\True/\(bif Prod.fst (Prod.snd (dW n))==fA (n::aC (List (List aF))) then aA (List.length A₁)==0 else false)=true/\True) (((((Prod.fst (Prod.snd (dW n))==0)==true)=true->((Prod.fst (Prod.snd (dW n))==0)==true)=true/\True)/\(((Prod.fst (Prod.snd (dW n))==0)==true)=true->((Prod.fst (Prod.snd (dW n))==0)==true)=true/\dO (fun(x:Ty.den A₂)=>aV (dO (fun(x:Ty.den (Ty.lf Lf.dD))=>aV ((aF.ok x=true)::aC Prop)) x::aC Prop)) n/\okE A₀/\True)/\(((Prod.fst (Prod.snd (dW n))==0)==true)=true->((Prod.fst (Prod.snd (dW n))==0)==true)=true/\okM (fK A₀)/\True)/\(((Prod.fst (Prod.snd (dW n))==0)==true)=true->((Prod.fst (Prod.snd (dW n))==0)==true)=true/\((Prod.fst (Prod.snd (dW n))==0)==true)=true/\(xX A₁/\xX (trM (fK A₀)))/\True)/\((Prod.fst (Prod.snd (dW n))==0)=true->((Prod.fst (Prod.snd (dW n))==0)==true)=true)/\(((bif Prod.fst (Prod.snd (dW n))==0 then decide (Prod.fst (Prod.fst (dW n))=trM (fK A₀)) else false)==true)=true->((bif Prod.fst (Prod.snd (dW n))==0 then decide (Prod.fst (Prod.fst (dW n))=trM (fK A₀)) else false)==true)=true/\((bif Prod.fst (Prod.snd (dW n))==0 then decide (Prod.fst (Prod.fst (dW n))=trM (fK A₀)) else false)==true)=true/\dO (fun(x:Ty.den (Ty.list (Ty.lf Lf.rat)))=>aV (dO (fun(x:Ty.den (Ty.lf Lf.rat))=>aV (aC Prop)) x::aC Prop)) A₁/\(smK 100 n/\smK 13000 bJ)/\True)/\(((bif Prod.fst (Prod.snd (dW n))==0 then decide (Prod.fst (Prod.fst (dW n))=trM (fK A₀)) else false)==true)=true->((bif Prod.fst (Prod.snd (dW n))==0 then decide (Prod.fst (Prod.fst (dW n))=trM (fK A₀)) else false)==true)=true/\True)/\((bif Prod.fst (Prod.snd (dW n))==0 then decide (Prod.fst (Prod.fst (dW n))=trM (fK A₀)) else false)=true->((bif Prod.fst (Prod.snd (dW n))==0 then decide (Prod.fst (Prod.fst (dW n))=trM (fK A₀)) else false)==true)=true)/\True)/\True/\(bif bif Prod.fst (Prod.snd (dW n))==0 then decide (Prod.fst (Prod.fst (dW n))=trM (fK A₀)) else false then FI n bJ==0 else false)=true/\True)))))) (by kernel_rfl) ?_
 try simp only[bG,decide_eq_true_eq,decide_eq_false_iff_not]
 try dsimp only[Ty.den,Lf.den,asT] at *
 try simp only[NT,NS,trF,NU]
 have hZ:(⟨false,0,[],[]⟩:aF)=cZ:=rfl
 try dsimp only[aA,asT,aB,aC,Ty.den,Lf.den] at *
 try simp only[hZ,Int.toNat_natCast,bG,decide_eq_true_eq,decide_eq_false_iff_not,true_and,and_true,aH,nameAt,aW,aU,bK,rowAt,List.length_set,List.length_range]
 try simp only[rC,List.all_cons,List.all_nil,Bool.and_true,Bool.not_eq_true',Bool.not_eq_false',beq_iff_eq,bne_iff_ne,ne_eq,Bool.and_eq_true,Bool.and_eq_false_imp,beq_eq_false_iff_ne,bne_eq_false_iff_eq,Int.natCast_inj,imp_self,implies_true,and_self,true_and,and_true,mX,Bool.or_eq_true,Bool.or_eq_false_iff,List.length_cons,List.length_nil]
 try simp only[wdF,rQ,uY]
 have hg:gdM n:=hp
 simp only[b3E]
 refine⟨by omega,fun hf=>?_⟩
 obtain⟨hs,hs'⟩:=b3P hf hg
 have hk1:fA [n]=if fP n=0 then 0 else 1:=by
  unfold fA
  rw[List.any_cons,List.any_nil,Bool.or_false]
  by_cases c:fP n=0
  ·rw[if_pos c,if_neg (by rw[c];decide)]
  ·rw[if_neg c,if_pos (bne_iff_ne.mpr c)]
 refine⟨hs,⟨by omega,fun a ha=>by rw[List.mem_singleton.mp ha];exact hs'⟩,fun c=>⟨c,by omega,by have:=(nG c).1.2.2.1;omega⟩,fun h=>?_,fun h=>?_⟩
 ·rw[Bool.and_eq_true,beq_iff_eq,bne_iff_ne] at h
  have e:dW n=(([],()),4,()):=by unfold dW;rw[if_pos h.1,if_neg (by omega)]
  rw[e]
  exact⟨fun h=>absurd h (by decide),fun h=>absurd h (by decide),rfl⟩
 ·have c1:fP n=0->n.length=wdM n:=fun c=>by
   rw[c] at h
   have h:((n.length:Int) != (wdM n:Int))=false:=by simpa using h
   have:=bne_eq_false_iff_eq.mp h;omega
  refine⟨fun c=>⟨c,vO (nG c).2,(zY (hs.at c).1 (hs.at c).2.2.1 (hs.at c).2.2.2 (by omega)).1,by rw[WA,pV,c1 c]⟩,fun h2=>?_,fun h2=>⟨fun c=>⟨c,vO (nG c).2,zY (hs.at c).1 (hs.at c).2.2.1 (hs.at c).2.2.2 (by omega)⟩,fun h3=>?_,fun h3=>?_⟩⟩
  ·rw[Bool.and_eq_true,beq_iff_eq,Bool.not_eq_true'] at h2
   have e:dW n=(([],()),12,()):=by unfold dW;rw[if_pos h2.1,if_pos (c1 h2.1),if_neg (by rw[h2.2];decide)]
   rw[e]
   exact⟨fun h=>absurd h (by decide),rfl⟩
  ·rw[Bool.and_eq_true,beq_iff_eq,beq_iff_eq] at h3
   have c2:=c1 h3.1
   have hN:isM (mq n) n.length n.length:=by have:=(hs.at h3.1).1;rw[<-c2] at this;exact this
   have hy:yQ (mq n)=true:=by rw[h3.1] at h2;simpa using h2
   have hz:fK (mq n)=[]:=(a4Z hN).mp (by omega)
   have e:dW n=(([],()),6,()):=by unfold dW;rw[if_pos h3.1,if_pos c2,if_pos hy,if_pos hz]
   rw[e];rfl
  ·rw[hk1]
   by_cases c:fP n=0
   ·have c2:=c1 c
    obtain⟨hM,h7,w7,hC⟩:=hs.at c
    have hN:isM (mq n) n.length n.length:=by rw[<-c2] at hM;exact hM
    have hy:yQ (mq n)=true:=by rw[c] at h2;simpa using h2
    have hz:fK (mq n)≠[]:=fun hz=>by
     have:=(a4Z hN).mpr hz
     rw[c,this] at h3
     simp at h3
    have e:dW n=((trM (fK (mq n)),()),0,()):=by unfold dW;rw[if_pos c,if_pos c2,if_pos hy,if_neg hz]
    obtain⟨k1,k2,k3⟩:=SB hN h7 hC hz
    have t1:=k1.trp
    have t2:=k2.trp k1
    have ok:okM (trM (fK (mq n))):=t2.ok t1 (by omega)
    have hG:wX (mq n) (trM (fK (mq n)))=true:=a6p hN hy hz
    rw[if_pos c,e];dsimp only
    have hc2:FI n (liftM (trM (fK (mq n))))=0:=by
     unfold FI
     rw[if_pos ⟨c,ok.chk⟩,if_pos ⟨c2,by rw[KR,t1.len]⟩,a4T,if_pos hG]
    refine⟨fun h=>absurd rfl h,fun _=>⟨⟨fun h=>⟨h,vO (nG c).2,zY hN h7 hC (by omega)⟩,fun h=>⟨h,k2.ok k1 (by omega)⟩,fun h=>⟨h,h,ok.xX,ok.xX⟩,fun h=>⟨h,h,jS.mpr fun r _=>⟨jS.mpr fun q _=>trivial,trivial⟩,hs,a2c ok (by rw[t1.len];exact h7) (by rw[t1.wd];exact k3) t2⟩⟩,?_⟩⟩
    rw[show List.map (fun xs=>List.map (fun x=>dR x) xs) (trM (fK (mq n)))=liftM (trM (fK (mq n))) from rfl,hc2]
    simp
   ·have e:dW n=(([],()),1,()):=by unfold dW;rw[if_neg c]
    rw[if_neg c,e]
    exact⟨fun _=>rfl,fun h=>absurd h (by decide)⟩
section
open Go Go.ChangeShapes Go.WideShapes Go.ChangeAt Go.RowKit Go.Joins
set_option maxRecDepth 100000 in
theorem JV {pre:(nest [(.list (.list (.lf .dD)))]).den->Prop} (h:aT Tryz.prog 3 ⟨[(.list (.list (.lf .dD)))],[.bool],pre,fun _=>(true,())⟩) (hp:∀ (x0:Ty.den (.list (.list (.lf .dD)))),good (.list (.list (.lf .dD))) x0->pre (x0,())):Rows.DatumNullsSaid:=by
 have lifted:∀ (os:Os) (started:os.Started) (H:Type) (enc:TypeId × Value->H),ReturnsInHanded {} Tryz.checked os 3 .any (Rows.datumNullsSpec.pre6 enc Tryz.prog Tryz.f3 Rows.datumNullsRow.domain false) (Rows.datumNullsSpec.post enc Tryz.prog Tryz.f3 false true false false):=by
  intro os started H enc
  refine returnsInHanded_of_change (C:=Tryz.checked) own started (by kernel_rfl) Tryz.func3
   (ChangeSpec.witness6 (enc:=enc) (C:=Tryz.checked) false ⟨#[],#[.slice none 0 0],[]⟩ 8 (by kernel_rfl) (by kernel_rfl) (by kernel_rfl) (by kernel_rfl)) ?_
  intro W base args ds gs before hval0 hW hcnd _
  have hval:∀ (j:Nat) t v,Tryz.f3.params[j]?=some t->args[j]?=some v->Value.okWide Tryz.prog W .any base t v:=hval0
  have hW':=hW
  obtain⟨p,q,hA0,hV,rfl,hfz,hnd⟩:=hW
  have hA:DataW.TrodAll enc Tryz.prog W 0 (fun _=>true) true Tryz.f3.params.toList args.toList ds p:=hA0
  rw[Tryz.params3] at hA hval
  obtain⟨v0,vs0,d0,ds0,p0,q0,hargs,rfl,rfl,h0,r0⟩:=trodAll_cons hA
  obtain⟨rfl,rfl,rfl⟩:=trodAll_nil r0
  obtain rfl:args=#[v0]:=by cases args;simp_all
  obtain⟨rfl,rfl⟩:=trodVars_none hV
  obtain⟨x0,k0,g0⟩:=b3D (t:=.list (.list (.lf .dD))) (by kernel_rfl) (hval 0 23 v0 rfl rfl) h0
  have l0:∀ x ∈ p0,x.block<W.heap.size:=fun x hx=>hW'.lt x (by simp[hx])
  refine(h (a2I W) W [v0] (x0,()) (fun q hq=>hq) ⟨_,_,rfl,k0,rfl⟩ (hp x0 g0)).mono fun e W' ⟨v,he,hr,hg⟩=>?_
  subst he
  have hr:jY _ W' .bool v true:=hr
  rw[b3F hr]
  exact⟨_,rfl,_,_,_,[],_,[],hW',trodAll_cons_mk (shut_bool Tryz.underlying4 _) trodAll_mk0,(trodAll_cons_mk (Below.trod laidOut (by kernel_rfl) (of_decide_eq_true (by kernel_rfl)) h0 hg l0) trodAll_mk0),rfl,hg.frame _,fun h=>by cases h⟩
 exact OpenClaim.holds_of_wide 3 Tryz.f3 rfl rfl rfl rfl rfl rfl rfl ⟨rfl,rfl,rfl,rfl,rfl⟩ rfl rfl rfl rfl rfl (by kernel_rfl) Tryz.func3 (by kernel_rfl)
  (of_decide_eq_true (by kernel_rfl)) (by unfold Func.isWrapper;first|(rw[if_pos (by decide +kernel)];kernel_rfl)|(rw[if_neg (by decide +kernel)];exact⟨rfl,rfl⟩))
  (fun os started H enc _=>lifted os started H enc)
end
theorem vnulls_holds:Rows.DatumNullsSaid:=JV a6s (fun _ g=>fun r hr q hq=>(g.2 r hr).2 q hq)
end Go.Proofs.YtgplhbhfdgempaaGreat
