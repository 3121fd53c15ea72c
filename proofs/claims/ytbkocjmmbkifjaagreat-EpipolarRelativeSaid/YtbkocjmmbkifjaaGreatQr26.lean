/-
  Lemmas for the theorem vrelative28_holds, part 26 of 35.
-/
import Derived.Carry
import Derived.Test.YtbkocjmmbkifjaaGreatQr24
import Derived.Test.YtbkocjmmbkifjaaGreatQr25
namespace Go.Proofs.YtbkocjmmbkifjaaGreat
open Go Go.RowKit
section
open Go Go.ChangeShapes Go.WideShapes Go.ChangeAt Go.RowKit Go.Joins
set_option linter.unusedVariables false
set_option linter.unusedSimpArgs false
set_option maxRecDepth 100000
theorem laidOut:laidOutB Tryz.prog=true:=by kernel_rfl
theorem b0i:Tryz.prog.cellsOf 47=4:=by kernel_rfl
theorem b0h:Tryz.prog.cellsOf 45=2:=by kernel_rfl
theorem a8i:Tryz.prog.cellsOf 43=1:=by kernel_rfl
theorem a8h:Tryz.prog.cellsOf 4=1:=by kernel_rfl
theorem b0j:Tryz.prog.cellsOf 148=1:=by kernel_rfl
def b8f (q:aI):Prop:=∀ K,1<=K->q.n<=K->q.m<=K->rsz q.x<=K
def c4z {α:Type} (p:α->Prop) (xs:List α):Prop:=∀ x ∈ xs,p x
def good:(t:Ty)->t.den->Prop
 | .bool,_=>True
 | .int k,n=>(Lit.int k n).wf=true
 | .lf .fO,q=>b8f q
 | .lf _,_=>True
 | .list t,xs=>List.length (α:=t.den) xs<=9223372036854775807/\c4z (good t) xs
 | .arr n t,xs=>List.length (α:=t.den) xs=n/\c4z (good t) xs
 | .pair a b,x=>good a x.1/\good b x.2
 | .unit,_=>True
 | .ref _,_=>True
 | .clo _ _,_=>True
 | .nls _,_=>True
noncomputable def dZ:Ty->Option TypeId->List Field->Nat->Bool
 | .pair a b,none,f::fs,o=>f.offset==o&&Tryz.prog.cellsOf f.type==a.n&&dZ a (some f.type) [] 0&&dZ b none fs (o+a.n)
 | .unit,none,[],_=>true
 | .bool,some T,_,_=>match Tryz.prog.underlying T with
  | some .bool=>true
  | _=>false
 | .int k,some T,_,_=>match Tryz.prog.underlying T with
  | some (.int k')=>k==k'
  | _=>false
 | .lf .fO,some T,_,_=>T==47
 | .list t,some T,_,_=>match Tryz.prog.underlying T with
  | some (.slice e)=>Tryz.prog.cellsOf e==t.n&&decide (0<t.n)&&dZ t (some e) [] 0
  | _=>false
 | .arr n t,some T,_,_=>match Tryz.prog.underlying T with
  | some (.array m e)=>m==n&&Tryz.prog.cellsOf e==t.n&&Tryz.prog.cellsOf T==n*t.n&&dZ t (some e) [] 0
  | _=>false
 | .pair a b,some T,_,_=>match Tryz.prog.underlying T with
  | some (.struct fs)=>Tryz.prog.cellsOf T==a.n+b.n&&(match fs.toList with
   | f::fs'=>f.offset==0&&Tryz.prog.cellsOf f.type==a.n&&dZ a (some f.type) [] 0&&dZ b none fs' a.n
   | []=>false)
  | _=>false
 | _,_,_,_=>false
section
variable {H:Type} {enc:TypeId × Value->H} {W:World}
theorem a9S {a:Addr} {v:Value} (h:W.cell? a=some v):a=⟨a.block,a.off,none⟩/\a.block<W.heap.size:=by have h1:=World.cell?_spot h;refine⟨by obtain⟨b,o,s⟩:=a;cases h1;rfl,?_⟩;exact World.block_lt_of_cell? W a h
theorem b8H {n:Nat} {cs:List Value} {y:DataW H × List MemPlace} (h:DataW.trod enc Tryz.prog W 0 (fun _=>true) true n 43 cs=some y):∃ p l c,cs=[.slice p l.length c]/\Rd W (.slice p l.length c) l/\∀ g ∈ l,g<4294967296:=by
 rcases open_ints (k:=.u32) ji Tryz.underlying148 b0j h with⟨rfl,_⟩|⟨a,len,cap,zs,rfl,_,h1,h2,h3,_,h4,h5⟩
 ·exact⟨none,[],0,rfl,.inl ⟨none,rfl,rfl⟩,by simp⟩
 ·simp at h3;by_cases hc:cap=0
  ·have hl:len=0:=by omega
   subst hc hl;exact⟨some a,[],0,rfl,.inl ⟨_,rfl,rfl⟩,by simp⟩
  ·obtain⟨ha,hb⟩:=a9S (h4 0 (by omega));have ha:a=⟨a.block,a.off,none⟩:=by simpa [Addr.add] using ha
   have hb:a.block<W.heap.size:=by simpa [Addr.add] using hb
   have hz:∀ n ∈ zs,0<=n/\n<4294967296:=fun n hn=>by have:=h5 n hn;simp[Lit.wf,IntKind.min,IntKind.max,IntKind.signed,IntKind.bits] at this;omega
   have hL:((zs.take len).map Int.toNat).length=len:=by simp;omega
   refine⟨some a,(zs.take len).map Int.toNat,cap,by rw[hL],.inr ⟨a.block,a.off,cap,by rw[<-ha],by rw[hL];exact h1,by unfold maxLen at h2;omega,hb,fun i hi=>?_⟩,fun g hg=>?_⟩
   ·rw[hL] at hi;have hi':i<zs.length:=by omega
    have hc:=h4 i hi';have hm:zs[i] ∈ zs:=uq hi';have:=hz _ hm;have hg:((gr ((zs.take len).map Int.toNat) i:Nat):Int)=zs.getD i 0:=by
     have e1:gr ((zs.take len).map Int.toNat) i=(zs[i]).toNat:=by simp[gr,List.getD,hi,hi']
     have e2:zs.getD i 0=zs[i]:=by simp[List.getD,hi']
     rw[e1,e2];omega
    rw[hg,<-hc,ha];rw[add_plain]
   ·obtain⟨x,hx,rfl⟩:=jq.1 hg;have:=hz x (Dx hx);omega
theorem c8U {α:Type} {l:List α} (h:l.length=4):∃ a b c d,l=[a,b,c,d]:=by
 match l,h with
 | [a,b,c,d],_=>exact⟨a,b,c,d,rfl⟩
theorem c0G {n:Nat} {cs:List Value} {y:DataW H × List MemPlace} (h:DataW.trod enc Tryz.prog W 0 (fun _=>true) true n 47 cs=some y):∃ x:aI,Lf.rep W cs .fO x/\b8f x:=by
 obtain⟨xs,m,_,_,hl,hlen,hf⟩:=DataW.trod_struct Tryz.underlying47 h;rw[b0i] at hl;obtain⟨c0,c1,c2,c3,rfl⟩:=c8U hl
 match xs,hlen with
 | [y0,y1],_ =>
 have k0:=hf 0 _ rfl;have k1:=hf 1 _ rfl;obtain⟨xs0,m0,_,_,_,hlen0,hf0⟩:=DataW.trod_struct Tryz.underlying45 k0;obtain⟨xs1,m1,_,_,_,hlen1,hf1⟩:=DataW.trod_struct Tryz.underlying45 k1
 match xs0,hlen0,xs1,hlen1 with
 | [z0,z1],_,[z2,z3],_ =>
 have a0:=hf0 0 _ rfl;have a1:=hf0 1 _ rfl;have a2:=hf1 0 _ rfl;have a3:=hf1 1 _ rfl;simp[b0h,a8h,a8i] at a0 a1 a2 a3;obtain⟨b,e0,_⟩:=DataW.trod_bool Tryz.underlying4 a0;obtain⟨d,e2,_⟩:=DataW.trod_bool Tryz.underlying4 a2;simp at e0 e2;subst e0 e2;obtain⟨p,l,c,e1,r1,l1⟩:=b8H a1;obtain⟨q,k,e,e3,r3,l3⟩:=b8H a3;simp at e1 e3;subst e1 e3;have hq:PY W (.agg #[.bool b,.slice p l.length c,.bool d,.slice q k.length e]) _ _:=⟨_,_,_,_,_,_,_,_,rfl,⟨b,_,l,rfl,r1,l1,rfl,rfl⟩,⟨d,_,k,rfl,r3,l3,rfl,rfl⟩,rfl,rfl⟩;exact⟨⟨_,_,l,k⟩,⟨b,p,c,d,q,e,rfl,hq,r1,r3⟩,fun K h1 h2 h3=>hq.a5d ⟨b,p,_,c,d,q,_,e,rfl,h2,h3⟩ h1⟩
theorem a1l {α:Type} {Q:Nat->α->Prop}:∀ n,(∀ i,i<n->∃ x,Q i x)->∃ xs:List α,xs.length=n/\∀ i (h:i<xs.length),Q i xs[i]
 | 0,_=>⟨[],rfl,fun i h=>by simp at h⟩
 | n+1,h=>by
  obtain⟨xs,h1,h2⟩:=a1l n (fun i hi=>h i (by omega));obtain⟨x,hx⟩:=h n (by omega);refine⟨xs++[x],by simp[h1],fun i hi=>?_⟩;by_cases e:i<xs.length
  ·rw[List.getElem_append_left e];exact h2 i e
  ·have:i=n:=by simp at hi;omega
   subst this;rw[List.getElem_append_right (by omega)];simpa using hx
theorem zJ {α:Type} {R:List Value->α->Prop} {b o ce:Nat}:∀ (xs:List α) (k:Nat),(∀ i (h:i<xs.length),∃ c,c.length=ce/\(∀ j v,c[j]?=some v->W.cell? ⟨b,o+((k+i)*ce+j),none⟩=some v)/\R c xs[i])->∃ ds,(∀ j v,ds[j]?=some v->W.cell? ⟨b,o+(k*ce+j),none⟩=some v)/\chunks R ds xs
 | [],k,_=>⟨[],fun j v h=>by simp at h,rfl⟩
 | x::xs,k,h=>by
  obtain⟨c,h1,h2,h3⟩:=h 0 (by simp);obtain⟨ds,h4,h5⟩:=zJ xs (k+1) (fun i hi=>by
   obtain⟨c,h1,h2,h3⟩:=h (i+1) (by simpa using hi);exact⟨c,h1,fun j v hj=>by rw[show k+1+i=k+(i+1) by omega];exact h2 j v hj,h3⟩)
  refine⟨c++ds,fun j v hj=>?_,c,ds,rfl,h3,h5⟩;by_cases e:j<c.length
  ·rw[Ak e] at hj;exact h2 j v hj
  ·rw[List.getElem?_append_right (by omega)] at hj;have:=h4 _ _ hj;rw[Aq,Nat.one_mul] at this;rwa [show k*ce+ce+(j-c.length)=k*ce+j by omega] at this
theorem AB {α:Type} {R:List Value->α->Prop} {ce:Nat}:∀ (xs:List α) (cs:List Value),cs.length=xs.length*ce->(∀ i (h:i<xs.length),R ((cs.drop (i*ce)).take ce) xs[i])->chunks R cs xs
 | [],cs,h,_=>ng (by simpa using h)
 | x::xs,cs,h,hR=>by
  rw[List.length_cons,Aa] at h;refine⟨cs.take ce,cs.drop ce,(yu ce cs).symm,?_,AB (ce:=ce) xs (cs.drop ce) (by rw[Bc];omega) (fun i hi=>?_)⟩
  ·have:=hR 0 (by simp);rwa [Nat.zero_mul,List.drop_zero] at this
  ·have:=hR (i+1) (by simpa using hi);rwa [Aa,Fb,<-Ej] at this
theorem b0k {a:Addr} {n:Nat} {cs:List Value} (h:W.cells? 0 a n=some cs):cs.length=n/\∀ j v,cs[j]?=some v->W.cell? (a.add j)=some v:=by
 unfold World.cells? at h;rw[dn (ru _)] at h;refine⟨by simpa using mapM_some_length h,fun j v hj=>?_⟩;have hl:cs.length=n:=by simpa using mapM_some_length h
 have hjn:j<n:=by rw[<-hl];exact(jy.1 hj).1
 have:=mapM_some_get h j j (by simp[hjn]);rw[hj] at this;exact this
abbrev a4c (W:World) (q:Nat):Prop:=q<W.heap.size
theorem lZ:(t:Ty)->(T:Option TypeId)->(fs:List Field)->(o:Nat)->dZ t T fs o=true->(n:Nat)->(cs:List Value) ->
  (∀ T',T=some T'->(∃ y,DataW.trod enc Tryz.prog W 0 (fun _=>true) true n T' cs=some y)->∃ x:t.den,rep (a4c W) W t cs x/\good t x) /\
  (T=none->cs.length=o+t.n->(∀ f ∈ fs,∃ y,DataW.trod enc Tryz.prog W 0 (fun _=>true) true n f.type ((cs.drop f.offset).take (Tryz.prog.cellsOf f.type))=some y)->∃ x:t.den,rep (a4c W) W t (cs.drop o) x/\good t x)
 | .bool,some T,fs,o,hm,n,cs=>by
  refine⟨fun T' e ⟨y,hy⟩=>?_,fun e=>(by cases e)⟩;cases e;unfold dZ at hm;split at hm<;>first|(cases hm;done)|skip
  rename_i hu;obtain⟨b,rfl,_⟩:=DataW.trod_bool hu hy;exact⟨b,rfl,trivial⟩
 | .int k,some T,fs,o,hm,n,cs=>by
  refine⟨fun T' e ⟨y,hy⟩=>?_,fun e=>(by cases e)⟩;cases e;unfold dZ at hm;split at hm<;>first|(cases hm;done)|skip
  rename_i k' hu;have hk:k=k':=by simpa using hm
  subst hk;obtain⟨b,rfl,_,hw⟩:=DataW.trod_int hu hy;exact⟨b,rfl,hw⟩
 | .lf .fO,some T,fs,o,hm,n,cs=>by
  refine⟨fun T' e ⟨y,hy⟩=>?_,fun e=>(by cases e)⟩;cases e;have hT:T=47:=by unfold dZ at hm;simpa using hm
  subst hT;exact c0G hy
 | .list t,some T,fs,o,hm,n,cs=>by
  refine⟨fun T' e ⟨y,hy⟩=>?_,fun e=>(by cases e)⟩;cases e;unfold dZ at hm;split at hm<;>first|(cases hm;done)|skip
  rename_i e hu;simp only[ay,jo,jc] at hm;obtain⟨⟨hc,hp⟩,hmt⟩:=hm;rcases DataW.trod_slice hu hy with⟨rfl,_⟩|⟨a,len,cap,elems,rest,m,_,rfl,_,_,h1,h2,h3,h4,_,_⟩
  ·exact⟨([]:List t.den),⟨none,0,rfl,aj _,by omega,.inl rfl⟩,by show 0<=_;omega,fun x hx=>by cases hx⟩
  ·rw[hc] at h4;obtain⟨xs,hxl,hxs⟩:=a1l (Q:=fun i (x:t.den)=>(∃ c,c.length=t.n/\(∀ j v,c[j]?=some v->W.cell? ((a.add (i*t.n)).add j)=some v)/\rep (a4c W) W t c x)/\good t x) len (fun i hi=>by
    have h5:=h4 i hi;rw[dw (by omega),Option.bind_eq_some_iff] at h5;obtain⟨c,h6,h7⟩:=h5;obtain⟨x,h8,h9⟩:=(lZ t (some e) [] 0 hmt m c).1 e rfl ⟨_,h7⟩;obtain⟨k1,k2⟩:=b0k h6;exact⟨x,⟨c,k1,k2,h8⟩,h9⟩)
   have hcap:cap<=9223372036854775807:=by unfold maxLen at h2;omega
   refine⟨xs,?_,⟨?_,?_⟩⟩
   ·refine⟨some a,cap,by rw[show List.length (α:=t.den) xs=len from hxl],by rw[show List.length (α:=t.den) xs=len from hxl];exact h1,hcap,?_⟩;by_cases h0:len=0
    ·exact .inl (ng (by rw[hxl,h0]))
    ·right;obtain⟨⟨c,k1,k2,_⟩,_⟩:=hxs 0 (by omega);obtain⟨v,hv⟩:∃ v,c[0]?=some v:=⟨_,dw (by omega)⟩;have hcell:=k2 0 v hv;rw[Nat.zero_mul,show (a.add 0).add 0=a by simp[Addr.add]] at hcell;obtain⟨ha,hb⟩:=a9S hcell;obtain⟨ds,d1,d2⟩:=zJ (W:=W) (R:=rep (a4c W) W t) (b:=a.block) (o:=a.off) (ce:=t.n) xs 0 (fun i hi=>by
      obtain⟨⟨c,k1,k2,k3⟩,_⟩:=hxs i hi;refine⟨c,k1,fun j v hj=>?_,k3⟩;have:=k2 j v hj;rw[ha,add_plain,add_plain] at this;rw[qg,<-Nat.add_assoc];exact this)
     exact⟨a.block,a.off,ds,by rw[<-ha],hb,fun j v hj=>by have:=d1 j v hj;rwa [Nat.zero_mul,qg] at this,d2⟩
   ·show xs.length<=_;omega
   ·intro x hx;obtain⟨i,hi,rfl⟩:=Dn hx;exact(hxs i hi).2
 | .arr k t,some T,fs,o,hm,n,cs=>by
  refine⟨fun T' e ⟨y,hy⟩=>?_,fun e=>(by cases e)⟩;cases e;unfold dZ at hm;split at hm<;>first|(cases hm;done)|skip
  rename_i m e hu;simp only[ay,jo] at hm;obtain⟨⟨⟨hk,hc⟩,hC⟩,hmt⟩:=hm;subst hk;obtain⟨ys,q,_,_,hl,hyl,hys⟩:=DataW.trod_array hu hy;rw[hC] at hl;rw[hc] at hys;obtain⟨xs,hxl,hxs⟩:=a1l (Q:=fun i (x:t.den)=>rep (a4c W) W t ((cs.drop (i*t.n)).take t.n) x/\good t x) m (fun i hi=>by
   have h5:=hys i hi;rw[dw (by omega)] at h5;exact(lZ t (some e) [] 0 hmt q _).1 e rfl ⟨_,h5⟩)
  refine⟨xs,⟨hxl,AB (ce:=t.n) xs cs (by rw[hl,hxl]) (fun i hi=>(hxs i hi).1)⟩,hxl,fun x hx=>?_⟩;obtain⟨i,hi,rfl⟩:=Dn hx;exact(hxs i hi).2
 | .pair a b,some T,fs,o,hm,n,cs=>by
  refine⟨fun T' e ⟨y,hy⟩=>?_,fun e=>(by cases e)⟩;cases e;unfold dZ at hm;split at hm<;>first|(cases hm;done)|skip
  rename_i gs hu;simp only[ay,jo] at hm;obtain⟨hC,hm⟩:=hm;split at hm<;>first|(cases hm;done)|skip
  rename_i f fs' hgs;simp only[ay,jo] at hm;obtain⟨⟨⟨ho,hc⟩,hma⟩,hmb⟩:=hm;obtain⟨ys,q,_,_,hl,hyl,hys⟩:=DataW.trod_struct hu hy;rw[hC] at hl;have hget:∀ (i:Nat) (g:Field),gs[i]?=some g->∃ y,DataW.trod enc Tryz.prog W 0 (fun _=>true) true q g.type ((cs.drop g.offset).take (Tryz.prog.cellsOf g.type))=some y:=fun i g hg=>by have hi:i<gs.size:=(Ah.1 hg).1;have:=hys i g hg;rw[dw (by omega)] at this;exact⟨_,this⟩
  have h0:=hget 0 f (by rw[<-Array.getElem?_toList,hgs];rfl);rw[ho,hc,List.drop_zero] at h0;obtain⟨x,hx,gx⟩:=(lZ a (some f.type) [] 0 hma q _).1 _ rfl h0;obtain⟨z,hz,gz⟩:=(lZ b none fs' a.n hmb q cs).2 rfl hl (fun g hg=>by
   obtain⟨i,hi⟩:=List.getElem?_of_mem hg;exact hget (i+1) g (by rw[<-Array.getElem?_toList,hgs];exact hi))
  exact⟨(x,z),⟨_,_,(yu a.n cs).symm,hx,hz⟩,gx,gz⟩
 | .pair a b,none,[],o,hm,n,cs=>by simp[dZ] at hm
 | .pair a b,none,f::fs',o,hm,n,cs=>by refine⟨fun T' e=>(by cases e),fun _ hl hg=>?_⟩;unfold dZ at hm;simp only[ay,jo] at hm;obtain⟨⟨⟨ho,hc⟩,hma⟩,hmb⟩:=hm;have h0:=hg f (je ..);rw[ho,hc] at h0;obtain⟨x,hx,gx⟩:=(lZ a (some f.type) [] 0 hma n _).1 _ rfl h0;obtain⟨z,hz,gz⟩:=(lZ b none fs' (o+a.n) hmb n cs).2 rfl (by rw[hl];show o+(a.n+b.n)=_;omega) (fun g hg'=>hg g (jd _ hg'));refine⟨(x,z),⟨(cs.drop o).take a.n,cs.drop (o+a.n),?_,hx,hz⟩,gx,gz⟩;rw[<-Ej,yu]
 | .unit,none,[],o,hm,n,cs=>by refine⟨fun T' e=>(by cases e),fun _ hl _=>⟨(),?_,trivial⟩⟩;show cs.drop o=[];exact List.drop_eq_nil_of_le (by rw[hl];exact aj _)
 | .unit,none,_::_,o,hm,n,cs=>by simp[dZ] at hm
 | .unit,some _,_,_,hm,_,_=>by simp[dZ] at hm
 | .bool,none,_,_,hm,_,_=>by simp[dZ] at hm
 | .int _,none,_,_,hm,_,_=>by simp[dZ] at hm
 | .lf .fO,none,_,_,hm,_,_=>by simp[dZ] at hm
 | .lf .rat,_,_,_,hm,_,_=>by simp[dZ] at hm
 | .lf .big,_,_,_,hm,_,_=>by simp[dZ] at hm
 | .lf .IG,_,_,_,hm,_,_=>by simp[dZ] at hm
 | .lf .str,_,_,_,hm,_,_=>by simp[dZ] at hm
 | .list _,none,_,_,hm,_,_=>by simp[dZ] at hm
 | .arr _ _,none,_,_,hm,_,_=>by simp[dZ] at hm
 | .ref _,_,_,_,hm,_,_=>by simp[dZ] at hm
 | .clo _ _,_,_,_,hm,_,_=>by simp[dZ] at hm
 | .nls _,_,_,_,hm,_,_=>by simp[dZ] at hm
theorem a9N {t:Ty} {T:TypeId} {v:Value} {d:DataW H} {p:List MemPlace} {b0:Nat} (hm:dZ t (some T) [] 0=true) (hv:Value.okWide Tryz.prog W .any b0 T v) (h:DataW.Trod enc Tryz.prog W 0 (fun _=>true) true T v d p) :
  ∃ x:t.den,jU (a4c W) W t v x/\good t x:=by
 obtain⟨n,hn⟩:=h;obtain⟨x,hx,gx⟩:=(lZ t (some T) [] 0 hm n v.cells.toList).1 T rfl ⟨_,hn⟩;refine⟨x,⟨v.cells.toList,?_,hx⟩,gx⟩;cases t with
 | bool =>
  unfold dZ at hm;split at hm<;>first|(cases hm;done)|skip
  rename_i hu;simp only[Value.okWide,hu,Cell.okWide,Cell.ok] at hv;split at hv<;>simp_all [Value.cells,Ty.toV,Ty.agg]
 | int k =>
  unfold dZ at hm;split at hm<;>first|(cases hm;done)|skip
  rename_i k' hu;simp only[Value.okWide,hu,Cell.okWide,Cell.ok] at hv;split at hv<;>simp_all [Value.cells,Ty.toV,Ty.agg]
 | lf l =>
  cases l<;>try (simp[dZ] at hm;done)
  have hT:T=47:=by unfold dZ at hm;simpa using hm
  subst hT;simp only[Value.okWide,Tryz.underlying47] at hv;obtain⟨cs,rfl,_⟩:=hv;simp[Ty.toV,Ty.agg,Lf.agg,Value.cells]
 | list t =>
  unfold dZ at hm;split at hm<;>first|(cases hm;done)|skip
  rename_i e hu;simp only[Value.okWide,hu,Cell.okWide,Cell.ok] at hv;split at hv<;>simp_all [Value.cells,Ty.toV,Ty.agg]
 | arr k t =>
  unfold dZ at hm;split at hm<;>first|(cases hm;done)|skip
  rename_i m e hu;simp only[Value.okWide,hu] at hv;obtain⟨cs,rfl,_⟩:=hv;simp[Ty.toV,Ty.agg,Value.cells]
 | pair a b =>
  unfold dZ at hm;split at hm<;>first|(cases hm;done)|skip
  rename_i gs hu;simp only[Value.okWide,hu] at hv;obtain⟨cs,rfl,_⟩:=hv;simp[Ty.toV,Ty.agg,Value.cells]
 | _=>simp[dZ] at hm
end
end
set_option maxRecDepth 100000
set_option maxHeartbeats 4000000
set_option linter.unusedVariables false
set_option linter.unusedSimpArgs false
theorem jF {P:Program} {f:FuncId} {args res:List Ty} {pre:(nest args).den->Prop} {fn fn':(nest args).den->(nest res).den} {d d':∀ x,Dc (pre x)} (h:aJ P f (@Ctr.mk args res pre fn d)) (e:∀ x,pre x->fn x=fn' x):aJ P f (@Ctr.mk args res pre fn' d'):=fun F w vs x a b hp=>by have h2:=h F w vs x a b hp;rw[show (@Ctr.mk args res pre fn d).fn x=fn' x from e x hp] at h2;exact h2
set_option maxHeartbeats 1000000
def FK (x:MR):Mt:=fun i j=>((x.getD i []).getD j bP).x
theorem TF {R C:Nat} {f:Mt} {i j:Nat} (hi:i<R) (hj:j<C):FK (aY R C f) i j=f i j:=by show (((aY R C f).getD i []).getD j bP).x=_;rw[jT hi,iL hj];rfl
def b3h (x:MR) (n:Int):Prop:=x=aY x.length (wdM x) (FK x)/\1<=x.length/\x.length<=1000/\1<=wdM x/\wdM x<=1000/\0<=n/\n.toNat<=wdM x/\UY x.length (wdM x) (FK x) n.toNat
abbrev rdm (x:MR) (j:Nat):Mt:=(red x.length (FK x) j).1
abbrev rdp (x:MR) (j:Nat):List Nat:=(red x.length (FK x) j).2
def kk (x:MR) (j:Nat):Nat:=fk (rdm x j) j (rdp x j).length (x.length-(rdp x j).length)
theorem a9v {R C:Nat} {f:Nat->Nat->Rat} {i j:Nat} (v:Rat) (hi:i<R):(aY R C f).set i (((aY R C f).getD i []).set j (dK v))=aY R C (fun a b=>if a=i/\b=j then v else f a b):=by
 rw[jT hi,map_set];rw[show (fun d=>if d=j then dK v else dK (f i d))=(fun d=>dK (if d=j then v else f i d)) from funext fun d=>by split<;>rfl,VP i];refine iI fun a _ b _=>?_;by_cases e:a=i
 ·subst e;rw[dn rfl];by_cases e2:b=j
  ·rw[dn e2,dn ⟨rfl,e2⟩]
  ·rw[bn e2,bn (by simp[e2])]
 ·rw[bn e,bn (by simp[e])]
theorem a7J {R C r k:Nat} {m:Mt} (hr:r<R) (hk:k<R):List.map (fun t=>(aY R C m).getD t []) (((List.range R).set r k).set k r)=aY R C (fZ m r k):=by
 rw[a1K,List.map_map];unfold aY;refine og fun i hi=>?_;have hi:=oq.mp hi;show (aY R C m).getD (if i=k then r else if i=r then k else i) []=_;have hb:(if i=k then r else if i=r then k else i)<R:=by
  split
  ·exact hr
  ·split
   ·exact hk
   ·exact hi
 rw[jT hb];refine og fun c _=>?_;unfold fZ;by_cases e1:i=k
 ·by_cases e2:i=r
  ·rw[dn e1,dn e2];have:r=k:=by omega
   rw[this]
  ·rw[dn e1,bn e2,dn e1]
 ·by_cases e2:i=r
  ·rw[bn e1,dn e2,dn e2]
  ·rw[bn e1,bn e2,bn e2,bn e1]
theorem a3d (C:Nat) (f:Nat->Rat):List.map (fun x=>aI.x x) ((List.range C).map fun c=>dK (f c))=(List.range C).map f:=by simp[dK]
theorem a3K {C:Nat} {f g:Nat->Rat} {k:Rat} {s:Nat}:pK ((List.range C).map fun c=>dK (f c)) ((List.range C).map g) k s C=(List.range C).map fun c=>dK (if s<=c then f c-k*g c else f c):=by
 unfold pK;rw[show ((List.range C).map fun c=>dK (f c)).length=C by simp];refine og fun c hc=>?_;have hc:=oq.mp hc;rw[iL hc,show lv ((List.range C).map g) c=g c from iL hc];by_cases h:s<=c
 ·rw[dn ⟨h,hc⟩,dn h];rfl
 ·rw[bn (by omega),bn h]
theorem IE {C:Nat} {f:Nat->Rat} {q:aI} (h:q ∈ (List.range C).map fun c=>dK (f c)):∃ c,c<C/\q=dK (f c):=by obtain⟨c,hc,rfl⟩:=jq.mp h;exact⟨c,oq.mp hc,rfl⟩
theorem c0H (x:MR) (n:Int) (hp:b3h x n):let A₀:=(fun(x:Ty.den (Ty.lf Lf.fO))=>aI.x x);(asT Int 0=0/\(True/\asT (List Int) (aC Int)=aC Int)/\x=aY x.length (wdM x) (rdm x 0)/\(asT (List Int) (aC Int)=aC Int/\0=0/\asT Bool true=true)/\True)/\∀ (i:{ j:Nat // j<=Int.toNat n }),let A₂:=(aY x.length (wdM x) (rdm x (aA i)));let aK:=(iH (rdp x (aA i))).length;let aO:=(rdp x (aA i)).length;let bC:=(1 / rdm x (aA i) (kk x (aA i)) (aA i));let bI:=(fZ (rdm x (aA i)) aO (kk x (aA i)));let A₁:=(scl bI aO (aA i) (wdM x) bC);let bH:=(nameAt none (aB aK).toNat);let bU:=(aB (aA i)).toNat;asT Bool true=true/\ifB (decide (aB (aA i)<n)) ((aB aK=aB aO/\aY x.length (wdM x) (rdm x (aA i))=aY x.length (wdM x) (rdm x (aA i))/\iH (rdp x (aA i))=iH (rdp x (aA i))/\True)/\∀ (i_1:{ k:Nat // List.length (rdp x (aA i))<=k/\k<=List.length x/\∀ (i_1:Nat),List.length (rdp x (aA i))<=i_1->i_1<k->rdm x (aA i) i_1 (aA i)=0 }),let jZ:=(aB (aA i_1)<aB (aW none A₂));let dG:=(decide jZ==true);let lM:=(aB (aA i_1)).toNat;let fD:=(nameAt none lM);let gB:=(List.getD (rowAt A₂ fD) bU { ok:=false,x:=0,g:=aC Nat,h:=aC Nat });let fE:=(some (List.set (bW none A₂) (aB aK).toNat fD));let cZ:=(List.set (bW fE A₂) lM bH);let iU:=(rowAt A₂ (nameAt (some cZ) (aB aK).toNat));let fB:=(List.getD iU bU { ok:=false,x:=0,g:=aC Nat,h:=aC Nat });asT Bool true=true/\((dG=true->dG=true/\dG=true/\0<=aB (aA i_1)/\aB (aA i_1)<aB (aW none A₂)/\True)/\(dG=true->dG=true/\Int.toNat (aB (aA i_1))<aW none A₂/\True)/\(dG=true->dG=true/\dG=true/\0<=aB (aA i)/\aB (aA i)<aB (rowAt A₂ fD).length/\True)/\(dG=true->dG=true/\Int.toNat (aB (aA i))<List.length (rowAt A₂ fD)/\True)/\(dG=true->dG=true/\aI.ok gB=true/\rsz (aI.x gB)<=1000000000/\True)/\(dG=true->dG=true/\True)/\(decide jZ=true->dG=true)/\True)/\ifB (bif decide jZ then sgn (Rat.num (aI.x gB))==0 else false) (∃ (i':{ k:Nat // List.length (rdp x (aA i))<=k/\k<=List.length x/\∀ (i_2:Nat),List.length (rdp x (aA i))<=i_2->i_2<k->rdm x (aA i) i_2 (aA i)=0 }),List.length x-aA i'<List.length x-aA i_1/\IntKind.wrap IntKind.i64 (aB (aA i_1)+1)=aB (aA i')/\aY x.length (wdM x) (rdm x (aA i))=aY x.length (wdM x) (rdm x (aA i))/\iH (rdp x (aA i))=iH (rdp x (aA i))/\True) (ifB (aB (aA i_1)==aB (aW none A₂)) (∃ (i':{ j:Nat // j<=Int.toNat n }),Int.toNat n-aA i'<Int.toNat n-aA i/\IntKind.wrap IntKind.i64 (aB (aA i)+1)=aB (aA i')/\aY x.length (wdM x) (rdm x (aA i))=aY x.length (wdM x) (rdm x (aA i'))/\iH (rdp x (aA i))=iH (rdp x (aA i'))/\True) ((0<=aB (aA i_1)/\aB (aA i_1)<aB (aW none A₂)/\Int.toNat (aB (aA i_1))<aW none A₂/\0<=aB aK/\aB aK<aB (aW none A₂)/\Int.toNat (aB aK)<aW none A₂/\0<=aB aK/\aB aK<aB (aW none A₂)/\Int.toNat (aB aK)<aW none A₂/\0<=aB (aA i_1)/\aB (aA i_1)<aB (aW fE A₂)/\Int.toNat (aB (aA i_1))<aW fE A₂/\True)/\(aV 1/\0<=aB aK/\aB aK<aB (aW (some cZ) A₂)/\Int.toNat (aB aK)<aW (some cZ) A₂/\0<=aB (aA i)/\aB (aA i)<aB iU.length/\Int.toNat (aB (aA i))<List.length iU/\aI.ok fB=true/\(rsz (aH 1)<=400000000/\rsz (aI.x fB)<=400000000/\aI.x fB≠0)/\True)/\(aB (aA i)=aB (aA i)/\List.Nodup cZ/\List.map (fun(i_2:Nat)=>List.getD A₂ i_2 (aC aI)) cZ=aY x.length (wdM x) (scl bI aO (aA i) (aA i) bC)/\iH (rdp x (aA i))=iH (rdp x (aA i))/\aH 1 / aI.x fB=1 / rdm x (aA i) (kk x (aA i)) (aA i)/\True)/\∀ (i_2:{ c:Nat // aA i<=c }),let C₁:=(scl bI aO (aA i) (aA i_2) bC);let gQ:=(aY x.length (wdM x) C₁);let oI:=(rowAt gQ bH).length;let C₂:=(aB (aA i_2)).toNat;let oH:=(List.getD (rowAt gQ bH) C₂ { ok:=false,x:=0,g:=aC Nat,h:=aC Nat });asT Bool true=true/\(0<=aB aK/\aB aK<aB (aW none gQ)/\Int.toNat (aB aK)<aW none gQ/\True)/\ifB (decide (aB (aA i_2)<aB oI)) ((0<=aB aK/\aB aK<aB (aW none gQ)/\Int.toNat (aB aK)<aW none gQ/\0<=aB aK/\aB aK<aB (aW none gQ)/\Int.toNat (aB aK)<aW none gQ/\0<=aB (aA i_2)/\aB (aA i_2)<aB oI/\Int.toNat (aB (aA i_2))<List.length (rowAt gQ bH)/\aI.ok oH=true/\s44 bC (aI.x oH)/\0<=aB (aA i_2)/\aB (aA i_2)<aB oI/\Int.toNat (aB (aA i_2))<List.length (rowAt gQ bH)/\True)/\∃ (i':{ c:Nat // aA i<=c }),wdM x-aA i'<wdM x-aA i_2/\IntKind.wrap IntKind.i64 (aB (aA i_2)+1)=aB (aA i')/\List.set gQ bH (List.set (rowAt gQ bH) C₂ (dK (1 / rdm x (aA i) (kk x (aA i)) (aA i)*aI.x oH)))=aY x.length (wdM x) (scl bI aO (aA i) (aA i') bC)/\iH (rdp x (aA i))=iH (rdp x (aA i))/\1 / rdm x (aA i) (kk x (aA i)) (aA i)=1 / rdm x (aA i) (kk x (aA i)) (aA i)/\True) ((asT Int 0=0/\aY x.length (wdM x) C₁=aY x.length (wdM x) (elm A₁ aO (aA i) 0)/\iH (rdp x (aA i))=iH (rdp x (aA i))/\True)/\∀ (i_3:{ i:Nat // i<=List.length x }),let uU:=(elm A₁ aO (aA i) (aA i_3));let C₃:=(aY x.length (wdM x) uU);let zN:=(aB (aA i_3)).toNat;let rW:=(nameAt none zN);let kC:=(rowAt C₃ rW);let nH:=(List.getD kC bU { ok:=false,x:=0,g:=aC Nat,h:=aC Nat });let rX:=(aB (aA i_3) != aB aK);let iE:=(rX==true);asT Bool true=true/\ifB (decide (aB (aA i_3)<aB (aW none gQ))) (((iE=true->iE=true/\iE=true/\0<=aB (aA i_3)/\aB (aA i_3)<aB (aW none C₃)/\True)/\(iE=true->iE=true/\Int.toNat (aB (aA i_3))<aW none C₃/\True)/\(iE=true->iE=true/\iE=true/\0<=aB (aA i)/\aB (aA i)<aB kC.length/\True)/\(iE=true->iE=true/\Int.toNat (aB (aA i))<List.length kC/\True)/\(iE=true->iE=true/\aI.ok nH=true/\rsz (aI.x nH)<=1000000000/\True)/\(iE=true->iE=true/\True)/\(rX=true->iE=true)/\True)/\ifB (bif aB (aA i_3) != aB aK then sgn (Rat.num (aI.x nH)) != 0 else false) ((0<=aB (aA i_3)/\aB (aA i_3)<aB (aW none C₃)/\Int.toNat (aB (aA i_3))<aW none C₃/\0<=aB aK/\aB aK<aB (aW none C₃)/\Int.toNat (aB aK)<aW none C₃/\0<=aB (aA i_3)/\aB (aA i_3)<aB (aW none C₃)/\Int.toNat (aB (aA i_3))<aW none C₃/\0<=aB (aA i)/\aB (aA i)<aB kC.length/\Int.toNat (aB (aA i))<List.length kC/\nameAt none (aB aK).toNat≠nameAt none zN/\fV (fun(x:Ty.den (Ty.lf Lf.fO))=>dH ((aI.ok x=true)::aC Cd)) (rowAt C₃ bH)/\aI.ok nH=true/\((∀ (q:aI),q ∈ rowAt C₃ rW->q=dK (aI.x q))/\List.length kC=List.length (List.map A₀ (rowAt C₃ bH))/\List.length kC<=1000/\0<=aB (aA i)/\(∀ (q:aI),q ∈ rowAt C₃ rW->rsz (aI.x q)<=400000000)/\rsz (aI.x nH)<=100000000/\∀ (q:Rat),q ∈ List.map A₀ (rowAt C₃ bH)->rsz q<=100000000)/\True)/\∃ (i':{ i:Nat // i<=List.length x }),List.length x-aA i'<List.length x-aA i_3/\IntKind.wrap IntKind.i64 (aB (aA i_3)+1)=aB (aA i')/\List.set C₃ rW (pK kC (List.map A₀ (rowAt C₃ bH)) (aI.x nH) bU kC.length)=aY x.length (wdM x) (elm A₁ aO (aA i) (aA i'))/\iH (rdp x (aA i))=iH (rdp x (aA i))/\True) (∃ (i':{ i:Nat // i<=List.length x }),List.length x-aA i'<List.length x-aA i_3/\IntKind.wrap IntKind.i64 (aB (aA i_3)+1)=aB (aA i')/\aY x.length (wdM x) uU=aY x.length (wdM x) (elm A₁ aO (aA i) (aA i'))/\iH (rdp x (aA i))=iH (rdp x (aA i))/\True)) ((List.length (iH (rdp x (aA i)))+List.length (aB (aA i)::aC Int)<=1000000000/\True)/\∃ (i':{ j:Nat // j<=Int.toNat n }),Int.toNat n-aA i'<Int.toNat n-aA i/\IntKind.wrap IntKind.i64 (aB (aA i)+1)=aB (aA i')/\aY x.length (wdM x) uU=aY x.length (wdM x) (rdm x (aA i'))/\iH (rdp x (aA i))++aB (aA i)::aC Int=iH (rdp x (aA i'))/\True))))) (True/\iH (rdp x (aA i))=iH (rdp x n.toNat)/\aY x.length (wdM x) (rdm x n.toNat)=aY x.length (wdM x) (rdm x (aA i))):=by
 obtain⟨hx,r1,r2,c1,c2,n0,n1,hok⟩:=hp;have hZ:(⟨false,0,[],[]⟩:aI)=bP:=rfl;dsimp only[aB,asT,aA,aC,Ty.den,Lf.den] at *
 simp only[hZ,Int.toNat_natCast,gZ,jc,jv,Dt,Cb,aW,nameAt,bW,gW,rowAt,UA,qp,jr];refine⟨hx,fun i=>⟨fun h1 k=>?_,fun h1=>?_⟩⟩
 ·have hj:i.1<n.toNat:=by omega
  have hjC:i.1<wdM x:=by omega
  have E:=wL x.length (FK x) i.1;have hle:=E.le;have zm:∀ a,a<x.length->∀ c,c<wdM x->rsz (rdm x i.1 a c)<=10000000:=hok i.1 (by omega);have zn:∀ a,a<x.length->∀ c,c<wdM x->rsz (rdm x (i.1+1) a c)<=10000000:=hok (i.1+1) (by omega);obtain⟨hk1,hk2,hk0⟩:=k.2;have hw:∀ q:Nat,(q:Int)<=1000->IntKind.wrap .i64 ((q:Int)+1)=((q+1:Nat):Int):=fun q hq=>by rw[aG (by omega) (by omega)];rfl
  by_cases hkR:k.1<x.length
  ·have d1:decide ((k.1:Int)<(x.length:Int))=true:=jg (by omega);simp only[d1,jT hkR,iL hjC,ny,jr,cond_true,beq_self_eq_true,true_implies,Dt,Cb];have hz:=zm k.1 hkR i.1 hjC;have hPR:(rdp x i.1).length<x.length:=by omega
   refine⟨⟨⟨by omega,by omega⟩,hkR,⟨by omega,by omega⟩,hjC,⟨rfl,by show rsz (rdm x i.1 k.1 i.1)<=_;omega⟩,fun _=>trivial⟩,fun h=>⟨⟨k.1+1,by omega,by omega,fun a h1 h2=>?_⟩,by simp only;omega,hw _ (by omega)⟩,fun h=>⟨fun h2=>?_,fun h2=>?_⟩⟩
   ·by_cases e:a=k.1
    ·have h:(sgn (rdm x i.1 k.1 i.1).num==0)=true:=h;rw[e];exact uO.mp (by simpa using h)
    ·exact hk0 a h1 (by omega)
   ·have:(k.1:Int)=x.length:=by simpa using h2
    omega
   ·have hne:rdm x i.1 k.1 i.1≠0:=fun e=>by have h:(sgn (rdm x i.1 k.1 i.1).num==0)=false:=h;rw[uO.mpr e] at h;cases h
    have hkk:kk x i.1=k.1:=a6k _ _ _ _ _ hk1 (by omega) hk0 (fun _=>hne);have hst:red x.length (FK x) (i.1+1)=(mF (rdm x i.1) (rdp x i.1).length k.1 i.1,rdp x i.1++[i.1]):=b3k hkk (by omega);have hS:∀ a,a<x.length->∀ d,d<wdM x->elm (scl (fZ (rdm x i.1) (rdp x i.1).length k.1) (rdp x i.1).length i.1 (wdM x) (1 / rdm x i.1 k.1 i.1)) (rdp x i.1).length i.1 x.length a d=mF (rdm x i.1) (rdp x i.1).length k.1 i.1 a d:=b7s hne hk1 hkR E.rest;have e1:rdm x (i.1+1)=mF (rdm x i.1) (rdp x i.1).length k.1 i.1:=qw Prod.fst hst;have e2:rdp x (i.1+1)=rdp x i.1++[i.1]:=qw Prod.snd hst;rw[e1] at zn;rw[hkk];have hr:=hPR;generalize hP:(rdp x i.1).length=r at *
    generalize hM:rdm x i.1=m at *
    have hsr:∀ d,fZ m r k.1 r d=m k.1 d:=fun d=>by unfold fZ;rw[dn rfl]
    have zs:∀ a,a<x.length->∀ d,d<wdM x->rsz (fZ m r k.1 a d)<=10000000:=fun a ha d hd=>by
     unfold fZ;split
     ·exact zm _ hkR d hd
     ·split
      ·exact zm _ hr d hd
      ·exact zm _ ha d hd
    simp only[swp_get hr,jT hkR,iL hjC,ny,jr];have z1:rsz ((1:Int):Rat)=1:=by decide +kernel
    have zi:rsz (1 / m k.1 i.1)<=10000001:=by
     have:=EW 1 (m k.1 i.1) hne;have z2:rsz 1=1:=by decide +kernel
     omega
    refine⟨⟨by omega,by omega,by omega,by omega,by omega,by omega,by omega,by omega,by omega,by omega,by omega,by omega⟩,⟨⟨by omega,by omega⟩,by omega,by omega,by omega,by omega,by omega,hjC,rfl,by show rsz ((1:Int):Rat)<=_;omega,by show rsz (m k.1 i.1)<=_;omega,hne⟩,⟨b4a _ hr hkR,by rw[a7J hr hkR,b3E],rfl⟩,fun c=>⟨⟨by omega,by omega,by omega⟩,fun h3=>?_,fun h3=>?_⟩⟩
    ·rw[jT hr] at h3 ⊢;simp only[ny,jr] at h3 ⊢;have hc:c.1<wdM x:=by omega
     rw[iL hc,c4a _ _ (aj _),hsr];have z3:=zm k.1 hkR c.1 hc;refine⟨⟨by omega,by omega,by omega,by omega,by omega,by omega,by omega,by omega,hc,rfl,⟨by omega,by show rsz (m k.1 c.1)<=_;omega⟩,by omega,by omega,hc⟩,⟨c.1+1,by have:=c.2;omega⟩,by simp only;omega,hw _ (by omega),?_⟩;rw[<-jT (f:=scl (fZ m r k.1) r i.1 c.1 (1 / m k.1 i.1)) hr];refine(a9v _ hr).trans (iI fun a _ b _=>?_);rw[b3D _ c.2];show _=if a=r then (if b=c.1 then _ else _) else _
     by_cases ea:a=r
     ·subst ea;rw[dn rfl];by_cases eb:b=c.1
      ·rw[dn ⟨rfl,eb⟩,dn eb,hsr];rfl
      ·rw[bn (by simp[eb]),bn eb]
     ·rw[bn (by simp[ea]),bn ea]
    ·rw[jT hr] at h3;simp only[ny,jr] at h3;have hc:wdM x<=c.1:=by omega
     refine⟨?_,fun a=>⟨fun h4=>?_,fun h4=>?_⟩⟩
     ·rw[b0Q];refine iI fun b _ d hd=>?_;unfold scl;by_cases e:b=r/\i.1<=d
      ·rw[dn ⟨e.1,e.2,by omega⟩,dn ⟨e.1,e.2,hd⟩]
      ·rw[bn (by omega),bn (by omega)]
     ·have ha:a.1<x.length:=by omega
      generalize hN:scl (fZ m r k.1) r i.1 (wdM x) (1 / m k.1 i.1)=s at *
      have hrs:∀ d,d<wdM x->rsz (s r d)<=10000000:=fun d hd=>by have:=zn r hr d hd;rw[<-hS r hr d hd,a2r] at this;exact this
      have hos:∀ b,b<x.length->b≠r->∀ d,d<wdM x->rsz (s b d)<=10000000:=fun b hb hbr d hd=>by rw[<-hN];unfold scl;rw[bn (by simp[hbr])];exact zs b hb d hd
      have has:∀ b,b<x.length->∀ d,d<wdM x->rsz (s b d)<=10000000:=fun b hb d hd=>by
       by_cases e:b=r
       ·rw[e];exact hrs d hd
       ·exact hos b hb e d hd
      simp only[jT ha,jT hr,iL hjC,ny,jr,a3d];simp only[b9s s (aj a.1),a2r];have z4:=has a.1 ha i.1 hjC;refine⟨?_,fun h5=>?_,fun h5=>?_⟩
      ·refine⟨fun h=>⟨h,h,by omega,by omega⟩,fun h=>⟨h,ha⟩,fun h=>⟨h,h,by omega,by omega⟩,fun h=>⟨h,hjC⟩,fun h=>⟨h,rfl,by show rsz (s a.1 i.1)<=_;omega⟩,fun h=>h,fun h=>by rw[h];rfl⟩
      ·have har:a.1≠r:=fun e=>by rw[e,show (((r:Nat):Int) != (r:Int))=false by simp] at h5;cases h5
       refine⟨⟨by omega,by omega,ha,by omega,by omega,hr,by omega,by omega,ha,by omega,by omega,hjC,fun e=>har e.symm,iW.mpr fun q hq=>?_,rfl,fun q hq=>?_,trivial,by omega,by omega,fun q hq=>?_,by show rsz (s a.1 i.1)<=_;omega,fun q hq=>?_⟩,⟨a.1+1,by omega⟩,by simp only;omega,hw _ (by omega),?_⟩
       ·obtain⟨c,hc,rfl⟩:=IE hq;exact⟨rfl,trivial⟩
       ·obtain⟨c,hc,rfl⟩:=IE hq;rfl
       ·obtain⟨c,hc,rfl⟩:=IE hq;have:=has a.1 ha c hc;show rsz (s a.1 c)<=_;omega
       ·obtain⟨c,hc,rfl⟩:=jq.mp hq;have:=hrs c (oq.mp hc);show rsz (elm s r i.1 a.1 r c)<=_;rw[a2r];omega
       ·rw[a3K,VP a.1];refine iI fun b _ d _=>?_;rw[b0P s har];simp only[a2r];by_cases eb:b=a.1
        ·simp only[dn eb];rfl
        ·simp only[bn eb]
      ·refine⟨⟨a.1+1,by omega⟩,by simp only;omega,hw _ (by omega),?_⟩;rw[b0O s];by_cases e:a.1=r
       ·exact .inl e
       ·right;rw[show ((a.1:Int) != (r:Int))=true from Eu.mpr (fun h=>e (by omega))] at h5;have h5:(sgn (s a.1 i.1).num != 0)=false:=h5;exact uO.mp (by simpa using h5)
     ·have ha:a.1=x.length:=by have:=a.2;omega
      have hl:=(a1x x.length (FK x) i.1).1;refine⟨by simp;omega,⟨i.1+1,by omega⟩,by simp only;omega,hw _ (by omega),?_,?_⟩
      ·rw[ha];show _=aY _ _ (rdm x (i.1+1));rw[e1];exact iI fun b hb d hd=>hS b hb d hd
      ·show _=iH (rdp x (i.1+1));rw[e2];simp[iH]
  ·have d1:decide ((k.1:Int)<(x.length:Int))=false:=iy (by omega);have hkl:k.1=x.length:=by omega
   have hkk:kk x i.1=x.length:=by rw[<-hkl];exact a6k _ _ _ _ _ hk1 (by omega) hk0 (fun h=>by omega)
   have hst:red x.length (FK x) (i.1+1)=red x.length (FK x) i.1:=b3j hkk;simp only[d1,cond_false];refine⟨⟨fun h=>(by cases h),fun h=>(by cases h),fun h=>(by cases h),fun h=>(by cases h),fun h=>(by cases h),fun h=>(by cases h),fun h=>absurd h (by omega)⟩,fun h=>(by cases h),fun _=>⟨fun _=>⟨⟨i.1+1,by omega⟩,by simp only;omega,hw _ (by omega),?_,?_⟩,fun h=>?_⟩⟩
   ·show _=aY _ _ (red x.length (FK x) (i.1+1)).1;rw[hst]
   ·show _=iH (red x.length (FK x) (i.1+1)).2;rw[hst]
   ·rw[hkl] at h;simp at h
 ·have:i.1=n.toNat:=by have:=i.2;omega
  rw[this];exact⟨rfl,rfl⟩
noncomputable def c8W:lK:=.chg LKm [tI] [.list tI] (fun x y=>b3h x y.1) (fun x y=>aY (show MR from x).length (wdM (show MR from x)) (rdm x (show Int from y.1).toNat)) (fun x y=>(iH (rdp x (show Int from y.1).toNat),()))
abbrev rz (x:MR) (j:Nat) (m:Mt):Rho:=[(0,.mat 39 47 tR none (aY x.length (wdM x) m) 0),(128,.row 3 tI (iH (rdp x j)) 0)]
theorem c6D:NOk Tryz.prog 236 c8W:=by
 refine a6M (((((nil0.ad oG).ad rM).ad tY).ad a3x).an b8P) ⟨[9],[],[]⟩ Tryz.func236 rfl (by decide) (fun x y=>[.inv {j:Nat // j<=(show Int from y.1).toNat} (fun j=>[(13,.val tI (j.1:Int)),(5,.own 128 0)]++[(6,.any),(7,.any),(8,.any),(9,.any),(10,.any),(11,.any),(14,.any),(15,.any),(16,.any),(17,.any),(18,.any),(19,.any),(20,.any),(21,.any),(22,.any),(23,.any),(24,.any),(25,.any),(26,.any),(27,.any),(28,.any),(29,.any),(30,.any),(31,.any),(32,.any),(33,.any),(34,.any),(35,.any),(36,.any),(37,.any),(38,.any),(39,.any),(40,.any),(41,.any),(42,.any),(43,.any),(44,.any),(45,.any),(46,.any),(47,.any),(48,.any),(49,.any),(50,.any),(51,.any),(52,.any),(53,.any),(54,.any),(55,.any),(56,.any),(57,.any),(58,.any),(59,.any),(60,.any),(61,.any),(62,.any),(63,.any),(64,.any),(65,.any),(66,.any),(67,.any),(68,.any),(69,.any),(70,.any),(71,.any),(72,.any),(73,.any),(74,.any),(75,.any),(76,.any),(77,.any),(78,.any),(79,.any),(80,.any),(81,.any),(82,.any),(83,.any),(84,.any),(85,.any),(86,.any),(87,.any),(88,.any),(89,.any),(90,.any),(91,.any),(92,.any),(93,.any),(94,.any),(95,.any),(96,.any),(97,.any),(98,.any),(99,.any),(100,.any),(101,.any),(102,.any),(103,.any),(104,.any),(105,.any),(106,.any),(107,.any),(108,.any),(109,.any),(110,.any),(111,.any),(112,.any),(113,.any),(114,.any),(115,.any),(116,.any),(117,.any),(118,.any),(119,.any),(120,.any),(121,.any),(122,.any),(123,.any),(124,.any),(125,.any),(126,.any),(127,.any),(128,.any),(129,.any)]) (fun j=>rz x j.1 (rdm x j.1)) (fun j=>(show Int from y.1).toNat-j.1) ⟨0,by omega⟩ (fun j=>[
  .inv {k:Nat // (rdp x j.1).length<=k/\k<=(show MR from x).length/\∀ i,(rdp x j.1).length<=i->i<k->rdm x j.1 i j.1=0} (fun k=>[(8,.val tI (k.1:Int))]) (fun k=>rz x j.1 (rdm x j.1)) (fun k=>(show MR from x).length-k.1) ⟨(rdp x j.1).length,aj _,(wL _ _ _).le,fun i h1 h2=>absurd h2 (by omega)⟩ (fun _=>[]),
  .inv {c:Nat // j.1<=c} (fun c=>[(10,.val tI (c.1:Int))]++[(19,.any),(20,.any),(21,.any),(22,.any),(23,.any),(24,.any),(25,.any),(26,.any),(27,.any),(28,.any),(29,.any),(30,.any),(31,.any),(32,.any),(33,.any),(34,.any),(35,.any),(36,.any),(37,.any),(38,.any),(39,.any),(40,.any),(41,.any),(42,.any),(43,.any),(44,.any),(45,.any),(46,.any),(47,.any),(48,.any),(49,.any),(50,.any),(51,.any),(52,.any),(53,.any),(54,.any),(55,.any),(56,.any),(57,.any),(58,.any),(59,.any),(60,.any),(61,.any),(62,.any)]) (fun c=>rz x j.1 (scl (fZ (rdm x j.1) (rdp x j.1).length (kk x j.1)) (rdp x j.1).length j.1 c.1 (1 / rdm x j.1 (kk x j.1) j.1))++[(9,.box [⟨tQ,1 / rdm x j.1 (kk x j.1) j.1⟩])]) (fun c=>wdM (show MR from x)-c.1) ⟨j.1,aj _⟩ (fun _=>[]),
  .inv {i:Nat // i<=(show MR from x).length} (fun i=>[(90,.val tI (i.1:Int))]++[(64,.any),(65,.any),(66,.any),(67,.any),(68,.any),(69,.any),(70,.any),(71,.any),(72,.any),(73,.any),(74,.any),(75,.any),(76,.any),(77,.any),(78,.any),(79,.any),(80,.any),(81,.any),(82,.any),(83,.any),(84,.any),(85,.any),(86,.any),(87,.any)]) (fun i=>rz x j.1 (elm (scl (fZ (rdm x j.1) (rdp x j.1).length (kk x j.1)) (rdp x j.1).length j.1 (wdM x) (1 / rdm x j.1 (kk x j.1) j.1)) (rdp x j.1).length j.1 i.1)) (fun i=>(show MR from x).length-i.1) ⟨0,by omega⟩ (fun _=>[])])]) (fun x y hp=>?_)
 obtain⟨n,u⟩:=y;change Int at n;change List (List aI) at x;refine aP (let A₀:=(fun(x:Ty.den (Ty.lf Lf.fO))=>aI.x x);(asT Int 0=0/\(True/\asT (List Int) (aC Int)=aC Int)/\x=aY x.length (wdM x) (rdm x 0)/\(asT (List Int) (aC Int)=aC Int/\0=0/\asT Bool true=true)/\True)/\∀ (i:{ j:Nat // j<=Int.toNat n }),let A₂:=(aY x.length (wdM x) (rdm x (aA i)));let aK:=(iH (rdp x (aA i))).length;let aO:=(rdp x (aA i)).length;let bC:=(1 / rdm x (aA i) (kk x (aA i)) (aA i));let bI:=(fZ (rdm x (aA i)) aO (kk x (aA i)));let A₁:=(scl bI aO (aA i) (wdM x) bC);let bH:=(nameAt none (aB aK).toNat);let bU:=(aB (aA i)).toNat;asT Bool true=true/\ifB (decide (aB (aA i)<n)) ((aB aK=aB aO/\aY x.length (wdM x) (rdm x (aA i))=aY x.length (wdM x) (rdm x (aA i))/\iH (rdp x (aA i))=iH (rdp x (aA i))/\True)/\∀ (i_1:{ k:Nat // List.length (rdp x (aA i))<=k/\k<=List.length x/\∀ (i_1:Nat),List.length (rdp x (aA i))<=i_1->i_1<k->rdm x (aA i) i_1 (aA i)=0 }),let jZ:=(aB (aA i_1)<aB (aW none A₂));let dG:=(decide jZ==true);let lM:=(aB (aA i_1)).toNat;let fD:=(nameAt none lM);let gB:=(List.getD (rowAt A₂ fD) bU { ok:=false,x:=0,g:=aC Nat,h:=aC Nat });let fE:=(some (List.set (bW none A₂) (aB aK).toNat fD));let cZ:=(List.set (bW fE A₂) lM bH);let iU:=(rowAt A₂ (nameAt (some cZ) (aB aK).toNat));let fB:=(List.getD iU bU { ok:=false,x:=0,g:=aC Nat,h:=aC Nat });asT Bool true=true/\((dG=true->dG=true/\dG=true/\0<=aB (aA i_1)/\aB (aA i_1)<aB (aW none A₂)/\True)/\(dG=true->dG=true/\Int.toNat (aB (aA i_1))<aW none A₂/\True)/\(dG=true->dG=true/\dG=true/\0<=aB (aA i)/\aB (aA i)<aB (rowAt A₂ fD).length/\True)/\(dG=true->dG=true/\Int.toNat (aB (aA i))<List.length (rowAt A₂ fD)/\True)/\(dG=true->dG=true/\aI.ok gB=true/\rsz (aI.x gB)<=1000000000/\True)/\(dG=true->dG=true/\True)/\(decide jZ=true->dG=true)/\True)/\ifB (bif decide jZ then sgn (Rat.num (aI.x gB))==0 else false) (∃ (i':{ k:Nat // List.length (rdp x (aA i))<=k/\k<=List.length x/\∀ (i_2:Nat),List.length (rdp x (aA i))<=i_2->i_2<k->rdm x (aA i) i_2 (aA i)=0 }),List.length x-aA i'<List.length x-aA i_1/\IntKind.wrap IntKind.i64 (aB (aA i_1)+1)=aB (aA i')/\aY x.length (wdM x) (rdm x (aA i))=aY x.length (wdM x) (rdm x (aA i))/\iH (rdp x (aA i))=iH (rdp x (aA i))/\True) (ifB (aB (aA i_1)==aB (aW none A₂)) (∃ (i':{ j:Nat // j<=Int.toNat n }),Int.toNat n-aA i'<Int.toNat n-aA i/\IntKind.wrap IntKind.i64 (aB (aA i)+1)=aB (aA i')/\aY x.length (wdM x) (rdm x (aA i))=aY x.length (wdM x) (rdm x (aA i'))/\iH (rdp x (aA i))=iH (rdp x (aA i'))/\True) ((0<=aB (aA i_1)/\aB (aA i_1)<aB (aW none A₂)/\Int.toNat (aB (aA i_1))<aW none A₂/\0<=aB aK/\aB aK<aB (aW none A₂)/\Int.toNat (aB aK)<aW none A₂/\0<=aB aK/\aB aK<aB (aW none A₂)/\Int.toNat (aB aK)<aW none A₂/\0<=aB (aA i_1)/\aB (aA i_1)<aB (aW fE A₂)/\Int.toNat (aB (aA i_1))<aW fE A₂/\True)/\(aV 1/\0<=aB aK/\aB aK<aB (aW (some cZ) A₂)/\Int.toNat (aB aK)<aW (some cZ) A₂/\0<=aB (aA i)/\aB (aA i)<aB iU.length/\Int.toNat (aB (aA i))<List.length iU/\aI.ok fB=true/\(rsz (aH 1)<=400000000/\rsz (aI.x fB)<=400000000/\aI.x fB≠0)/\True)/\(aB (aA i)=aB (aA i)/\List.Nodup cZ/\List.map (fun(i_2:Nat)=>List.getD A₂ i_2 (aC aI)) cZ=aY x.length (wdM x) (scl bI aO (aA i) (aA i) bC)/\iH (rdp x (aA i))=iH (rdp x (aA i))/\aH 1 / aI.x fB=1 / rdm x (aA i) (kk x (aA i)) (aA i)/\True)/\∀ (i_2:{ c:Nat // aA i<=c }),let C₁:=(scl bI aO (aA i) (aA i_2) bC);let gQ:=(aY x.length (wdM x) C₁);let oI:=(rowAt gQ bH).length;let C₂:=(aB (aA i_2)).toNat;let oH:=(List.getD (rowAt gQ bH) C₂ { ok:=false,x:=0,g:=aC Nat,h:=aC Nat });asT Bool true=true/\(0<=aB aK/\aB aK<aB (aW none gQ)/\Int.toNat (aB aK)<aW none gQ/\True)/\ifB (decide (aB (aA i_2)<aB oI)) ((0<=aB aK/\aB aK<aB (aW none gQ)/\Int.toNat (aB aK)<aW none gQ/\0<=aB aK/\aB aK<aB (aW none gQ)/\Int.toNat (aB aK)<aW none gQ/\0<=aB (aA i_2)/\aB (aA i_2)<aB oI/\Int.toNat (aB (aA i_2))<List.length (rowAt gQ bH)/\aI.ok oH=true/\s44 bC (aI.x oH)/\0<=aB (aA i_2)/\aB (aA i_2)<aB oI/\Int.toNat (aB (aA i_2))<List.length (rowAt gQ bH)/\True)/\∃ (i':{ c:Nat // aA i<=c }),wdM x-aA i'<wdM x-aA i_2/\IntKind.wrap IntKind.i64 (aB (aA i_2)+1)=aB (aA i')/\List.set gQ bH (List.set (rowAt gQ bH) C₂ (dK (1 / rdm x (aA i) (kk x (aA i)) (aA i)*aI.x oH)))=aY x.length (wdM x) (scl bI aO (aA i) (aA i') bC)/\iH (rdp x (aA i))=iH (rdp x (aA i))/\1 / rdm x (aA i) (kk x (aA i)) (aA i)=1 / rdm x (aA i) (kk x (aA i)) (aA i)/\True) ((asT Int 0=0/\aY x.length (wdM x) C₁=aY x.length (wdM x) (elm A₁ aO (aA i) 0)/\iH (rdp x (aA i))=iH (rdp x (aA i))/\True)/\∀ (i_3:{ i:Nat // i<=List.length x }),let uU:=(elm A₁ aO (aA i) (aA i_3));let C₃:=(aY x.length (wdM x) uU);let zN:=(aB (aA i_3)).toNat;let rW:=(nameAt none zN);let kC:=(rowAt C₃ rW);let nH:=(List.getD kC bU { ok:=false,x:=0,g:=aC Nat,h:=aC Nat });let rX:=(aB (aA i_3) != aB aK);let iE:=(rX==true);asT Bool true=true/\ifB (decide (aB (aA i_3)<aB (aW none gQ))) (((iE=true->iE=true/\iE=true/\0<=aB (aA i_3)/\aB (aA i_3)<aB (aW none C₃)/\True)/\(iE=true->iE=true/\Int.toNat (aB (aA i_3))<aW none C₃/\True)/\(iE=true->iE=true/\iE=true/\0<=aB (aA i)/\aB (aA i)<aB kC.length/\True)/\(iE=true->iE=true/\Int.toNat (aB (aA i))<List.length kC/\True)/\(iE=true->iE=true/\aI.ok nH=true/\rsz (aI.x nH)<=1000000000/\True)/\(iE=true->iE=true/\True)/\(rX=true->iE=true)/\True)/\ifB (bif aB (aA i_3) != aB aK then sgn (Rat.num (aI.x nH)) != 0 else false) ((0<=aB (aA i_3)/\aB (aA i_3)<aB (aW none C₃)/\Int.toNat (aB (aA i_3))<aW none C₃/\0<=aB aK/\aB aK<aB (aW none C₃)/\Int.toNat (aB aK)<aW none C₃/\0<=aB (aA i_3)/\aB (aA i_3)<aB (aW none C₃)/\Int.toNat (aB (aA i_3))<aW none C₃/\0<=aB (aA i)/\aB (aA i)<aB kC.length/\Int.toNat (aB (aA i))<List.length kC/\nameAt none (aB aK).toNat≠nameAt none zN/\fV (fun(x:Ty.den (Ty.lf Lf.fO))=>dH ((aI.ok x=true)::aC Cd)) (rowAt C₃ bH)/\aI.ok nH=true/\((∀ (q:aI),q ∈ rowAt C₃ rW->q=dK (aI.x q))/\List.length kC=List.length (List.map A₀ (rowAt C₃ bH))/\List.length kC<=1000/\0<=aB (aA i)/\(∀ (q:aI),q ∈ rowAt C₃ rW->rsz (aI.x q)<=400000000)/\rsz (aI.x nH)<=100000000/\∀ (q:Rat),q ∈ List.map A₀ (rowAt C₃ bH)->rsz q<=100000000)/\True)/\∃ (i':{ i:Nat // i<=List.length x }),List.length x-aA i'<List.length x-aA i_3/\IntKind.wrap IntKind.i64 (aB (aA i_3)+1)=aB (aA i')/\List.set C₃ rW (pK kC (List.map A₀ (rowAt C₃ bH)) (aI.x nH) bU kC.length)=aY x.length (wdM x) (elm A₁ aO (aA i) (aA i'))/\iH (rdp x (aA i))=iH (rdp x (aA i))/\True) (∃ (i':{ i:Nat // i<=List.length x }),List.length x-aA i'<List.length x-aA i_3/\IntKind.wrap IntKind.i64 (aB (aA i_3)+1)=aB (aA i')/\aY x.length (wdM x) uU=aY x.length (wdM x) (elm A₁ aO (aA i) (aA i'))/\iH (rdp x (aA i))=iH (rdp x (aA i))/\True)) ((List.length (iH (rdp x (aA i)))+List.length (aB (aA i)::aC Int)<=1000000000/\True)/\∃ (i':{ j:Nat // j<=Int.toNat n }),Int.toNat n-aA i'<Int.toNat n-aA i/\IntKind.wrap IntKind.i64 (aB (aA i)+1)=aB (aA i')/\aY x.length (wdM x) uU=aY x.length (wdM x) (rdm x (aA i'))/\iH (rdp x (aA i))++aB (aA i)::aC Int=iH (rdp x (aA i'))/\True))))) (True/\iH (rdp x (aA i))=iH (rdp x n.toNat)/\aY x.length (wdM x) (rdm x n.toNat)=aY x.length (wdM x) (rdm x (aA i)))) (by kernel_rfl) ?_;exact c0H x n hp
end Go.Proofs.YtbkocjmmbkifjaaGreat
