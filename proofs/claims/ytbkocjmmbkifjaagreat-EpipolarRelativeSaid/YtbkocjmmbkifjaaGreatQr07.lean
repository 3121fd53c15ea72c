/-
  Lemmas for the theorem vrelative28_holds, part 7 of 35.
-/
import Derived.Test.YtbkocjmmbkifjaaGreatQr06
namespace Go.Proofs.YtbkocjmmbkifjaaGreat
open Go Go.RowKit
theorem jd:type_of% @List.mem_cons_of_mem:=@List.mem_cons_of_mem
theorem yw:type_of% @List.map_cons:=@List.map_cons
theorem jr:type_of% @List.length_range:=@List.length_range
set_option linter.unusedSimpArgs false
set_option linter.unusedVariables false
def iP (F:Nat->Prop) (w:World) (c:List Value) (p:Part):Prop:=rep F w p.t c p.x/\p.t.still=true
def Env.has (E:Env) (r:Nat):Nat->Nat->Prop
 | 0,q=>E.blk r=some q
 | i+1,q=>bK (E.inn r i)=some q
theorem sW {w:World} {E:Env} {q:Nat} (h:fz w E q) (r j:Nat):¬ E.has r j q:=by
 cases j with
 | zero=>exact h.2.1 r
 | succ i=>exact h.2.2 r i
theorem sH {w:World} {E:Env} {q:Nat} (h1:q<w.heap.size) (h2:E.base q) (h3:∀ r j,¬ E.has r j q):fz w E q:=⟨⟨h1,h2⟩,fun r=>h3 r 0,fun r i=>h3 r (i+1)⟩
def bW {α:Type} (ids:Option (List Nat)) (xss:List α):List Nat:=match ids with
 | some l=>l
 | none=>List.range xss.length
def K.one:K->Bool
 | .val t _=>!t.agg&&t.still&&decide (t.n=1)
 | .nil=>true
 | .ptr _ _=>true
 | .own _ _=>true
 | _=>false
def nnS (v:Nat) (s:Value):Prop:=v%2=1->s≠.slice none 0 0
theorem a6Q (v:Nat) (s:Value):nnS (nx v) s:=fun h=>by unfold nx at h;omega
theorem b2D {v:Nat} {s:Value} (h:nnS v s):nnS (nxf v) s:=fun e=>h (by unfold nxf nx at e;omega)
theorem a3k (s:Value):nnS 0 s:=fun h=>by omega
def nD (E:Env) (w:World) (r:Nat):Res->Prop
 | .none=>E.blk r=none
 | .gone=>E.blk r=none
 | .box ps=>∃ b cs e,E.blk r=some b/\w.heap[b]?=some (.cells cs.toArray e (0,0))/\chunks (iP (fz w E) w) cs ps
 | .row e t xs v=>E.blk r=bK (E.sl r)/\t.still=true/\∃ cs,w.ownsRow 0 e t.n (E.sl r) xs.length cs/\chunks (rep (fz w E) w t) cs xs/\CAv dB w (E.sl r)/\nnS v (E.sl r)
 | .fro t xs _=>E.blk r=none/\jU (fz w E) w (.list t) (E.sl r) xs
 | .mat e e2 t ids xss _=>E.blk r=bK (E.sl r)/\t.still=true/\(∃ cs,w.ownsRow 0 e 1 (E.sl r) (bW ids xss).length cs/\cs=(bW ids xss).map (E.inn r)/\CAv dB w (E.sl r))/\(∀ i ∈ bW ids xss,i<xss.length)/\(∀ i,xss.length<=i->bK (E.inn r i)=none) /\
  ∀ i xs,xss[i]?=some xs->∃ cs,w.ownsRow 0 e2 t.n (E.inn r i) xs.length cs/\chunks (rep (fz w E) w t) cs xs/\CAv dB w (E.inn r i)
 | .lG _=>True
def KE (ρ:Nat->Res):K0->Prop
 | .val _ _=>True
 | .own r v=>Res.dW v (ρ r)
 | .ptr r _=>(ρ r).oV
 | .mW r=>(ρ r).FQ
def K.wf (ρ:Nat->Res):K->Prop
 | .ptr r _=>(ρ r).oV
 | .own r v=>Res.dW v (ρ r)
 | .when b k=>b=true->k.wf ρ
 | .cell r v _=>Res.dW v (ρ r)
 | .mrow r v i=>Res.dW v (ρ r)/\(Res.nT v (ρ r)->i<(ρ r).cnt)
 | .mpos r v i _=>Res.dW v (ρ r)/\(Res.nT v (ρ r)->i<(ρ r).cnt)
 | .mW r=>(ρ r).FQ
 | .mix ks=>∀ k ∈ ks,KE ρ k
 | .fn _ ks=>∀ k ∈ ks,KE ρ k
 | .sng r v=>Res.dW v (ρ r)
 | .pls ks=>∀ k ∈ ks,KE ρ k
 | .pcl ks _=>∀ k ∈ ks,KE ρ k
 | _=>True
theorem UC {ρ:Nat->Res} {k:K0}:KE ρ k↔(k0K k).wf ρ:=by cases k<;>exact Iff.rfl
def a4b (E:Env) (ρ:Nat->Res) (w:World) (r:Nat) (k:K):Prop:=k.wf ρ/\k.one=true/\∃ b v e,E.blk r=some b/\w.heap[b]?=some (.cells #[v] e (0,0))/\dB v=true/\k.holds E ρ w v
structure Under (M:Nat->Prop) (W w:World):Prop where
 os:w.os=W.os
 tape:w.tape=W.tape
 output:w.output=W.output
 size:W.heap.size<=w.heap.size
 blk:∀ k,k<W.heap.size->¬ M k->w.heap[k]?=W.heap[k]?
theorem Under.below {M:Nat->Prop} {W w:World} (h:Under M W w) (hM:∀ q,¬ M q):Below W.heap.size W w:=⟨h.os,h.tape,h.output,h.size,fun k hk=>h.blk k hk (hM k)⟩
structure Mem (E:Env) (ρ:Nat->Res) (W w:World):Prop where
 below:Under E.qF W w
 res:∀ r,nD E w r (ρ r)
 inj:∀ r j r' j' b,E.has r j b->E.has r' j' b->r=r'/\j=j'
 mine:∀ r j b,E.has r j b->E.qF b\/W.heap.size<=b
 base:∀ q,E.qF q\/W.heap.size<=q->E.base q
 inner:∀ r i,(ρ r).cnt<=i->bK (E.inn r i)=none
 kbx:∀ r k,ρ r=.lG k->a4b E ρ w r k
 dig:∀ b o n,W.cell? ⟨b,o,none⟩=some (.int .u32 n)->w.cell? ⟨b,o,none⟩=some (.int .u32 n)
structure lH (E:Env) (w w':World) (S:Nat->Prop):Prop where
 os:w'.os=w.os
 tape:w'.tape=w.tape
 output:w'.output=w.output
 size:w.heap.size<=w'.heap.size
 blk:∀ b,b<w.heap.size->(∀ r j,S r->¬ E.has r j b)->w'.heap[b]?=w.heap[b]?
 dig:∀ b o n,w.cell? ⟨b,o,none⟩=some (.int .u32 n)->w'.cell? ⟨b,o,none⟩=some (.int .u32 n)
theorem lH.below {E:Env} {w w':World} (h:Below w.heap.size w w') (S:Nat->Prop):lH E w w' S:=⟨h.os,h.tape,h.output,h.size,fun b hb _=>h.block b hb,fun b o n hc=>(h.cell (p:=⟨b,o,none⟩) (cell_lt hc)).trans hc⟩
theorem lH.stay {E:Env} {w w':World} {S:Nat->Prop} (h:lH E w w' S):jK (fz w E) w w':=⟨fun b hb=>h.blk b hb.1.1 (fun r j _=>sW hb r j),h.dig,h.size⟩
def bJ {α:Type} (f:Nat->α) (r:Nat) (x:α):Nat->α:=fun q=>if q=r then x else f q
theorem aF {α:Type} (f:Nat->α) (r:Nat) (x:α):bJ f r x r=x:=dn rfl
theorem aS {α:Type} (f:Nat->α) {r q:Nat} (x:α) (h:q≠r):bJ f r x q=f q:=bn h
def Env.sN (E:Env) (r:Nat) (b:Option Nat) (s:Value) (I:Nat->Value):Env:=⟨bJ E.blk r b,bJ E.sl r s,E.base,bJ E.inn r I,E.qF,E.par⟩
def Env.put (E:Env) (r:Nat) (b:Option Nat) (s:Value):Env:=E.sN r b s (fun _=>undef)
theorem iP.mono {F F':Nat->Prop} {w w':World} (hF:∀ b,F b->F' b) (hs:jK F w w') {c:List Value} {p:Part} (h:iP F w c p):iP F' w' c p:=⟨bY hF hs _ _ _ h.1,h.2⟩
theorem dU {w w':World} {base:Nat} {e:TypeId} {n m:Nat} {v:Value} {cs:List Value} (h:w.ownsRow base e n v m cs) (hb:∀ b,bK v=some b->w'.heap[b]?=w.heap[b]?):w'.ownsRow base e n v m cs:=by obtain⟨j1,j2⟩:=h;refine⟨j1,j2.imp id ?_⟩;rintro⟨g,cap,cur,e1,e2,e3,e4⟩;exact⟨g,cap,cur,e1,e2,(hb g (by rw[e1];rfl)).trans e3,e4⟩
theorem jM {w w':World} {v:Value} {p:Value->Bool} (h:CAv p w v) (hb:∀ b,bK v=some b->w'.heap[b]?=w.heap[b]?):CAv p w' v:=by
 intro g hg i u hu;have hg':bK v=some g:=by
  cases v<;>try (simp[Value.ownBlock] at hg;done)
  rename_i a _ _;cases a<;>first|(simp[] at hg;done)|exact hg
 rw[Dz (w:=w) (hb g hg')] at hu;exact h g hg i u hu
theorem mM (v:Value):bK v=v.ownBlock:=rfl
theorem nD.keep {E E':Env} {w w':World} {r:Nat} {x:Res} (hF:∀ b,fz w E b->fz w' E' b) (hs:jK (fz w E) w w') (h1:E'.blk r=E.blk r) (h2:E'.sl r=E.sl r) (h3:E'.inn r=E.inn r) (hb:∀ j b,E.has r j b->w'.heap[b]?=w.heap[b]?) (h:nD E w r x):nD E' w' r x:=by
 cases x with
 | none=>exact h1.trans h
 | gone=>exact h1.trans h
 | lG k=>trivial
 | box ps =>
  obtain⟨b,cs,e,k1,k3,k4⟩:=h;exact⟨b,cs,e,h1.trans k1,(hb 0 b k1).trans k3,aZ (fun c p=>iP.mono hF hs) _ _ k4⟩
 | row e t xs v =>
  obtain⟨k1,k2,cs,k3,k4,k5⟩:=h;have hb':∀ b,bK (E.sl r)=some b->w'.heap[b]?=w.heap[b]?:=fun b e=>hb 0 b (k1.trans e);exact⟨by rw[h1,h2];exact k1,k2,cs,by rw[h2];exact dU k3 hb',aZ (fun c y=>bY hF hs t c y) _ _ k4,by rw[h2];exact⟨jM k5.1 hb',k5.2⟩⟩
 | fro t xs v =>
  obtain⟨k1,k2⟩:=h;exact⟨h1.trans k1,by rw[h2];exact fU hF hs k2⟩
 | mat e e2 t ids xss v =>
  obtain⟨k1,k2,⟨cs,k3,k4,k5⟩,k6,k7,k8⟩:=h;have hb':∀ b,bK (E.sl r)=some b->w'.heap[b]?=w.heap[b]?:=fun b e=>hb 0 b (k1.trans e);refine⟨by rw[h1,h2];exact k1,k2,⟨cs,by rw[h2];exact dU k3 hb',by rw[h3];exact k4,by rw[h2];exact jM k5 hb'⟩,k6,by rw[h3];exact k7,fun i xs hi=>?_⟩;obtain⟨ds,q1,q2,q3⟩:=k8 i xs hi;have hb2:∀ b,bK (E.inn r i)=some b->w'.heap[b]?=w.heap[b]?:=fun b e=>hb (i+1) b e;exact⟨ds,by rw[h3];exact dU q1 hb2,aZ (fun c y=>bY hF hs t c y) _ _ q2,by rw[h3];exact jM q3 hb2⟩
structure Ext (E:Env) (ρ:Nat->Res) (w:World) (E':Env) (ρ':Nat->Res) (w':World):Prop where
 fz:∀ b,fz w E b->Go.Proofs.YtbkocjmmbkifjaaGreat.fz w' E' b
 stay:jK (Go.Proofs.YtbkocjmmbkifjaaGreat.fz w E) w w'
 ptr:∀ r,(ρ r).oV->(ρ' r).oV/\E'.blk r=E.blk r
 kp:∀ r,(ρ r).FQ->(ρ' r).FQ/\((ρ' r).nK->(ρ r).nK/\E'.blk r=E.blk r)
 ver:∀ r v,Res.dW v (ρ r)->Res.dW v (ρ' r)
 own:∀ r v,Res.dW v (ρ r)->Res.isRow v (ρ' r)->Res.isRow v (ρ r)/\E'.sl r=E.sl r/\(ρ' r).esz=(ρ r).esz
 mat:∀ r v,Res.dW v (ρ r)->Res.nT v (ρ' r)->Res.nT v (ρ r)/\(ρ' r).msz=(ρ r).msz/\(ρ r).cnt<=(ρ' r).cnt/\∀ i,i<(ρ r).cnt->E'.inn r i=E.inn r i
 base:E'.base=E.base
 qF:E'.qF=E.qF
 par:E'.par=E.par
theorem Ext.fix {E E':Env} {ρ ρ':Nat->Res} {w w':World} (h:Ext E ρ w E' ρ' w'):E'.fix=E.fix:=by unfold Env.fix;rw[h.base,h.qF,h.par]
theorem Ext.wf0 {E E':Env} {ρ ρ':Nat->Res} {w w':World} (h:Ext E ρ w E' ρ' w'):(k:K0)->KE ρ k->KE ρ' k
 | .val _ _,_=>trivial
 | .own r v,hk=>h.ver r v hk
 | .ptr r _,hk=>(h.ptr r hk).1
 | .mW r,hk=>(h.kp r hk).1
theorem Ext.wf {E E':Env} {ρ ρ':Nat->Res} {w w':World} (h:Ext E ρ w E' ρ' w'):(k:K)->k.wf ρ->k.wf ρ'
 | .any,_=>trivial
 | .val _ _,_=>trivial
 | .nil,_=>trivial
 | .ptr r _,hk=>(h.ptr r hk).1
 | .own r v,hk=>h.ver r v hk
 | .when _ k,hk=>fun hb=>h.wf k (hk hb)
 | .tup _ _,_=>trivial
 | .cell r v _,hk=>h.ver r v hk
 | .mrow r v i,hk=>⟨h.ver r v hk.1,fun hm=>by
  obtain⟨a,_,b,_⟩:=h.mat r v hk.1 hm;exact qh (hk.2 a) b⟩
 | .mpos r v i _,hk=>⟨h.ver r v hk.1,fun hm=>by
  obtain⟨a,_,b,_⟩:=h.mat r v hk.1 hm;exact qh (hk.2 a) b⟩
 | .mW r,hk=>(h.kp r hk).1
 | .mix ks,hk=>fun k hm=>h.wf0 k (hk k hm)
 | .fn _ ks,hk=>fun k hm=>h.wf0 k (hk k hm)
 | .sng r v,hk=>h.ver r v hk
 | .pls ks,hk=>fun k hm=>h.wf0 k (hk k hm)
 | .pcl ks _,hk=>fun k hm=>h.wf0 k (hk k hm)
theorem Ext.mix {E E':Env} {ρ ρ':Nat->Res} {w w':World} (h:Ext E ρ w E' ρ' w'):∀ (ks:List K0) (vs:List Value),(∀ k ∈ ks,KE ρ k)->lT (Go.Proofs.YtbkocjmmbkifjaaGreat.fz w E) E ρ w ks vs->lT (Go.Proofs.YtbkocjmmbkifjaaGreat.fz w' E') E' ρ' w' ks vs
 | [],_,_,hh=>hh
 | k::ks,_,hw,⟨v,vs',h1,h2,h3⟩=>by
  refine⟨v,vs',h1,?_,h.mix ks vs' (fun k hk=>hw k (jd _ hk)) h3⟩;have hk:=hw k (je ..);cases k with
  | val t x=>exact fU h.fz h.stay h2
  | own r ver =>
   intro hb;obtain⟨a,b,_⟩:=h.own r ver hk hb;rw[b];exact h2 a
  | ptr r o =>
   obtain⟨b,h3,h4⟩:=h2;exact⟨b,(h.ptr r hk).2.trans h3,h4⟩
  | mW r =>
   intro hb;obtain⟨a1,a2⟩:=(h.kp r hk).2 hb;obtain⟨b,h3,h4⟩:=h2 a1;grind
theorem Ext.holds {E E':Env} {ρ ρ':Nat->Res} {w w':World} (h:Ext E ρ w E' ρ' w'):(k:K)->(v:Value)->k.wf ρ->k.holds E ρ w v->k.holds E' ρ' w' v
 | .any,_,_,_=>trivial
 | .val _ _,_,_,hh=>fU h.fz h.stay hh
 | .nil,_,_,hh=>hh
 | .ptr r _,v,hk,⟨b,h3,h4⟩=>⟨b,(h.ptr r hk).2.trans h3,h4⟩
 | .own r ver,v,hk,hh=>fun hb=>by obtain⟨h1,h2,_⟩:=h.own r ver hk hb;rw[h2];exact hh h1
 | .when _ k,v,hk,hh=>⟨fun hb=>h.holds k v (hk hb) (hh.1 hb),hh.2⟩
 | .tup ts x,v,_,⟨vs,h1,h2⟩=>⟨vs,h1,kP h.fz h.stay ts vs x h2⟩
 | .cell r ver i,v,hk,hh=>fun hb=>by obtain⟨h1,h2,h3⟩:=h.own r ver hk hb;obtain⟨b,h4,h5⟩:=hh h1;exact⟨b,by rw[h2];exact h4,by rw[h3];exact h5⟩
 | .mrow r ver i,v,hk,hh=>fun hb=>by obtain⟨h1,h2,h3,h4⟩:=h.mat r ver hk.1 hb;rw[h4 i (hk.2 h1)];exact hh h1
 | .mpos r ver i j,v,hk,hh=>fun hb=>by obtain⟨h1,h2,h3,h4⟩:=h.mat r ver hk.1 hb;obtain⟨b,h5,h6⟩:=hh h1;exact⟨b,by rw[h4 i (hk.2 h1)];exact h5,by rw[h2];exact h6⟩
 | .mW r,v,hk,hh=>fun hb=>by obtain⟨h1,h2⟩:=(h.kp r hk).2 hb;obtain⟨b,h3,h4⟩:=hh h1;exact⟨b,h2.trans h3,h4⟩
 | .mix ks,v,hk,⟨vs,h1,h2⟩=>⟨vs,h1,h.mix ks vs hk h2⟩
 | .fn _ ks,v,hk,⟨vs,h1,h2⟩=>⟨vs,h1,h.mix ks vs hk h2⟩
 | .sng r ver,v,hk,hh=>fun hb=>by obtain⟨a1,a2,_⟩:=h.own r ver hk hb;obtain⟨b,h3,h4,h5⟩:=hh a1;exact⟨b,h3,h.fz b h4,by rw[a2];exact lX h.stay h4 h5⟩
 | .pls ks,v,hk,⟨b,vs,h1,h2,h3,h4⟩=>⟨b,vs,h1,h.fz b h2,lX h.stay h2 h3,h.mix ks vs hk h4⟩
 | .pcl ks i,v,hk,⟨b,vs,h1,h2,h3,h4⟩=>⟨b,vs,h1,h.fz b h2,lX h.stay h2 h3,h.mix ks vs hk h4⟩
theorem Ext.refl (E:Env) (ρ:Nat->Res) (w:World):Ext E ρ w E ρ w:=⟨fun _ h=>h,jK.refl _ _,fun _ h=>⟨h,rfl⟩,fun _ h=>⟨h,fun h=>⟨h,rfl⟩⟩,fun _ _ h=>h,fun _ _ _ h=>⟨h,rfl,rfl⟩,fun _ _ _ h=>⟨h,rfl,aj _,fun _ _=>rfl⟩,rfl,rfl,rfl⟩
theorem Ext.trans {E E' E'':Env} {ρ ρ' c6U:Nat->Res} {w w' w'':World} (h:Ext E ρ w E' ρ' w') (k:Ext E' ρ' w' E'' c6U w''):Ext E ρ w E'' c6U w'' :=
 ⟨fun b hb=>k.fz b (h.fz b hb),h.stay.trans (k.stay.less h.fz),
  fun r hr=>⟨(k.ptr r (h.ptr r hr).1).1,(k.ptr r (h.ptr r hr).1).2.trans (h.ptr r hr).2⟩,
  fun r hr=>⟨(k.kp r (h.kp r hr).1).1,fun hb=>by
    obtain⟨a,b⟩:=(k.kp r (h.kp r hr).1).2 hb;obtain⟨c,d⟩:=(h.kp r hr).2 a;exact⟨c,b.trans d⟩⟩,
  fun r v hr=>k.ver r v (h.ver r v hr),
  fun r v hr hb=>by obtain⟨h1,h2,h5⟩:=k.own r v (h.ver r v hr) hb;obtain⟨h3,h4,h6⟩:=h.own r v hr h1;exact⟨h3,h2.trans h4,h5.trans h6⟩,
  fun r v hr hb=>by obtain⟨h1,h2,h3,h4⟩:=k.mat r v (h.ver r v hr) hb;obtain⟨g1,g2,g3,g4⟩:=h.mat r v hr h1;exact⟨g1,h2.trans g2,au g3 h3,fun i hi=>(h4 i (qh hi g3)).trans (g4 i hi)⟩,
  k.base.trans h.base,k.qF.trans h.qF,k.par.trans h.par⟩
theorem Mem.lt {E:Env} {ρ:Nat->Res} {W w:World} (h:Mem E ρ W w) {r j b:Nat} (hr:E.has r j b):b<w.heap.size:=by
 have h1:=h.res r;have b2O:∀ {e n v m cs},w.ownsRow 0 e n v m cs->bK v=some b->b<w.heap.size:=fun {e n v m cs} hw hv=>by
  rcases hw.2 with⟨j2,_⟩|⟨g,cap,cur,e1,e2,e3,_⟩
  ·rw[j2] at hv;cases hv
  ·rw[e1] at hv;cases hv;grind
 cases j with
 | zero =>
  have hr:E.blk r=some b:=hr;cases hx:ρ r with
  | none=>rw[hx] at h1;rw[show E.blk r=none from h1] at hr;cases hr
  | gone=>rw[hx] at h1;rw[show E.blk r=none from h1] at hr;cases hr
  | lG k =>
   obtain⟨_,_,b',v,e,k1,k2,_⟩:=h.kbx r k hx;grind
  | box ps =>
   rw[hx] at h1;obtain⟨b',cs,e,k1,k3,k4⟩:=h1;grind
  | row e t xs v =>
   rw[hx] at h1;obtain⟨k1,k2,cs,k3,k4,k5⟩:=h1;grind
  | fro t xs v=>rw[hx] at h1;rw[h1.1] at hr;cases hr
  | mat e e2 t ids xss v =>
   rw[hx] at h1;obtain⟨k1,k2,⟨cs,k3,_⟩,_⟩:=h1;grind
 | succ i =>
  have hr:bK (E.inn r i)=some b:=hr;by_cases hc:i<(ρ r).cnt
  ·cases hx:ρ r with
   | mat e e2 t ids xss v =>
    rw[hx] at h1 hc;obtain⟨k1,k2,_,_,_,k8⟩:=h1;obtain⟨cs,q1,_⟩:=k8 i (xss[i]'hc) (dw hc);grind
   | _=>rw[hx] at hc;simp[Res.cnt] at hc
  ·rw[h.inner r i (by omega)] at hr;cases hr
theorem vG {E E':Env} {w w':World} {S:Nat->Prop} (hsz:w.heap.size<=w'.heap.size) (hb:E'.base=E.base)
  (hE:∀ r,¬ S r->E'.blk r=E.blk r/\E'.inn r=E.inn r)
  (hown:∀ r j b,S r->E'.has r j b->(∃ r0 j0,E.has r0 j0 b)\/w.heap.size<=b):∀ q,fz w E q->fz w' E' q:=fun q hq=>by
 refine sH (qh hq.1.1 hsz) (by rw[hb];exact hq.1.2) (fun r j hr=>?_);by_cases hs:S r
 ·rcases hown r j q hs hr with⟨r0,j0,h0⟩|h0
  ·exact sW hq r0 j0 h0
  ·have:=hq.1.1;omega
 ·obtain⟨e1,e2⟩:=hE r hs;cases j with
  | zero=>exact sW hq r 0 (by show E.blk r=some q;rw[<-e1];exact hr)
  | succ i=>exact sW hq r (i+1) (by show bK (E.inn r i)=some q;rw[<-e2];exact hr)
theorem Mem.turns {E E':Env} {ρ ρ':Nat->Res} {W w w':World} (h:Mem E ρ W w) (S:Nat->Prop) (hg:lH E w w' S)
  (hE:∀ r,¬ S r->E'.blk r=E.blk r/\E'.sl r=E.sl r/\E'.inn r=E.inn r/\ρ' r=ρ r) (hb:E'.base=E.base) (hm:E'.qF=E.qF) (hpa:E'.par=E.par)
  (hown:∀ r j b,S r->E'.has r j b->(∃ r0 j0,S r0/\E.has r0 j0 b)\/w.heap.size<=b)
  (hinj:∀ r j r' j' b,S r->S r'->E'.has r j b->E'.has r' j' b->r=r'/\j=j')
  (b1y:∀ r i,S r->(ρ' r).cnt<=i->bK (E'.inn r i)=none)
  (c9y:∀ r,S r->(ρ r).oV->(ρ' r).oV/\E'.blk r=E.blk r)
  (hkp:∀ r,S r->(ρ r).FQ->(ρ' r).FQ/\((ρ' r).nK->(ρ r).nK/\E'.blk r=E.blk r))
  (b9W:∀ r v,S r->Res.dW v (ρ r)->Res.dW v (ρ' r))
  (hrow:∀ r v,S r->Res.dW v (ρ r)->Res.isRow v (ρ' r)->Res.isRow v (ρ r)/\E'.sl r=E.sl r/\(ρ' r).esz=(ρ r).esz)
  (JX:∀ r v,S r->Res.dW v (ρ r)->Res.nT v (ρ' r)->Res.nT v (ρ r)/\(ρ' r).msz=(ρ r).msz/\(ρ r).cnt<=(ρ' r).cnt/\∀ i,i<(ρ r).cnt->E'.inn r i=E.inn r i)
  (hx:∀ r,S r->nD E' w' r (ρ' r)) (hk:Ext E ρ w E' ρ' w'->∀ r k,S r->ρ' r=.lG k->a4b E' ρ' w' r k) :
  Mem E' ρ' W w'/\Ext E ρ w E' ρ' w':=by
 have hs:=hg.stay;have hF:=vG (S:=S) hg.size hb (fun r hr=>⟨(hE r hr).1,(hE r hr).2.2.1⟩) (fun r j b hr hh=>(hown r j b hr hh).imp (fun⟨r0,j0,_,h0⟩=>⟨r0,j0,h0⟩) id);have hhas:∀ r j b,¬ S r->(E'.has r j b↔E.has r j b):=fun r j b hr=>by
  obtain⟨e1,_,e3,_⟩:=hE r hr;cases j with
  | zero=>show E'.blk r=some b↔E.blk r=some b;rw[e1]
  | succ i=>show bK (E'.inn r i)=some b↔bK (E.inn r i)=some b;rw[e3]
 have hX:Ext E ρ w E' ρ' w':=by
  refine⟨hF,hs,fun r hr=>?_,fun r hr=>?_,fun r v hr=>?_,fun r v hr hr'=>?_,fun r v hr hr'=>?_,hb,hm,hpa⟩;all_goals by_cases e:S r
  ·grind
  ·grind
  ·grind
  ·grind
  ·grind
  ·grind
  ·grind
  ·grind
  ·grind
  ·grind
 have c8E:∀ r j r' j' b,S r->¬ S r'->E'.has r j b->E'.has r' j' b->False:=fun r j r' j' b h1 h2 h3 h4=>by
  have h5:=(hhas r' j' b h2).1 h4;rcases hown r j b h1 h3 with⟨r0,j0,k1,k2⟩|k1
  ·have:=(h.inj _ _ _ _ _ k2 h5).1;grind
  ·have:=h.lt h5;omega
 refine⟨⟨?_,fun r=>?_,fun r j r' j' b h1 h2=>?_,fun r j b h1=>?_,?_,fun r i hi=>?_,fun r k hk'=>?_,fun b o n hc=>hg.dig b o n (h.dig b o n hc)⟩,hX⟩
 ·refine⟨hg.os.trans h.below.os,hg.tape.trans h.below.tape,hg.output.trans h.below.output,au h.below.size hg.size,fun k hk hmk=>?_⟩;rw[hm] at hmk;refine(hg.blk k (qh hk h.below.size) (fun r j _ e=>?_)).trans (h.below.blk k hk hmk);rcases h.mine r j k e with e|e
  ·grind
  ·omega
 ·by_cases e:S r
  ·grind
  ·obtain⟨e1,e2,e3,e4⟩:=hE r e;rw[e4];refine(h.res r).keep hF hs e1 e2 e3 (fun j b hb'=>hg.blk b (h.lt hb') (fun r' j' hr' e'=>?_));have:=(h.inj _ _ _ _ _ hb' e').1;grind
 ·by_cases e1:S r
  ·grind
  ·by_cases e2:S r'
   ·grind
   ·exact h.inj r j r' j' b ((hhas r j b e1).1 h1) ((hhas r' j' b e2).1 h2)
 ·rw[hm];by_cases e:S r
  ·rcases hown r j b e h1 with⟨r0,j0,_,k2⟩|k
   ·exact h.mine r0 j0 b k2
   ·exact .inr (au h.below.size k)
  ·exact h.mine r j b ((hhas r j b e).1 h1)
 ·rw[hb,hm];exact h.base
 ·by_cases e:S r
  ·grind
  ·obtain⟨e1,e2,e3,e4⟩:=hE r e;rw[e4] at hi;rw[e3];exact h.inner r i hi
 ·by_cases e:S r
  ·grind
  ·obtain⟨e1,e2,e3,e4⟩:=hE r e;rw[e4] at hk';obtain⟨q1,q2,b,v,t,q3,q4,q5,q6⟩:=h.kbx r k hk';refine⟨hX.wf k q1,q2,b,v,t,e1.trans q3,?_,q5,hX.holds k v q1 q6⟩;refine(hg.blk b (h.lt (j:=0) q3) (fun r' j' hr' e'=>?_)).trans q4;have:=(h.inj _ 0 _ _ _ q3 e').1;grind
theorem Mem.grows {E:Env} {ρ:Nat->Res} {W w w':World} (h:Mem E ρ W w) (hb:Below w.heap.size w w'):Mem E ρ W w'/\Ext E ρ w E ρ w' :=
 h.turns (fun _=>False) (lH.below hb _) (fun _ _=>⟨rfl,rfl,rfl,rfl⟩) rfl rfl rfl (fun _ _ _ h=>h.elim) (fun _ _ _ _ _ h=>h.elim) (fun _ _ h=>h.elim) (fun _ h=>h.elim) (fun _ h=>h.elim) (fun _ _ h=>h.elim) (fun _ _ h=>h.elim) (fun _ _ h=>h.elim) (fun _ h=>h.elim) (fun _ _ _ h=>h.elim)
theorem nS {E:Env} {r:Nat} {b:Option Nat} {s:Value} {I:Nat->Value} {r' j q:Nat}:(E.sN r b s I).has r' j q↔(if r'=r then (match j with|0=>b=some q|i+1=>bK (I i)=some q) else E.has r' j q):=by
 cases j with
 | zero =>
  show bJ E.blk r b r'=some q↔_;unfold bJ;split<;>exact Iff.rfl
 | succ i =>
  show bK (bJ E.inn r I r' i)=some q↔_;unfold bJ;split<;>exact Iff.rfl
theorem Mem.GK {E:Env} {ρ:Nat->Res} {W w w':World} (h:Mem E ρ W w) (r:Nat) (hg:lH E w w' (fun q=>q=r)) (b:Option Nat) (s:Value) (I:Nat->Value) (x:Res) (hx:nD (E.sN r b s I) w' r x)
  (hown:∀ q,(b=some q\/∃ i,bK (I i)=some q)->(∃ j0,E.has r j0 q)\/w.heap.size<=q)
  (b8i:∀ q i,b=some q->bK (I i)≠some q) (c6c:∀ i i' q,bK (I i)=some q->bK (I i')=some q->i=i')
  (b1y:∀ i,x.cnt<=i->bK (I i)=none)
  (hp:(ρ r).oV->x.oV/\b=E.blk r) (hkp:(ρ r).FQ->x.FQ/\(x.nK->(ρ r).nK/\b=E.blk r)) (hv:∀ v,Res.dW v (ρ r)->Res.dW v x)
  (ho:∀ v,Res.dW v (ρ r)->Res.isRow v x->Res.isRow v (ρ r)/\s=E.sl r/\x.esz=(ρ r).esz)
  (JX:∀ v,Res.dW v (ρ r)->Res.nT v x->Res.nT v (ρ r)/\x.msz=(ρ r).msz/\(ρ r).cnt<=x.cnt/\∀ i,i<(ρ r).cnt->I i=E.inn r i)
  (hk:Ext E ρ w (E.sN r b s I) (bJ ρ r x) w'->∀ k,x=.lG k->a4b (E.sN r b s I) (bJ ρ r x) w' r k) :
  Mem (E.sN r b s I) (bJ ρ r x) W w'/\Ext E ρ w (E.sN r b s I) (bJ ρ r x) w':=by
 refine h.turns (fun q=>q=r) hg (fun q hq=>⟨aS _ _ hq,aS _ _ hq,aS _ _ hq,aS _ _ hq⟩) rfl rfl rfl (fun r' j q e hh=>?_) (fun r1 j r2 j' q e1 e2 h1 h2=>?_) (fun r' i e hi=>?_) (fun r' e hr=>?_) (fun r' e hr=>?_) (fun r' v e hr=>?_) (fun r' v e hr hr'=>?_) (fun r' v e hr hr'=>?_) (fun r' e=>?_) (fun hX r' k e hr=>?_)
 ·subst e;rw[nS,dn rfl] at hh;rcases hown q (by cases j with|zero=>exact .inl hh|succ i=>exact .inr ⟨i,hh⟩) with⟨j0,h0⟩|h0
  ·grind
  ·grind
 ·subst e1 e2;rw[nS,dn rfl] at h1 h2;refine⟨rfl,?_⟩;cases j with
  | zero=>cases j' with
   | zero=>rfl
   | succ i=>exact(b8i q i h1 h2).elim
  | succ i=>cases j' with
   | zero=>exact(b8i q i h2 h1).elim
   | succ i'=>rw[c6c i i' q h1 h2]
 ·subst e;rw[aF] at hi;show bK (bJ E.inn r' I r' i)=none;rw[aF];exact b1y i hi
 ·subst e;rw[aF];obtain⟨a,c⟩:=hp hr;exact⟨a,by show bJ E.blk r' b r'=_;rw[aF];exact c⟩
 ·subst e;rw[aF];obtain⟨a,c⟩:=hkp hr;exact⟨a,fun hh=>⟨(c hh).1,by show bJ E.blk r' b r'=_;rw[aF];exact(c hh).2⟩⟩
 ·subst e;rw[aF];exact hv v hr
 ·subst e;rw[aF] at hr' ⊢;obtain⟨a,c,d⟩:=ho v hr hr';exact⟨a,by show bJ E.sl r' s r'=_;rw[aF];exact c,d⟩
 ·subst e;rw[aF] at hr' ⊢;obtain⟨a,c,d,f⟩:=JX v hr hr';exact⟨a,c,d,fun i hi=>by show bJ E.inn r' I r' i=_;rw[aF];exact f i hi⟩
 ·subst e;rw[aF];exact hx
 ·subst e;rw[aF] at hr;exact hk hX k hr
theorem Mem.turn {E:Env} {ρ:Nat->Res} {W w w':World} (h:Mem E ρ W w) (r:Nat) (hg:lH E w w' (fun q=>q=r)) (b:Option Nat) (s:Value) (x:Res) (hx:nD (E.put r b s) w' r x)
  (hb:b=none\/b=E.blk r\/b=some w.heap.size) (hc:x.cnt=0) (hkb:∀ k,x≠.lG k) (hkg:¬ (ρ r).FQ)
  (hp:(ρ r).oV->x.oV/\b=E.blk r) (hv:∀ v,Res.dW v (ρ r)->Res.dW v x)
  (ho:∀ v,Res.dW v (ρ r)->Res.isRow v x->Res.isRow v (ρ r)/\s=E.sl r/\x.esz=(ρ r).esz) (hnm:∀ v,¬ Res.nT v x) :
  Mem (E.put r b s) (bJ ρ r x) W w'/\Ext E ρ w (E.put r b s) (bJ ρ r x) w' :=
 h.GK r hg b s (fun _=>undef) x hx (fun q hq=>by
  rcases hq with hq|⟨i,hq⟩
  ·rcases hb with e|e|e
   ·grind
   ·exact .inl ⟨0,by show E.blk r=some q;rw[<-e];exact hq⟩
   ·grind
  ·cases hq) (fun q i _ hq=>by cases hq) (fun i i' q hq=>by cases hq) (fun i _=>rfl) hp (fun hh=>(hkg hh).elim) hv ho (fun v _ hh=>(hnm v hh).elim) (fun _ k e=>(hkb k e).elim)
theorem AU {E:Env} {ρ:Nat->Res} {w w':World} {r:Nat} {b:Option Nat} {s:Value} (hsz:w.heap.size<=w'.heap.size) (hb:b=none\/b=E.blk r\/b=some w.heap.size):∀ q,fz w E q->fz w' (E.put r b s) q :=
 vG (S:=fun q=>q=r) hsz rfl (fun q hq=>⟨aS _ _ hq,aS _ _ hq⟩) (fun r' j q e hh=>by
  subst e;unfold Env.put at hh;rw[nS,dn rfl] at hh;cases j with
  | zero =>
   rcases hb with e|e|e
   ·grind
   ·exact .inl ⟨r',0,by show E.blk r'=some q;rw[<-e];exact hh⟩
   ·grind
  | succ i=>cases hh)
def a6l {α:Type} (f:α->List Part) (d:α) (xs:List α):Nat->Nat->List Part
 | 0,_=>[]
 | n+1,i=>f (xs.getD i d)++a6l f d xs n (i+1)
def flat:(t:Ty)->t.den->List Part
 | .pair a b,x=>flat a x.1++flat b x.2
 | .arr n a,x=>a6l (α:=a.den) (flat a) a.zero x n 0
 | .unit,_=>[]
 | t,x=>[⟨t,x⟩]
theorem qQ {α:Type} {R:List Value->α->Prop}:∀ {xs ys:List α} {c d:List Value},chunks R c xs->chunks R d ys->chunks R (c++d) (xs++ys)
 | [],_,c,d,h,k=>by rw[show c=[] from h];exact k
 | x::xs,ys,_,d,⟨c1,c2,h1,h2,h3⟩,k=>⟨c1,c2++d,by rw[h1,Ar],h2,qQ h3 k⟩
theorem pR {α:Type} {R:List Value->α->Prop}:∀ {xs ys:List α} {c:List Value},chunks R c (xs++ys)->∃ c1 c2,c=c1++c2/\chunks R c1 xs/\chunks R c2 ys
 | [],_,c,h=>⟨[],c,rfl,rfl,h⟩
 | x::xs,ys,_,⟨c1,c2,h1,h2,h3⟩=>by obtain⟨d1,d2,rfl,k1,k2⟩:=pR h3;exact⟨c1++d1,d2,by rw[h1,Ar],⟨c1,d1,rfl,h2,k1⟩,k2⟩
theorem oM {α:Type} {R:List Value->α->Prop} {x:α} {c:List Value} (h:R c x):chunks R c [x]:=⟨c,[],by simp,h,rfl⟩
theorem a2B {α:Type} {R:List Value->α->Prop} {S:List Value->Part->Prop} {f:α->List Part} {d:α} (h:∀ c x,R c x->chunks S c (f x)):∀ (ys zs:List α) (cs:List Value),chunks R cs zs->chunks S cs (a6l f d (ys++zs) zs.length ys.length)
 | _,[],cs,hc=>hc
 | ys,z::zs,_,⟨c1,c2,h1,h2,h3⟩=>by
  rw[h1];simp only[List.length_cons,a6l];have e:(ys++z::zs).getD ys.length d=z:=by simp[]
  rw[e];have:=a2B (d:=d) h (ys++[z]) zs c2 h3;rw[Ar,dh] at this;exact qQ (h _ _ h2) this
theorem JM {F:Nat->Prop} {w:World}:(t:Ty)->(x:t.den)->(cs:List Value)->t.still=true->rep F w t cs x->chunks (iP F w) cs (flat t x)
 | .pair a b,x,cs,hs,⟨c1,c2,h1,h2,h3⟩=>by simp only[Ty.still,ay] at hs;rw[h1];exact qQ (JM a x.1 c1 hs.1 h2) (JM b x.2 c2 hs.2 h3)
 | .unit,x,cs,hs,h=>h
 | .bool,x,cs,hs,h=>oM ⟨h,hs⟩
 | .int _,x,cs,hs,h=>oM ⟨h,hs⟩
 | .lf _,x,cs,hs,h=>oM ⟨h,hs⟩
 | .list _,x,cs,hs,h=>oM ⟨h,hs⟩
 | .arr n a,x,cs,hs,h=>by obtain⟨h1,h2⟩:=h;have:=a2B (d:=a.zero) (f:=flat a) (fun c y hy=>JM a y c (by simpa [Ty.still] using hs) hy) [] x cs h2;rw[h1] at this;exact this
 | .ref _,x,cs,hs,h=>oM ⟨h,hs⟩
 | .clo _ _,x,cs,hs,h=>oM ⟨h,hs⟩
 | .nls _,x,cs,hs,h=>oM ⟨h,hs⟩
def Ty.zc:Ty->Option (List Value)
 | .bool=>some [.bool false]
 | .int k=>some [.int k 0]
 | .lf .rat=>none
 | .lf .big=>some [.bool false,.slice none 0 0]
 | .lf .fO=>some [.bool false,.slice none 0 0,.bool false,.slice none 0 0]
 | .lf .IG=>some [.bool false,.slice none 0 0]
 | .lf .str=>some [.string ByteArray.empty]
 | .list _=>some [.slice none 0 0]
 | .arr n t=>t.zc.map fun c=>(List.replicate n c).flatten
 | .pair a b=>match a.zc,b.zc with
  | some c,some d=>some (c++d)
  | _,_=>none
 | .unit=>some []
 | _=>none
theorem VF (w:World):uV w (.agg #[.bool false,.slice none 0 0]) true 0:=⟨false,.slice none 0 0,[],rfl,Rd.nil w,by simp,by decide +kernel,by decide +kernel⟩
theorem DR {F:Nat->Prop} {w:World}:(t:Ty)->(c:List Value)->t.zc=some c->rep F w t c t.zero
 | .bool,c,h=>by simp only[Ty.zc,ah] at h;rw[<-h];rfl
 | .int k,c,h=>by simp only[Ty.zc,ah] at h;rw[<-h];rfl
 | .lf .big,c,h=>by simp only[Ty.zc,ah] at h;rw[<-h];exact(VF w).int
 | .lf .fO,c,h=>by simp only[Ty.zc,ah] at h;rw[<-h];have h0:=VF w;exact⟨false,none,0,false,none,0,rfl,⟨_,_,_,_,true,true,0,0,rfl,h0,h0,rfl,rfl⟩,Rd.nil w,Rd.nil w⟩
 | .lf .IG,c,h=>by simp only[Ty.zc,ah] at h;rw[<-h];exact⟨false,none,0,rfl,VF w,Rd.nil w⟩
 | .lf .str,c,h=>by simp only[Ty.zc,ah] at h;rw[<-h];rfl
 | .list t,c,h=>by simp only[Ty.zc,ah] at h;rw[<-h];exact⟨none,0,rfl,by simp[Ty.zero],by omega,.inl rfl⟩
 | .arr n t,c,h=>by
  simp only[Ty.zc,ig] at h;obtain⟨d,h1,rfl⟩:=h;refine⟨by simp[Ty.zero],?_⟩;have hd:=DR (F:=F) (w:=w) t d h1
  induction n with
  | zero=>exact rfl
  | succ n ih=>exact⟨d,_,by rw[List.replicate_succ,List.flatten_cons],hd,ih⟩
 | .pair a b,c,h=>by
  simp only[Ty.zc] at h;split at h<;>try(cases h;done)
  rename_i c1 c2 h1 h2;simp only[ah] at h;exact⟨c1,c2,h.symm,DR a c1 h1,DR b c2 h2⟩
 | .unit,c,h=>by simp only[Ty.zc,ah] at h;rw[<-h];rfl
def veq:Value->Value->Bool
 | .bool a,.bool b=>a==b
 | .int k a,.int k' b=>k==k'&&a==b
 | .slice none 0 0,.slice none 0 0=>true
 | .string a,.string b=>a.data.isEmpty&&b.data.isEmpty
 | _,_=>false
theorem c4o {a b:Value} (h:veq a b=true):a=b:=by unfold veq at h;split at h<;>simp_all;rename_i a b;cases a;cases b;simp_all
def b7E:List Value->List Value->Bool
 | [],[]=>true
 | a::l,b::m=>veq a b&&b7E l m
 | _,_=>false
theorem a7Q:∀ {a b:List Value},b7E a b=true->a=b
 | [],[],_=>rfl
 | a::l,b::m,h=>by simp only[b7E,ay] at h;rw[c4o h.1,a7Q h.2]
def a0q (P:Program) (t:TypeId) (ty:Ty):Bool:=match P.info? t,ty.zc with
 | some i,some c=>match i.zero with
  | some z=>b7E z.cells.toList c&&i.size==ty.n
  | none=>false
 | _,_=>false
theorem zG {P:Program} {t:TypeId} {ty:Ty} (h:a0q P t ty=true):∃ i z c,P.info? t=some i/\i.zero=some z/\ty.zc=some c/\z.cells.toList=c/\i.size=ty.n:=by
 unfold a0q at h;split at h<;>try(cases h;done)
 rename_i i c h1 h2;split at h<;>try(cases h;done)
 rename_i z h3;simp only[ay,jo] at h;exact⟨i,z,c,h1,h3,h2,a7Q h.1,h.2⟩
theorem pF {F:Nat->Prop} {w:World}:(t:Ty)->(cs:List Value)->(x:t.den)->rep F w t cs x->(t.toV cs).cells=cs.toArray
 | .bool,_,_,h=>by rw[show _=_ from h];rfl
 | .int _,_,_,h=>by rw[show _=_ from h];rfl
 | .lf .rat,_,_,h=>rfl
 | .lf .big,_,_,h=>rfl
 | .lf .fO,_,_,h=>rfl
 | .lf .IG,_,_,h=>rfl
 | .lf .str,_,_,h=>by rw[show _=_ from h];rfl
 | .lf .grp,_,_,h=>rfl
 | .lf .gsl,_,_,h=>by obtain⟨s,rfl,h2⟩:=h;obtain⟨p,c,rfl,_,_⟩:=h2.form;rfl
 | .lf .QA,_,_,h=>by obtain⟨b,o,rfl,_⟩:=h;rfl
 | .lf .esl,_,_,h=>by obtain⟨b,rfl⟩:=h;rfl
 | .list t,_,x,⟨p,c,h1,_⟩=>by rw[h1];rfl
 | .arr n t,_,_,_=>rfl
 | .pair a b,_,_,_=>rfl
 | .unit,_,_,h=>rfl
 | .ref t,_,_,⟨b,o,ds,h1,_⟩=>by rw[h1];rfl
 | .clo _ t,_,_,⟨ds,h1,_⟩=>by rw[h1];rfl
 | .nls t,_,_,h=>by rcases h with⟨_,rfl⟩|⟨ys,b,o,c,ds,_,rfl,_⟩<;>rfl
def OQ:List Part->Nat->Option (List Part × List Part)
 | ps,0=>some ([],ps)
 | [],_+1=>none
 | p::ps,o+1=>if p.t.n<=o+1 then (OQ ps (o+1-p.t.n)).map fun q=>(p::q.1,q.2) else none
def packs (g:List Part->Option (Part × List Part)) (t:Ty):Nat->List Part->Option (List t.den × List Part)
 | 0,ps=>some ([],ps)
 | n+1,ps=>match g ps with
  | some (p,qs)=>match gK p.t t p.x,packs g t n qs with
   | some x,some (xs,rs)=>some (x::xs,rs)
   | _,_=>none
  | none=>none
def pack:Ty->List Part->Option (Part × List Part)
 | .pair a b,ps=>match pack a ps with
  | some (p,qs)=>(pack b qs).map fun r=>(⟨.pair p.t r.1.t,(p.x,r.1.x)⟩,r.2)
  | none=>none
 | .arr n a,ps=>match pack a ps with
  | some (p,_)=>(packs (pack a) p.t n ps).map fun r=>(⟨.arr n p.t,r.1⟩,r.2)
  | none=>none
 | .unit,ps=>some (⟨.unit,()⟩,ps)
 | _,p::ps=>some (p,ps)
 | _,[]=>none
theorem iP.len {F:Nat->Prop} {w:World} {c:List Value} {p:Part} (h:iP F w c p):c.length=p.t.n:=dL _ _ _ h.1
def a7D (ps:List Part):Nat:=(ps.map (·.t.n)).sum
theorem sF {F:Nat->Prop} {w:World}:∀ {ps:List Part} {c:List Value},chunks (iP F w) c ps->c.length=a7D ps
 | [],c,h=>by rw[show c=[] from h];rfl
 | p::ps,_,⟨c1,c2,h1,h2,h3⟩=>by rw[h1,dh,h2.len,sF h3];simp[a7D]
theorem vF:∀ (ps:List Part) (o:Nat) (a b:List Part),OQ ps o=some (a,b)->ps=a++b/\a7D a=o
 | ps,0,a,b,h=>by simp only[OQ] at h;obtain⟨rfl,rfl⟩:=h;exact⟨rfl,rfl⟩
 | p::ps,o+1,a,b,h=>by
  simp only[OQ] at h;split at h<;>try(cases h;done)
  simp only[ig] at h;obtain⟨⟨a',b'⟩,h1,rfl,rfl⟩:=h;obtain⟨h2,h3⟩:=vF ps _ a' b' h1;exact⟨by rw[h2];rfl,by simp only[a7D,yw,List.sum_cons] at *;omega⟩
theorem VA {S:List Value->Part->Prop} {R:(t:Ty)->List Value->t.den->Prop} {g:List Part->Option (Part × List Part)} (hS:∀ c p,S c p->R p.t c p.x) (hg:∀ ps p qs c,g ps=some (p,qs)->chunks S c ps->chunks S c (p::qs)) (t:Ty):∀ (n:Nat) (ps:List Part) (xs:List t.den) (rs:List Part) (c:List Value),packs g t n ps=some (xs,rs)->chunks S c ps->∃ c1 c2,c=c1++c2/\xs.length=n/\chunks (R t) c1 xs/\chunks S c2 rs
 | 0,ps,xs,rs,c,h,hc=>by obtain⟨rfl,rfl⟩:=h;exact⟨[],c,rfl,rfl,rfl,hc⟩
 | n+1,ps,xs,rs,c,h,hc=>by
  simp only[packs] at h;split at h<;>try(cases h;done)
  rename_i p qs hgp;split at h<;>try(cases h;done)
  rename_i x xs' rs' hx hr;obtain⟨rfl,rfl⟩:=h;obtain⟨c1,c2,rfl,k1,k2⟩:=hg _ _ _ _ hgp hc;obtain⟨c3,c4,rfl,k3,k4,k5⟩:=VA hS hg t n qs _ _ c2 hr k2;refine⟨c1++c3,c4,by rw[Ar],by simp[k3],⟨c1,c3,rfl,?_,k4⟩,k5⟩;obtain⟨e,hx⟩:=dO hx;grind
theorem uN {F:Nat->Prop} {w:World}:(t:Ty)->(ps:List Part)->(p:Part)->(qs:List Part)->(c:List Value)->pack t ps=some (p,qs)->chunks (iP F w) c ps->∃ c1 c2,c=c1++c2/\iP F w c1 p/\chunks (iP F w) c2 qs
 | .pair a b,ps,p,qs,c,h,hc=>by
  simp only[pack] at h;split at h<;>try(cases h;done)
  rename_i p1 q1 h1;simp only[ig] at h;obtain⟨⟨p2,q2⟩,h2,rfl,rfl⟩:=h;obtain⟨c1,c2,rfl,k1,k2⟩:=uN a ps p1 q1 c h1 hc;obtain⟨c3,c4,rfl,k3,k4⟩:=uN b q1 p2 q2 c2 h2 k2;exact⟨c1++c3,c4,by rw[Ar],⟨⟨c1,c3,rfl,k1.1,k3.1⟩,by simp[Ty.still,k1.2,k3.2]⟩,k4⟩
 | .unit,ps,p,qs,c,h,hc=>by obtain⟨rfl,rfl⟩:=h;exact⟨[],c,rfl,⟨rfl,rfl⟩,hc⟩
 | .arr n a,ps,p,qs,c,h,hc=>by
  simp only[pack] at h;split at h<;>try(cases h;done)
  rename_i p1 q1 h1;simp only[ig] at h;obtain⟨⟨xs,rs⟩,h2,rfl,rfl⟩:=h;obtain⟨c0,c9,_,k0,_⟩:=uN a ps p1 q1 c h1 hc;obtain⟨c1,c2,e,k1,k2,k3⟩:=VA (S:=iP F w) (R:=rep F w) (fun c p h=>h.1) (fun ps p qs c h hc=>uN a ps p qs c h hc) p1.t n ps xs rs c h2 hc;exact⟨c1,c2,e,⟨⟨k1,k2⟩,by have:=k0.2;simpa [Ty.still] using this⟩,k3⟩
 | .bool,p'::ps,p,qs,c,h,hc=>by simp only[pack] at h;obtain⟨rfl,rfl⟩:=h;exact hc
 | .int _,p'::ps,p,qs,c,h,hc=>by simp only[pack] at h;obtain⟨rfl,rfl⟩:=h;exact hc
 | .lf _,p'::ps,p,qs,c,h,hc=>by simp only[pack] at h;obtain⟨rfl,rfl⟩:=h;exact hc
 | .list _,p'::ps,p,qs,c,h,hc=>by simp only[pack] at h;obtain⟨rfl,rfl⟩:=h;exact hc
 | .ref _,p'::ps,p,qs,c,h,hc=>by simp only[pack] at h;obtain⟨rfl,rfl⟩:=h;exact hc
 | .nls _,p'::ps,p,qs,c,h,hc=>by simp only[pack] at h;obtain⟨rfl,rfl⟩:=h;exact hc
 | .clo _ _,p'::ps,p,qs,c,h,hc=>by simp only[pack] at h;obtain⟨rfl,rfl⟩:=h;exact hc
section
inductive LK where
 | row (e:TypeId) (t:Ty)
 | mat (e e2:TypeId) (t:Ty)
def LK.el:LK->Ty
 | .row _ t=>t
 | .mat _ _ t=>t
def LK.ty:LK->Ty
 | .row _ t=>.list t
 | .mat _ _ t=>.list (.list t)
def LK.res:(k:LK)->k.ty.den->Nat->Res
 | .row e t,xs,v=>.row e t xs v
 | .mat e e2 t,xss,v=>.mat e e2 t none xss v
inductive lK where
 | mk (k:LK) (args:List Ty) (pre:(nest args).den->Prop) (made:(nest args).den->k.ty.den) [dec:∀ x,Dc (pre x)]
 | chg (k:LK) (args res:List Ty) (pre:k.ty.den->(nest args).den->Prop) (out:k.ty.den->(nest args).den->k.ty.den) (fn:k.ty.den->(nest args).den->(nest res).den) [dec:∀ x y,Dc (pre x y)]
inductive At where
 | ty (t:Ty)
 | fn (g:FuncId)
 | no
structure Told where
 ty:TypeId->Option Ty
 el:TypeId->Option Ty
 wr:Nat->Bool
 kb:Nat->Bool
 mt:Nat->Option Ty
 nc:FuncId->List At->List lK
abbrev MK:=Option (List Cd × K × List (Nat × Res))
def after (ρ:Nat->Res):List (Nat × Res)->Nat->Res
 | []=>ρ
 | (r,x)::l=>after (bJ ρ r x) l
def Res.isNone:Res->Bool
 | .none=>true
 | _=>false
def a0r (t:Ty):K:=match t with
 | .list _=>.nil
 | t=>.val t t.zero
def b6f (T:Told) (r:Nat) (k:K):MK:=if k.one then some ([],.mW r,[(r,.lG k)]) else none
def a1q (T:Told) (r:Nat) (t:Ty) (x:t.den):MK :=
 if T.wr r then (if t.still then some ([],.ptr r 0,[(r,.box (flat t x))]) else none) else some ([],.val (.ref t) x,[])
def a2w (P:Program) (s:TypeId) (i:Nat):Option Nat:=match P.underlying s with
 | some (.struct fs)=>match fs[i]? with
  | some f=>match P.info? f.type with
   | some j=>if j.size=0 then none else some f.offset
   | none=>none
  | none=>none
 | _=>none
def a6a (P:Program) (s:TypeId) (i:Int):Option Nat:=match P.underlying s with
 | some (.array n e)=>match P.info? e,i with
  | some j,.ofNat k=>if k<n then some (k*j.size) else none
  | _,_=>none
 | _=>none
def tH (ρ:Nat->Res):K->Option (Part × List (Nat × Res))
 | .val t x=>some (⟨t,x⟩,[])
 | .own r v=>match ρ r with
  | .row _ t xs v'=>if gv v=gv v' then some (⟨.list t,xs⟩,[(r,.fro t xs v')]) else none
  | .fro t xs v'=>if gv v=gv v' then some (⟨.list t,xs⟩,[]) else none
  | .mat _ _ t none xss v'=>if gv v=gv v' then some (⟨.list (.list t),xss⟩,[(r,.fro (.list t) xss v')]) else none
  | _=>none
 | .mrow r v i=>match ρ r with
  | .mat _ _ t none xss v'=>if v=v' then some (⟨.list t,List.getD (α:=List t.den) xss i []⟩,[(r,.fro (.list t) xss v)]) else none
  | _=>none
 | _=>none
def wR (ρ:Nat->Res) (t:Option Ty):K->Option (Part × List (Nat × Res))
 | .nil=>match t with
  | some (.list t)=>some (⟨.list t,[]⟩,[])
  | some (.lf .gsl)=>some (⟨.lf .gsl,[]⟩,[])
  | _=>none
 | k=>tH ρ k
def bTy:Bool->Ty->Ty
 | false,.lf .fO=>.pair (.lf .big) (.pair (.lf .big) .unit)
 | _,t=>t
def a4A (P:Program) (T:Told) (t:TypeId) (ps:List Part) (o:Nat):Option Part:=match OQ ps o with
 | some (_,p::qs)=>if fitsT P t p.t then some p else (match (T.ty t).map (bTy false) with
  | some ty=>match pack ty (p::qs) with
   | some (q,_)=>if fitsT P t q.t then some q else none
   | none=>none
  | none=>none)
 | _=>none
def b3X (P:Program) (t:TypeId):List Part->Nat->Option Part
 | [],_=>none
 | p::ps,o=>if p.t.n<=o then b3X P t ps (o-p.t.n) else match mP p.t p.x (if o=0 then 0 else 1) with
  | some (o',q)=>if o'=o/\fitsT P t q.t=true then some q else none
  | none=>none
def a6A (P:Program) (T:Told) (t:TypeId) (ps:List Part) (o:Nat):Option Part:=match a4A P T t ps o with
 | some p=>some p
 | none=>b3X P t ps o
def a5q (P:Program) (t:TypeId) (ps:List Part) (o:Nat) (p:Part):Option (List Part):=match OQ ps o with
 | some (a,b)=>match OQ b p.t.n with
  | some (_,c)=>if fitsT P t p.t&&p.t.still then some (a++flat p.t p.x++c) else none
  | none=>none
 | none=>none
def sD (P:Program) (T:Told) (ρ:Nat->Res) (k:Operand->K) (d:Option Nat):Op->MK
 | .alloc t=>match d,T.ty t with
  | some r,some ty=>if (ρ r).isNone&&a0q P t ty then (if T.kb r then b6f T r (a0r ty) else a1q T r ty ty.zero) else none
  | _,_=>none
 | .box t x=>match d,wR ρ (T.ty t) (k x) with
  | some r,some (p,l)=>if (ρ r).isNone&&l.isEmpty then a1q T r p.t p.x else none
  | _,_=>none
 | .load t x=>match k x with
  | .ptr r o=>match ρ r with
   | .box ps=>(a6A P T t ps o).map fun p=>([],.val p.t p.x,[])
   | _=>none
  | _=>none
 | .store t x y=>match k x,wR ρ (T.ty t) (k y) with
  | .ptr r o,some (p,l)=>match ρ r with
   | .box ps=>match a5q P t ps o p with
    | some qs=>some ([],.any,l++[(r,.box qs)])
    | none=>none
   | _=>none
  | _,_=>none
 | .fieldAddr s x i=>match k x with
  | .ptr r o=>match ρ r with
   | .box _=>(a2w P s i).map fun q=>([],.ptr r (o+q),[])
   | _=>none
  | _=>none
 | .indexAddr s x i=>match k x,k i with
  | .ptr r o,.val (.int _) n=>match ρ r with
   | .box _=>(a6a P s n).map fun q=>([],.ptr r (o+q),[])
   | _=>none
  | _,_=>none
 | _=>none
def dV (P:Program) (E:Env) (ρ:Nat->Res) (W w:World) (o:Oper) (ev:Operand->Value) (k:K) (l:List (Nat × Res)):Prop :=
 ∃ nx v w' E',(execOp ev o).run P w=.ok nx w'/\(nx=.value v\/nx=.skip/\v=undef)/\Mem E' (after ρ l) W w'/\Ext E ρ w E' (after ρ l) w'/\k.wf (after ρ l)/\k.holds E' (after ρ l) w' v
section
variable {P:Program} {E:Env} {ρ:Nat->Res} {W w:World}
theorem dV.of {s:Sem Value} {o:Oper} {ev:Operand->Value} {kk:K} {l:List (Nat × Res)} (he:execOp ev o=(do pure (.value (<-s)))) (h:∃ v w' E',s.run P w=.ok v w'/\Mem E' (after ρ l) W w'/\Ext E ρ w E' (after ρ l) w'/\kk.wf (after ρ l)/\kk.holds E' (after ρ l) w' v):dV P E ρ W w o ev kk l:=by obtain⟨v,w',E',h1,h2⟩:=h;exact⟨.value v,v,w',E',by rw[he,eu,h1];simp,.inl rfl,h2⟩
theorem Res.mV {x:Res} (h:x.isNone=true):x=.none:=by cases x<;>simp_all [Res.isNone]
theorem ZG (T:Told) {r:Nat} {ty:Ty} {x:ty.den} {cs:List Value} (hM:Mem E ρ W w) (hn:(ρ r).isNone=true) (hr:rep (fz w E) w ty cs x) (t:TypeId) {vc:List Cd} {kk:K} {l:List (Nat × Res)} (h:a1q T r ty x=some (vc,kk,l)) :
  ∃ E',Mem E' (after ρ l) W (w.alloc (.cells cs.toArray t))/\Ext E ρ w E' (after ρ l) (w.alloc (.cells cs.toArray t))/\kk.wf (after ρ l)/\kk.holds E' (after ρ l) (w.alloc (.cells cs.toArray t)) (.pointer (some ⟨w.heap.size,0,none⟩)):=by
 have hb:Below w.heap.size w (w.alloc (.cells cs.toArray t)):=(gy _ _).alloc (aj _) _;have hc:(w.alloc (.cells cs.toArray t)).heap[w.heap.size]?=some (.cells cs.toArray t (0,0)):=Dj w _;have hrn:(w.alloc (.cells cs.toArray t)).rangeAt w.heap.size 0 cs:=fun j v hv=>by rw[yg _ _ _ _ _ _ hc];simpa using hv
 unfold a1q at h;split at h
 ·split at h<;>try(cases h;done)
  rename_i hs;simp only[ah,ak] at h;obtain⟨_,rfl,rfl⟩:=h;have hρ:=Res.mV hn;obtain⟨h1,h2⟩:=hM.turn (w':=w.alloc (.cells cs.toArray t)) r (lH.below hb _) (some w.heap.size) undef (.box (flat ty x))
   ⟨w.heap.size,cs,t,by show bJ E.blk r _ r=_;rw[aF],hc,JM ty x cs hs (bY (AU (ρ:=ρ) hb.size (.inr (.inr rfl))) (lH.below (E:=E) hb (fun _=>False)).stay ty _ _ hr)⟩ (.inr (.inr rfl)) rfl (fun k e=>by cases e) (fun h=>by rw[hρ] at h;exact h.elim) (fun h=>by rw[hρ] at h;exact h.elim) (fun v h=>by rw[hρ] at h;exact h.elim) (fun v h=>by rw[hρ] at h;exact h.elim) (fun v h=>h.elim)
  refine⟨_,h1,h2,?_,⟨w.heap.size,?_,rfl⟩⟩
  ·show Res.oV (bJ ρ r _ r);rw[aF];trivial
  ·show bJ E.blk r _ r=_;rw[aF]
 ·simp only[ah,ak] at h;obtain⟨_,rfl,rfl⟩:=h;obtain⟨h1,h2⟩:=hM.grows hb;refine⟨E,h1,h2,trivial,QZ (ρ:=ρ) (sH (by simp) (hM.base _ (.inr hM.below.size)) (fun r' j e=>?_)) hrn (bY h2.fz h2.stay ty _ _ hr)⟩;have:=hM.lt e;omega
theorem one_cell {k:K} {v:Value} (ho:k.one=true) (hk:k.holds E ρ w v) (hw:∀ r ver,k=.own r ver->Res.isRow ver (ρ r)) (hM:Mem E ρ W w):dB v=true/\v.cells=#[v]:=by
 cases k with
 | val t x =>
  simp only[K.one,ay,zq,jc] at ho;obtain⟨⟨h1,h2⟩,h3⟩:=ho;obtain⟨cs,hv,hr⟩:=hk;have hl:=dL t cs x hr;rw[h3] at hl
  match cs,hl with
  | [u],_ =>
   have hu:v=u:=by rw[hv];unfold Ty.toV;rw[h1];rfl
   subst hu;refine⟨yV t h2 [v] x hr v (by simp),?_⟩;have:=pF t [v] x hr;grind
 | nil=>rw[show v=_ from hk];exact⟨by decide,rfl⟩
 | ptr r o=>obtain⟨b,_,rfl⟩:=hk;exact⟨by simp[dB,fF,Value.oneCell'],rfl⟩
 | own r ver =>
  have h1:=hw r ver rfl;have h2:v=E.sl r:=hk h1;have key:∃ p n c,E.sl r=.slice p n c:=by
   have h3:=hM.res r;have ow:∀ {e n v m cs},w.ownsRow 0 e n v m cs->∃ p n c,v=.slice p n c:=fun {e n v m cs} h=>by
    rcases h.2 with⟨rfl,_⟩|⟨g,cap,cur,rfl,_⟩
    ·grind
    ·grind
   cases hx:ρ r with
   | row e t xs v'=>rw[hx] at h3;obtain⟨_,_,cs,k3,_⟩:=h3;exact ow k3
   | mat e e2 t ids xss v'=>rw[hx] at h3;obtain⟨_,_,⟨cs,k3,_⟩,_⟩:=h3;exact ow k3
   | fro t xs v'=>rw[hx] at h3;obtain⟨_,cs,e1,p,c,e2,_⟩:=h3;rw[e1,e2];exact⟨_,_,_,rfl⟩
   | _=>rw[hx] at h1;exact h1.elim
  obtain⟨p,n,c,e⟩:=key;rw[h2,e];exact⟨by simp[dB,fF,Value.oneCell'],rfl⟩
 | _=>simp[K.one] at ho
theorem b6g {T:Told} {r:Nat} {k:K} {v:Value} (hM:Mem E ρ W w) (hn:(ρ r).isNone=true) (hwf:k.wf ρ) (hk:k.holds E ρ w v) (hown:∀ r' ver,k=.own r' ver->Res.isRow ver (ρ r')) (t:TypeId) {vc:List Cd} {kk:K} {l:List (Nat × Res)} (h:b6f T r k=some (vc,kk,l)) :
  ∃ E',Mem E' (after ρ l) W (w.alloc (.cells #[v] t))/\Ext E ρ w E' (after ρ l) (w.alloc (.cells #[v] t))/\kk.wf (after ρ l)/\kk.holds E' (after ρ l) (w.alloc (.cells #[v] t)) (.pointer (some ⟨w.heap.size,0,none⟩)):=by
 unfold b6f at h;split at h<;>try(cases h;done)
 rename_i ho;simp only[ah,ak] at h;obtain⟨_,rfl,rfl⟩:=h;have hρ:=Res.mV hn;have hb:Below w.heap.size w (w.alloc (.cells #[v] t)):=(gy _ _).alloc (aj _) _;have hc:(w.alloc (.cells #[v] t)).heap[w.heap.size]?=some (.cells #[v] t (0,0)):=Dj w _;obtain⟨h1,h2⟩:=hM.GK (w':=w.alloc (.cells #[v] t)) r (lH.below hb _) (some w.heap.size) undef (fun _=>undef) (.lG k) trivial (fun q hq=>by
   rcases hq with hq|⟨i,hq⟩
   ·cases hq;exact .inr (aj _)
   ·cases hq) (fun q i _ hq=>by cases hq) (fun i i' q hq=>by cases hq) (fun i _=>rfl) (fun h=>by rw[hρ] at h;exact h.elim) (fun h=>by rw[hρ] at h;exact h.elim) (fun v h=>by rw[hρ] at h;exact h.elim) (fun v h=>by rw[hρ] at h;exact h.elim) (fun v _ h=>h.elim) (fun hX k' e=>by
   cases e;exact⟨hX.wf k hwf,ho,w.heap.size,v,t,by show bJ E.blk r _ r=_;rw[aF],hc,(one_cell ho hk hown hM).1,hX.holds k v hwf hk⟩)
 refine⟨_,h1,h2,?_,fun _=>⟨w.heap.size,?_,rfl⟩⟩
 ·show Res.FQ (bJ ρ r _ r);rw[aF];trivial
 ·show bJ E.blk r _ r=_;rw[aF]
theorem lD {E:Env} {F:Nat->Prop} {w:World} {e:TypeId} {t:Ty} {v:Value} {xs:List t.den} {cs:List Value} (h:w.ownsRow 0 e t.n v xs.length cs) (hc:chunks (rep F w t) cs xs) (hF:∀ g,bK v=some g->F g):jU F w (.list t) v xs:=by
 obtain⟨j1,j2⟩:=h;rcases j2 with⟨j2,j3⟩|⟨g,cap,cur,e1,e2,e3,e4,e5,e6,e7⟩
 ·have:xs=[]:=ng j3;subst this;exact⟨[.slice none 0 0],j2,none,0,rfl,by simp,by omega,.inl rfl⟩
 ·refine⟨[v],rfl,some ⟨g,0,none⟩,cap,by rw[e1],e4,by simp only[maxLen] at e5;omega,?_⟩;refine .inr ⟨g,0,cs,rfl,hF g (by rw[e1];rfl),fun j u hu=>?_,hc⟩;rw[qg,yg w g j cur _ _ e3];grind
theorem vZ {α:Type} {R:List Value->α->Prop}:∀ (xs:List α) (f:Nat->Value),(∀ i x,xs[i]?=some x->R [f i] x)->chunks R ((List.range xs.length).map f) xs
 | [],f,h=>rfl
 | x::xs,f,h=>by refine⟨[f 0],(List.range xs.length).map (fun i=>f (i+1)),?_,h 0 x rfl,vZ xs (fun i=>f (i+1)) (fun i y hi=>h (i+1) y (by simpa using hi))⟩;rw[List.length_cons,List.range_succ_eq_map,yw,List.map_map];rfl
theorem getD_at {α:Type} (l:List α) (d:α) (i:Nat) (h:i<l.length):l[i]?=some (l.getD i d):=by grind
theorem TM {r ver:Nat} {e e2:TypeId} {t:Ty} {xss:List (List t.den)} (hM:Mem E ρ W w) (hr:ρ r=.mat e e2 t none xss ver) :
  Mem (E.put r none (E.sl r)) (bJ ρ r (.fro (.list t) xss ver)) W w/\Ext E ρ w (E.put r none (E.sl r)) (bJ ρ r (.fro (.list t) xss ver)) w/\jU (fz w (E.put r none (E.sl r))) w (.list (.list t)) (E.sl r) xss/\∀ i xs,xss[i]?=some xs->jU (fz w (E.put r none (E.sl r))) w (.list t) (E.inn r i) xs:=by
 have hgo:lH E w w (fun q=>q=r):=⟨rfl,rfl,rfl,aj _,fun _ _ _=>rfl,fun _ _ _ h=>h⟩;have h1:=hM.res r;rw[hr] at h1;obtain⟨k1,k2,⟨cs,k3,k4,k5⟩,k6,k7,k8⟩:=h1;have hF:=AU (ρ:=ρ) (w':=w) (E:=E) (r:=r) (s:=E.sl r) (aj _) (.inl rfl);have hfz:∀ j g,E.has r j g->fz w (E.put r none (E.sl r)) g:=fun j g hh=>by
  refine sH (hM.lt hh) (hM.base _ (hM.mine r j g hh)) (fun r' j' e'=>?_);unfold Env.put at e';rw[nS] at e';split at e'
  ·cases j' with
   | zero=>cases e'
   | succ i=>cases e'
  ·rename_i hne;exact hne (hM.inj _ _ _ _ _ e' hh).1
 have hlen:(bW (α:=List t.den) none xss).length=List.length (α:=(Ty.list t).den) xss:=by simp only[bW,jr];rfl
 rw[hlen] at k3;have hrow:∀ i xs,xss[i]?=some xs->jU (fz w (E.put r none (E.sl r))) w (.list t) (E.inn r i) xs:=fun i xs hi=>by obtain⟨ds,q1,q2,q3⟩:=k8 i xs hi;exact lD (E:=E) (F:=fz w (E.put r none (E.sl r))) q1 (aZ (fun c y=>bY hF (jK.refl _ _) t c y) _ _ q2) (fun g hg=>hfz (i+1) g hg)
 have hvr:jU (fz w (E.put r none (E.sl r))) w (.list (.list t)) (E.sl r) xss:=lD (E:=E) (t:=.list t) k3 (by
  rw[k4];refine vZ _ _ (fun i xs hi=>?_);obtain⟨cs9,e9,r9⟩:=hrow i xs hi;have r8:=r9;obtain⟨p9,c9,e8,_⟩:=r9;have e7:cs9=[E.inn r i]:=by have:E.inn r i=cs9.headD undef:=e9;grind
  rw[<-e7];exact r8) (fun g hg=>hfz 0 g (k1.trans hg))
 obtain⟨h2,h3⟩:=hM.turn (w':=w) r hgo none (E.sl r) (.fro (.list t) xss ver) ⟨by show bJ E.blk r none r=_;rw[aF],by show jU _ w _ (bJ E.sl r _ r) _;rw[aF];exact hvr⟩ (.inl rfl) rfl (fun k e=>by cases e) (fun h=>by rw[hr] at h;exact h.elim) (fun h=>by rw[hr] at h;exact h.elim) (fun v' hv'=>by rw[hr] at hv';exact hv') (fun v' _ hv'=>⟨by rw[hr];exact hv',rfl,by rw[hr];rfl⟩) (fun v' h=>h.elim);grind
theorem a8d {k:K} {p:Part} {l:List (Nat × Res)} {v:Value} (h:tH ρ k=some (p,l)) (hM:Mem E ρ W w) (hw:k.wf ρ) (hk:k.holds E ρ w v) :
  ∃ E',Mem E' (after ρ l) W w/\Ext E ρ w E' (after ρ l) w/\jU (fz w E') w p.t v p.x:=by
 cases k<;>try (simp[tH] at h;done)
 case val t x =>
  obtain⟨rfl,rfl⟩:=h;exact⟨E,hM,Ext.refl _ _ _,hk⟩
 case own r ver =>
  simp only[tH] at h;have hgo:lH E w w (fun q=>q=r):=⟨rfl,rfl,rfl,aj _,fun _ _ _=>rfl,fun _ _ _ h=>h⟩;split at h<;>try(cases h;done)
  ·rename_i e t xs v' hr;split at h<;>try(cases h;done)
   rename_i hv0;obtain⟨rfl,rfl⟩:=h;have hv:v=E.sl r:=hk (by rw[hr];exact hv0.symm);have h1:=hM.res r;rw[hr] at h1;obtain⟨k1,k2,cs,k3,k4,k5⟩:=h1;have hF:=AU (ρ:=ρ) (w':=w) (E:=E) (r:=r) (s:=E.sl r) (aj _) (.inl rfl);have hvr:jU (fz w (E.put r none (E.sl r))) w (.list t) (E.sl r) xs:=lD (E:=E) k3 (aZ (fun c y=>bY hF (jK.refl _ _) t c y) _ _ k4) (fun g hg=>by
    have hh:E.has r 0 g:=k1.trans hg;refine sH (hM.lt hh) (hM.base _ (hM.mine r 0 g hh)) (fun r' j e'=>?_);unfold Env.put at e';rw[nS] at e';split at e'
    ·cases j with
     | zero=>cases e'
     | succ i=>cases e'
    ·rename_i hne;exact hne (hM.inj _ _ _ _ _ e' hh).1)
   obtain⟨h2,h3⟩:=hM.turn (w':=w) r hgo none (E.sl r) (.fro t xs v') ⟨by show bJ E.blk r none r=_;rw[aF],by show jU _ w _ (bJ E.sl r _ r) _;rw[aF];exact hvr⟩ (.inl rfl) rfl (fun k e=>by cases e) (fun h=>by rw[hr] at h;exact h.elim) (fun h=>by rw[hr] at h;exact h.elim) (fun v9 hv'=>by rw[hr] at hv';exact hv') (fun v9 _ hv'=>⟨by rw[hr];exact hv',rfl,by rw[hr];rfl⟩) (fun v9 h=>h.elim);exact⟨_,h2,h3,by rw[hv];exact hvr⟩
  ·rename_i t xs v' hr;split at h<;>try(cases h;done)
   rename_i hv0;obtain⟨rfl,rfl⟩:=h;have hv:v=E.sl r:=hk (by rw[hr];exact hv0.symm);have h1:=hM.res r;rw[hr] at h1;exact⟨E,hM,Ext.refl _ _ _,by rw[hv];exact h1.2⟩
  ·rename_i e e2 t xss v' hr;split at h<;>try(cases h;done)
   rename_i hv0;obtain⟨rfl,rfl⟩:=h;have hv:v=E.sl r:=hk (by rw[hr];exact hv0.symm);obtain⟨h2,h3,h4,_⟩:=TM hM hr;exact⟨_,h2,h3,by rw[hv];exact h4⟩
 case mrow r ver i =>
  simp only[tH] at h;split at h<;>try(cases h;done)
  rename_i e e2 t xss v' hr;split at h<;>try(cases h;done)
  rename_i hv;subst hv;obtain⟨rfl,rfl⟩:=h;have hv:v=E.inn r i:=hk (by rw[hr];rfl);have hi:=hw.2 (by rw[hr];rfl);rw[hr] at hi;obtain⟨h2,h3,_,h5⟩:=TM hM hr;refine⟨_,h2,h3,?_⟩;rw[hv];have h6:=h5 i (List.getD (α:=List t.den) xss i []) (getD_at _ _ _ hi);exact h6
theorem oC {k:K} {t:Option Ty} {p:Part} {l:List (Nat × Res)} {v:Value} (h:wR ρ t k=some (p,l)) (hM:Mem E ρ W w) (hw:k.wf ρ) (hk:k.holds E ρ w v) :
  ∃ E',Mem E' (after ρ l) W w/\Ext E ρ w E' (after ρ l) w/\jU (fz w E') w p.t v p.x:=by
 cases k
 case nil =>
  simp only[wR] at h;split at h<;>try(cases h;done)
  ·simp only[ah,ak] at h;obtain⟨rfl,rfl⟩:=h;exact⟨E,hM,Ext.refl _ _ _,[.slice none 0 0],hk,none,0,rfl,by simp,by omega,.inl rfl⟩
  ·simp only[ah,ak] at h;obtain⟨rfl,rfl⟩:=h;exact⟨E,hM,Ext.refl _ _ _,[.slice none 0 0],hk,_,rfl,Rd.nil w⟩
 all_goals exact a8d (by simpa only[wR] using h) hM hw hk
end
end
end Go.Proofs.YtbkocjmmbkifjaaGreat
