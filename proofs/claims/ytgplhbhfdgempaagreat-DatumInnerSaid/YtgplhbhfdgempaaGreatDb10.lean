/-
  Lemmas for the statements about datums, part 10 of 37.
-/
import Derived.Test.YtgplhbhfdgempaaGreatDb09
namespace Go.Proofs.YtgplhbhfdgempaaGreat
open Go Go.RowKit
theorem iy:type_of% @List.mem_cons_of_mem:=@List.mem_cons_of_mem
theorem ru:type_of% @List.map_cons:=@List.map_cons
set_option linter.unusedSimpArgs false
set_option linter.unusedVariables false
def jU (F:Nat->Prop) (w:World) (c:List Value) (p:Part):Prop:=rep F w p.t c p.x/\p.t.still=true
def Env.has (E:Env) (r:Nat):Nat->Nat->Prop
 | 0,q=>E.blk r=some q
 | i+1,q=>cZ (E.inn r i)=some q
theorem uQ {w:World} {E:Env} {q:Nat} (h:fz w E q) (r j:Nat):¬ E.has r j q:=by
 cases j with
 | zero=>exact h.2.1 r
 | succ i=>exact h.2.2 r i
theorem vX {w:World} {E:Env} {q:Nat} (h1:q<w.heap.size) (h2:E.base q) (h3:∀ r j,¬ E.has r j q):fz w E q:=⟨⟨h1,h2⟩,fun r=>h3 r 0,fun r i=>h3 r (i+1)⟩
def aX {α:Type} (ids:Option (List Nat)) (xss:List α):List Nat:=match ids with
 | some l=>l
 | none=>List.range xss.length
def K.one:K->Bool
 | .val t _=>!t.agg&&t.still&&decide (t.n=1)
 | .nil=>true
 | .ptr _ _=>true
 | .own _ _=>true
 | _=>false
def nnS (v:Nat) (s:Value):Prop:=v%2=1->s≠.slice none 0 0
theorem a7H (v:Nat) (s:Value):nnS (nx v) s:=fun h=>by unfold nx at h;omega
theorem b2h {v:Nat} {s:Value} (h:nnS v s):nnS (nxf v) s:=fun e=>h (by unfold nxf nx at e;omega)
theorem a5w (s:Value):nnS 0 s:=fun h=>by omega
def oM (E:Env) (w:World) (r:Nat):Res->Prop
 | .none=>E.blk r=none
 | .gone=>E.blk r=none
 | .box ps=>∃ b cs e,E.blk r=some b/\w.heap[b]?=some (.cells cs.toArray e (0,0))/\chunks (jU (fz w E) w) cs ps
 | .row e t xs v=>E.blk r=cZ (E.sl r)/\t.still=true/\∃ cs,w.ownsRow 0 e t.n (E.sl r) xs.length cs/\chunks (rep (fz w E) w t) cs xs/\CAv dP w (E.sl r)/\nnS v (E.sl r)
 | .fro t xs _=>E.blk r=none/\kM (fz w E) w (.list t) (E.sl r) xs
 | .mat e e2 t ids xss _=>E.blk r=cZ (E.sl r)/\t.still=true/\(∃ cs,w.ownsRow 0 e 1 (E.sl r) (aX ids xss).length cs/\cs=(aX ids xss).map (E.inn r)/\CAv dP w (E.sl r))/\(∀ i ∈ aX ids xss,i<xss.length)/\(∀ i,xss.length<=i->cZ (E.inn r i)=none) /\
  ∀ i xs,xss[i]?=some xs->∃ cs,w.ownsRow 0 e2 t.n (E.inn r i) xs.length cs/\chunks (rep (fz w E) w t) cs xs/\CAv dP w (E.inn r i)
 | .nJ _=>True
def SB (ρ:Nat->Res):K0->Prop
 | .val _ _=>True
 | .own r v=>Res.fU v (ρ r)
 | .ptr r _=>(ρ r).qG
 | .oG r=>(ρ r).IX
def K.wf (ρ:Nat->Res):K->Prop
 | .ptr r _=>(ρ r).qG
 | .own r v=>Res.fU v (ρ r)
 | .when b k=>b=true->k.wf ρ
 | .cell r v _=>Res.fU v (ρ r)
 | .mrow r v i=>Res.fU v (ρ r)/\(Res.pF v (ρ r)->i<(ρ r).cnt)
 | .mpos r v i _=>Res.fU v (ρ r)/\(Res.pF v (ρ r)->i<(ρ r).cnt)
 | .oG r=>(ρ r).IX
 | .mix ks=>∀ k ∈ ks,SB ρ k
 | .fn _ ks=>∀ k ∈ ks,SB ρ k
 | .sng r v=>Res.fU v (ρ r)
 | _=>True
theorem a1E {ρ:Nat->Res} {k:K0}:SB ρ k↔(k0K k).wf ρ:=by cases k<;>exact Iff.rfl
def a4O (E:Env) (ρ:Nat->Res) (w:World) (r:Nat) (k:K):Prop:=k.wf ρ/\k.one=true/\∃ b v e,E.blk r=some b/\w.heap[b]?=some (.cells #[v] e (0,0))/\dP v=true/\k.holds E ρ w v
structure Under (M:Nat->Prop) (W w:World):Prop where
 os:w.os=W.os
 tape:w.tape=W.tape
 output:w.output=W.output
 size:W.heap.size<=w.heap.size
 blk:∀ k,k<W.heap.size->¬ M k->w.heap[k]?=W.heap[k]?
theorem Under.below {M:Nat->Prop} {W w:World} (h:Under M W w) (hM:∀ q,¬ M q):Below W.heap.size W w:=⟨h.os,h.tape,h.output,h.size,fun k hk=>h.blk k hk (hM k)⟩
theorem Under.trans {M:Nat->Prop} {W w w':World} (h:Under M W w) (hb:Below w.heap.size w w'):Under M W w':=⟨hb.os.trans h.os,hb.tape.trans h.tape,hb.output.trans h.output,jc h.size hb.size,fun k hk hm=>(hb.block k (jl hk h.size)).trans (h.blk k hk hm)⟩
structure Mem (E:Env) (ρ:Nat->Res) (W w:World):Prop where
 below:Under E.rM W w
 res:∀ r,oM E w r (ρ r)
 inj:∀ r j r' j' b,E.has r j b->E.has r' j' b->r=r'/\j=j'
 mine:∀ r j b,E.has r j b->E.rM b\/W.heap.size<=b
 base:∀ q,E.rM q\/W.heap.size<=q->E.base q
 inner:∀ r i,(ρ r).cnt<=i->cZ (E.inn r i)=none
 kbx:∀ r k,ρ r=.nJ k->a4O E ρ w r k
 dig:∀ b o n,W.cell? ⟨b,o,none⟩=some (.int .u32 n)->w.cell? ⟨b,o,none⟩=some (.int .u32 n)
structure lQ (E:Env) (w w':World) (S:Nat->Prop):Prop where
 os:w'.os=w.os
 tape:w'.tape=w.tape
 output:w'.output=w.output
 size:w.heap.size<=w'.heap.size
 blk:∀ b,b<w.heap.size->(∀ r j,S r->¬ E.has r j b)->w'.heap[b]?=w.heap[b]?
 dig:∀ b o n,w.cell? ⟨b,o,none⟩=some (.int .u32 n)->w'.cell? ⟨b,o,none⟩=some (.int .u32 n)
theorem lQ.below {E:Env} {w w':World} (h:Below w.heap.size w w') (S:Nat->Prop):lQ E w w' S:=⟨h.os,h.tape,h.output,h.size,fun b hb _=>h.block b hb,fun b o n hc=>(h.cell (p:=⟨b,o,none⟩) (cell_lt hc)).trans hc⟩
theorem lQ.stay {E:Env} {w w':World} {S:Nat->Prop} (h:lQ E w w' S):kQ (fz w E) w w':=⟨fun b hb=>h.blk b hb.1.1 (fun r j _=>uQ hb r j),h.dig,h.size⟩
theorem lQ.more {E:Env} {w w':World} {S S':Nat->Prop} (h:lQ E w w' S) (hs:∀ r,S r->S' r):lQ E w w' S':=⟨h.os,h.tape,h.output,h.size,fun b hb hn=>h.blk b hb (fun r j hr=>hn r j (hs r hr)),h.dig⟩
def cO {α:Type} (f:Nat->α) (r:Nat) (x:α):Nat->α:=fun q=>if q=r then x else f q
theorem aG {α:Type} (f:Nat->α) (r:Nat) (x:α):cO f r x r=x:=eY rfl
theorem aT {α:Type} (f:Nat->α) {r q:Nat} (x:α) (h:q≠r):cO f r x q=f q:=dw h
def Env.uJ (E:Env) (r:Nat) (b:Option Nat) (s:Value) (I:Nat->Value):Env:=⟨cO E.blk r b,cO E.sl r s,E.base,cO E.inn r I,E.rM,E.par⟩
def Env.put (E:Env) (r:Nat) (b:Option Nat) (s:Value):Env:=E.uJ r b s (fun _=>undef)
theorem jU.mono {F F':Nat->Prop} {w w':World} (hF:∀ b,F b->F' b) (hs:kQ F w w') {c:List Value} {p:Part} (h:jU F w c p):jU F' w' c p:=⟨dJ hF hs _ _ _ h.1,h.2⟩
theorem fQ {w w':World} {base:Nat} {e:TypeId} {n m:Nat} {v:Value} {cs:List Value} (h:w.ownsRow base e n v m cs) (hb:∀ b,cZ v=some b->w'.heap[b]?=w.heap[b]?):w'.ownsRow base e n v m cs:=by
 obtain⟨j1,j2⟩:=h
 refine⟨j1,j2.imp id ?_⟩
 rintro⟨g,cap,cur,e1,e2,e3,e4⟩
 exact⟨g,cap,cur,e1,e2,(hb g (by rw[e1];rfl)).trans e3,e4⟩
theorem kU {w w':World} {v:Value} {p:Value->Bool} (h:CAv p w v) (hb:∀ b,cZ v=some b->w'.heap[b]?=w.heap[b]?):CAv p w' v:=by
 intro g hg i u hu
 have hg':cZ v=some g:=by
  cases v<;>try (simp[Value.ownBlock] at hg;done)
  rename_i a _ _
  cases a<;>first|(simp[] at hg;done)|exact hg
 rw[Ac (w:=w) (hb g hg')] at hu
 exact h g hg i u hu
theorem nX (v:Value):cZ v=v.ownBlock:=rfl
theorem oM.keep {E E':Env} {w w':World} {r:Nat} {x:Res} (hF:∀ b,fz w E b->fz w' E' b) (hs:kQ (fz w E) w w') (h1:E'.blk r=E.blk r) (h2:E'.sl r=E.sl r) (h3:E'.inn r=E.inn r) (hb:∀ j b,E.has r j b->w'.heap[b]?=w.heap[b]?) (h:oM E w r x):oM E' w' r x:=by
 cases x with
 | none=>exact h1.trans h
 | gone=>exact h1.trans h
 | nJ k=>trivial
 | box ps =>
  obtain⟨b,cs,e,k1,k3,k4⟩:=h
  exact⟨b,cs,e,h1.trans k1,(hb 0 b k1).trans k3,bJ (fun c p=>jU.mono hF hs) _ _ k4⟩
 | row e t xs v =>
  obtain⟨k1,k2,cs,k3,k4,k5⟩:=h
  have hb':∀ b,cZ (E.sl r)=some b->w'.heap[b]?=w.heap[b]?:=fun b e=>hb 0 b (k1.trans e)
  exact⟨by rw[h1,h2];exact k1,k2,cs,by rw[h2];exact fQ k3 hb',bJ (fun c y=>dJ hF hs t c y) _ _ k4,by rw[h2];exact⟨kU k5.1 hb',k5.2⟩⟩
 | fro t xs v =>
  obtain⟨k1,k2⟩:=h
  exact⟨h1.trans k1,by rw[h2];exact iF hF hs k2⟩
 | mat e e2 t ids xss v =>
  obtain⟨k1,k2,⟨cs,k3,k4,k5⟩,k6,k7,k8⟩:=h
  have hb':∀ b,cZ (E.sl r)=some b->w'.heap[b]?=w.heap[b]?:=fun b e=>hb 0 b (k1.trans e)
  refine⟨by rw[h1,h2];exact k1,k2,⟨cs,by rw[h2];exact fQ k3 hb',by rw[h3];exact k4,by rw[h2];exact kU k5 hb'⟩,k6,by rw[h3];exact k7,fun i xs hi=>?_⟩
  obtain⟨ds,q1,q2,q3⟩:=k8 i xs hi
  have hb2:∀ b,cZ (E.inn r i)=some b->w'.heap[b]?=w.heap[b]?:=fun b e=>hb (i+1) b e
  exact⟨ds,by rw[h3];exact fQ q1 hb2,bJ (fun c y=>dJ hF hs t c y) _ _ q2,by rw[h3];exact kU q3 hb2⟩
structure Ext (E:Env) (ρ:Nat->Res) (w:World) (E':Env) (ρ':Nat->Res) (w':World):Prop where
 fz:∀ b,fz w E b->Go.Proofs.YtgplhbhfdgempaaGreat.fz w' E' b
 stay:kQ (Go.Proofs.YtgplhbhfdgempaaGreat.fz w E) w w'
 ptr:∀ r,(ρ r).qG->(ρ' r).qG/\E'.blk r=E.blk r
 kp:∀ r,(ρ r).IX->(ρ' r).IX/\((ρ' r).oO->(ρ r).oO/\E'.blk r=E.blk r)
 ver:∀ r v,Res.fU v (ρ r)->Res.fU v (ρ' r)
 own:∀ r v,Res.fU v (ρ r)->Res.isRow v (ρ' r)->Res.isRow v (ρ r)/\E'.sl r=E.sl r/\(ρ' r).esz=(ρ r).esz
 mat:∀ r v,Res.fU v (ρ r)->Res.pF v (ρ' r)->Res.pF v (ρ r)/\(ρ' r).msz=(ρ r).msz/\(ρ r).cnt<=(ρ' r).cnt/\∀ i,i<(ρ r).cnt->E'.inn r i=E.inn r i
 base:E'.base=E.base
 rM:E'.rM=E.rM
 par:E'.par=E.par
theorem Ext.fix {E E':Env} {ρ ρ':Nat->Res} {w w':World} (h:Ext E ρ w E' ρ' w'):E'.fix=E.fix:=by
 unfold Env.fix
 rw[h.base,h.rM,h.par]
theorem Ext.wf0 {E E':Env} {ρ ρ':Nat->Res} {w w':World} (h:Ext E ρ w E' ρ' w'):(k:K0)->SB ρ k->SB ρ' k
 | .val _ _,_=>trivial
 | .own r v,hk=>h.ver r v hk
 | .ptr r _,hk=>(h.ptr r hk).1
 | .oG r,hk=>(h.kp r hk).1
theorem Ext.wf {E E':Env} {ρ ρ':Nat->Res} {w w':World} (h:Ext E ρ w E' ρ' w'):(k:K)->k.wf ρ->k.wf ρ'
 | .any,_=>trivial
 | .val _ _,_=>trivial
 | .nil,_=>trivial
 | .ptr r _,hk=>(h.ptr r hk).1
 | .own r v,hk=>h.ver r v hk
 | .when _ k,hk=>fun hb=>h.wf k (hk hb)
 | .tup _ _,_=>trivial
 | .cell r v _,hk=>h.ver r v hk
 | .mrow r v i,hk=>⟨h.ver r v hk.1,fun hm=>by
  obtain⟨a,_,b,_⟩:=h.mat r v hk.1 hm
  exact jl (hk.2 a) b⟩
 | .mpos r v i _,hk=>⟨h.ver r v hk.1,fun hm=>by
  obtain⟨a,_,b,_⟩:=h.mat r v hk.1 hm
  exact jl (hk.2 a) b⟩
 | .oG r,hk=>(h.kp r hk).1
 | .mix ks,hk=>fun k hm=>h.wf0 k (hk k hm)
 | .fn _ ks,hk=>fun k hm=>h.wf0 k (hk k hm)
 | .sng r v,hk=>h.ver r v hk
theorem Ext.mix {E E':Env} {ρ ρ':Nat->Res} {w w':World} (h:Ext E ρ w E' ρ' w'):∀ (ks:List K0) (vs:List Value),(∀ k ∈ ks,SB ρ k)->qE (Go.Proofs.YtgplhbhfdgempaaGreat.fz w E) E ρ w ks vs->qE (Go.Proofs.YtgplhbhfdgempaaGreat.fz w' E') E' ρ' w' ks vs
 | [],_,_,hh=>hh
 | k::ks,_,hw,⟨v,vs',h1,h2,h3⟩=>by
  refine⟨v,vs',h1,?_,h.mix ks vs' (fun k hk=>hw k (iy _ hk)) h3⟩
  have hk:=hw k (jX ..)
  cases k with
  | val t x=>exact iF h.fz h.stay h2
  | own r ver =>
   intro hb
   obtain⟨a,b,_⟩:=h.own r ver hk hb
   rw[b];exact h2 a
  | ptr r o =>
   obtain⟨b,h3,h4⟩:=h2
   exact⟨b,(h.ptr r hk).2.trans h3,h4⟩
  | oG r =>
   intro hb
   obtain⟨a1,a2⟩:=(h.kp r hk).2 hb
   obtain⟨b,h3,h4⟩:=h2 a1
   grind
theorem Ext.holds {E E':Env} {ρ ρ':Nat->Res} {w w':World} (h:Ext E ρ w E' ρ' w'):(k:K)->(v:Value)->k.wf ρ->k.holds E ρ w v->k.holds E' ρ' w' v
 | .any,_,_,_=>trivial
 | .val _ _,_,_,hh=>iF h.fz h.stay hh
 | .nil,_,_,hh=>hh
 | .ptr r _,v,hk,⟨b,h3,h4⟩=>⟨b,(h.ptr r hk).2.trans h3,h4⟩
 | .own r ver,v,hk,hh=>fun hb=>by
  obtain⟨h1,h2,_⟩:=h.own r ver hk hb
  rw[h2];exact hh h1
 | .when _ k,v,hk,hh=>⟨fun hb=>h.holds k v (hk hb) (hh.1 hb),hh.2⟩
 | .tup ts x,v,_,⟨vs,h1,h2⟩=>⟨vs,h1,lV h.fz h.stay ts vs x h2⟩
 | .cell r ver i,v,hk,hh=>fun hb=>by
  obtain⟨h1,h2,h3⟩:=h.own r ver hk hb
  obtain⟨b,h4,h5⟩:=hh h1
  grind
 | .mrow r ver i,v,hk,hh=>fun hb=>by
  obtain⟨h1,h2,h3,h4⟩:=h.mat r ver hk.1 hb
  rw[h4 i (hk.2 h1)];exact hh h1
 | .mpos r ver i j,v,hk,hh=>fun hb=>by
  obtain⟨h1,h2,h3,h4⟩:=h.mat r ver hk.1 hb
  obtain⟨b,h5,h6⟩:=hh h1
  exact⟨b,by rw[h4 i (hk.2 h1)];exact h5,by rw[h2];exact h6⟩
 | .oG r,v,hk,hh=>fun hb=>by
  obtain⟨h1,h2⟩:=(h.kp r hk).2 hb
  obtain⟨b,h3,h4⟩:=hh h1
  grind
 | .mix ks,v,hk,⟨vs,h1,h2⟩=>⟨vs,h1,h.mix ks vs hk h2⟩
 | .fn _ ks,v,hk,⟨vs,h1,h2⟩=>⟨vs,h1,h.mix ks vs hk h2⟩
 | .sng r ver,v,hk,hh=>fun hb=>by
  obtain⟨a1,a2,_⟩:=h.own r ver hk hb
  obtain⟨b,h3,h4,h5⟩:=hh a1
  exact⟨b,h3,h.fz b h4,by rw[a2];exact AY h.stay h4 h5⟩
theorem Ext.refl (E:Env) (ρ:Nat->Res) (w:World):Ext E ρ w E ρ w:=⟨fun _ h=>h,kQ.refl _ _,fun _ h=>⟨h,rfl⟩,fun _ h=>⟨h,fun h=>⟨h,rfl⟩⟩,fun _ _ h=>h,fun _ _ _ h=>⟨h,rfl,rfl⟩,fun _ _ _ h=>⟨h,rfl,aj _,fun _ _=>rfl⟩,rfl,rfl,rfl⟩
theorem Ext.trans {E E' E'':Env} {ρ ρ' c3Z:Nat->Res} {w w' w'':World} (h:Ext E ρ w E' ρ' w') (k:Ext E' ρ' w' E'' c3Z w''):Ext E ρ w E'' c3Z w'' :=
 ⟨fun b hb=>k.fz b (h.fz b hb),h.stay.trans (k.stay.less h.fz),
  fun r hr=>⟨(k.ptr r (h.ptr r hr).1).1,(k.ptr r (h.ptr r hr).1).2.trans (h.ptr r hr).2⟩,
  fun r hr=>⟨(k.kp r (h.kp r hr).1).1,fun hb=>by
    obtain⟨a,b⟩:=(k.kp r (h.kp r hr).1).2 hb
    obtain⟨c,d⟩:=(h.kp r hr).2 a
    exact⟨c,b.trans d⟩⟩,
  fun r v hr=>k.ver r v (h.ver r v hr),
  fun r v hr hb=>by
   obtain⟨h1,h2,h5⟩:=k.own r v (h.ver r v hr) hb
   obtain⟨h3,h4,h6⟩:=h.own r v hr h1
   exact⟨h3,h2.trans h4,h5.trans h6⟩,
  fun r v hr hb=>by
   obtain⟨h1,h2,h3,h4⟩:=k.mat r v (h.ver r v hr) hb
   obtain⟨g1,g2,g3,g4⟩:=h.mat r v hr h1
   exact⟨g1,h2.trans g2,jc g3 h3,fun i hi=>(h4 i (jl hi g3)).trans (g4 i hi)⟩,
  k.base.trans h.base,k.rM.trans h.rM,k.par.trans h.par⟩
theorem Mem.lt {E:Env} {ρ:Nat->Res} {W w:World} (h:Mem E ρ W w) {r j b:Nat} (hr:E.has r j b):b<w.heap.size:=by
 have h1:=h.res r
 have b2t:∀ {e n v m cs},w.ownsRow 0 e n v m cs->cZ v=some b->b<w.heap.size:=fun {e n v m cs} hw hv=>by
  rcases hw.2 with⟨j2,_⟩|⟨g,cap,cur,e1,e2,e3,_⟩
  ·rw[j2] at hv;cases hv
  ·rw[e1] at hv;cases hv
   grind
 cases j with
 | zero =>
  have hr:E.blk r=some b:=hr
  cases hx:ρ r with
  | none=>rw[hx] at h1;rw[show E.blk r=none from h1] at hr;cases hr
  | gone=>rw[hx] at h1;rw[show E.blk r=none from h1] at hr;cases hr
  | nJ k =>
   obtain⟨_,_,b',v,e,k1,k2,_⟩:=h.kbx r k hx
   grind
  | box ps =>
   rw[hx] at h1
   obtain⟨b',cs,e,k1,k3,k4⟩:=h1
   grind
  | row e t xs v =>
   rw[hx] at h1
   obtain⟨k1,k2,cs,k3,k4,k5⟩:=h1
   grind
  | fro t xs v=>rw[hx] at h1;rw[h1.1] at hr;cases hr
  | mat e e2 t ids xss v =>
   rw[hx] at h1
   obtain⟨k1,k2,⟨cs,k3,_⟩,_⟩:=h1
   grind
 | succ i =>
  have hr:cZ (E.inn r i)=some b:=hr
  by_cases hc:i<(ρ r).cnt
  ·cases hx:ρ r with
   | mat e e2 t ids xss v =>
    rw[hx] at h1 hc
    obtain⟨k1,k2,_,_,_,k8⟩:=h1
    obtain⟨cs,q1,_⟩:=k8 i (xss[i]'hc) (dn hc)
    grind
   | _=>rw[hx] at hc;simp[Res.cnt] at hc
  ·rw[h.inner r i (by omega)] at hr;cases hr
theorem vY {E E':Env} {w w':World} {S:Nat->Prop} (hsz:w.heap.size<=w'.heap.size) (hb:E'.base=E.base)
  (hE:∀ r,¬ S r->E'.blk r=E.blk r/\E'.inn r=E.inn r)
  (hown:∀ r j b,S r->E'.has r j b->(∃ r0 j0,E.has r0 j0 b)\/w.heap.size<=b):∀ q,fz w E q->fz w' E' q:=fun q hq=>by
 refine vX (jl hq.1.1 hsz) (by rw[hb];exact hq.1.2) (fun r j hr=>?_)
 by_cases hs:S r
 ·rcases hown r j q hs hr with⟨r0,j0,h0⟩|h0
  ·exact uQ hq r0 j0 h0
  ·have:=hq.1.1;omega
 ·obtain⟨e1,e2⟩:=hE r hs
  cases j with
  | zero=>exact uQ hq r 0 (by show E.blk r=some q;rw[<-e1];exact hr)
  | succ i=>exact uQ hq r (i+1) (by show cZ (E.inn r i)=some q;rw[<-e2];exact hr)
theorem Mem.turns {E E':Env} {ρ ρ':Nat->Res} {W w w':World} (h:Mem E ρ W w) (S:Nat->Prop) (hg:lQ E w w' S)
  (hE:∀ r,¬ S r->E'.blk r=E.blk r/\E'.sl r=E.sl r/\E'.inn r=E.inn r/\ρ' r=ρ r) (hb:E'.base=E.base) (hm:E'.rM=E.rM) (hpa:E'.par=E.par)
  (hown:∀ r j b,S r->E'.has r j b->(∃ r0 j0,S r0/\E.has r0 j0 b)\/w.heap.size<=b)
  (hinj:∀ r j r' j' b,S r->S r'->E'.has r j b->E'.has r' j' b->r=r'/\j=j')
  (b1r:∀ r i,S r->(ρ' r).cnt<=i->cZ (E'.inn r i)=none)
  (c5P:∀ r,S r->(ρ r).qG->(ρ' r).qG/\E'.blk r=E.blk r)
  (hkp:∀ r,S r->(ρ r).IX->(ρ' r).IX/\((ρ' r).oO->(ρ r).oO/\E'.blk r=E.blk r))
  (b7C:∀ r v,S r->Res.fU v (ρ r)->Res.fU v (ρ' r))
  (hrow:∀ r v,S r->Res.fU v (ρ r)->Res.isRow v (ρ' r)->Res.isRow v (ρ r)/\E'.sl r=E.sl r/\(ρ' r).esz=(ρ r).esz)
  (MF:∀ r v,S r->Res.fU v (ρ r)->Res.pF v (ρ' r)->Res.pF v (ρ r)/\(ρ' r).msz=(ρ r).msz/\(ρ r).cnt<=(ρ' r).cnt/\∀ i,i<(ρ r).cnt->E'.inn r i=E.inn r i)
  (hx:∀ r,S r->oM E' w' r (ρ' r)) (hk:Ext E ρ w E' ρ' w'->∀ r k,S r->ρ' r=.nJ k->a4O E' ρ' w' r k) :
  Mem E' ρ' W w'/\Ext E ρ w E' ρ' w':=by
 have hs:=hg.stay
 have hF:=vY (S:=S) hg.size hb (fun r hr=>⟨(hE r hr).1,(hE r hr).2.2.1⟩) (fun r j b hr hh=>(hown r j b hr hh).imp (fun⟨r0,j0,_,h0⟩=>⟨r0,j0,h0⟩) id)
 have hhas:∀ r j b,¬ S r->(E'.has r j b↔E.has r j b):=fun r j b hr=>by
  obtain⟨e1,_,e3,_⟩:=hE r hr
  cases j with
  | zero=>show E'.blk r=some b↔E.blk r=some b;rw[e1]
  | succ i=>show cZ (E'.inn r i)=some b↔cZ (E.inn r i)=some b;rw[e3]
 have hX:Ext E ρ w E' ρ' w':=by
  refine⟨hF,hs,fun r hr=>?_,fun r hr=>?_,fun r v hr=>?_,fun r v hr hr'=>?_,fun r v hr hr'=>?_,hb,hm,hpa⟩
  all_goals by_cases e:S r
  ·grind
  ·grind
  ·grind
  ·grind
  ·grind
  ·grind
  ·grind
  ·grind
  ·grind
  ·grind
 have c4Y:∀ r j r' j' b,S r->¬ S r'->E'.has r j b->E'.has r' j' b->False:=fun r j r' j' b h1 h2 h3 h4=>by
  have h5:=(hhas r' j' b h2).1 h4
  rcases hown r j b h1 h3 with⟨r0,j0,k1,k2⟩|k1
  ·have:=(h.inj _ _ _ _ _ k2 h5).1
   grind
  ·have:=h.lt h5;omega
 refine⟨⟨?_,fun r=>?_,fun r j r' j' b h1 h2=>?_,fun r j b h1=>?_,?_,fun r i hi=>?_,fun r k hk'=>?_,fun b o n hc=>hg.dig b o n (h.dig b o n hc)⟩,hX⟩
 ·refine⟨hg.os.trans h.below.os,hg.tape.trans h.below.tape,hg.output.trans h.below.output,jc h.below.size hg.size,fun k hk hmk=>?_⟩
  rw[hm] at hmk
  refine(hg.blk k (jl hk h.below.size) (fun r j _ e=>?_)).trans (h.below.blk k hk hmk)
  rcases h.mine r j k e with e|e
  ·grind
  ·omega
 ·by_cases e:S r
  ·grind
  ·obtain⟨e1,e2,e3,e4⟩:=hE r e
   rw[e4]
   refine(h.res r).keep hF hs e1 e2 e3 (fun j b hb'=>hg.blk b (h.lt hb') (fun r' j' hr' e'=>?_))
   have:=(h.inj _ _ _ _ _ hb' e').1
   grind
 ·by_cases e1:S r
  ·grind
  ·by_cases e2:S r'
   ·grind
   ·exact h.inj r j r' j' b ((hhas r j b e1).1 h1) ((hhas r' j' b e2).1 h2)
 ·rw[hm]
  by_cases e:S r
  ·rcases hown r j b e h1 with⟨r0,j0,_,k2⟩|k
   ·exact h.mine r0 j0 b k2
   ·exact .inr (jc h.below.size k)
  ·exact h.mine r j b ((hhas r j b e).1 h1)
 ·rw[hb,hm];exact h.base
 ·by_cases e:S r
  ·grind
  ·obtain⟨e1,e2,e3,e4⟩:=hE r e
   rw[e4] at hi;rw[e3];exact h.inner r i hi
 ·by_cases e:S r
  ·grind
  ·obtain⟨e1,e2,e3,e4⟩:=hE r e
   rw[e4] at hk'
   obtain⟨q1,q2,b,v,t,q3,q4,q5,q6⟩:=h.kbx r k hk'
   refine⟨hX.wf k q1,q2,b,v,t,e1.trans q3,?_,q5,hX.holds k v q1 q6⟩
   refine(hg.blk b (h.lt (j:=0) q3) (fun r' j' hr' e'=>?_)).trans q4
   have:=(h.inj _ 0 _ _ _ q3 e').1
   grind
theorem Mem.grows {E:Env} {ρ:Nat->Res} {W w w':World} (h:Mem E ρ W w) (hb:Below w.heap.size w w'):Mem E ρ W w'/\Ext E ρ w E ρ w' :=
 h.turns (fun _=>False) (lQ.below hb _) (fun _ _=>⟨rfl,rfl,rfl,rfl⟩) rfl rfl rfl (fun _ _ _ h=>h.elim) (fun _ _ _ _ _ h=>h.elim) (fun _ _ h=>h.elim) (fun _ h=>h.elim) (fun _ h=>h.elim) (fun _ _ h=>h.elim) (fun _ _ h=>h.elim) (fun _ _ h=>h.elim) (fun _ h=>h.elim) (fun _ _ _ h=>h.elim)
theorem oZ {E:Env} {r:Nat} {b:Option Nat} {s:Value} {I:Nat->Value} {r' j q:Nat}:(E.uJ r b s I).has r' j q↔(if r'=r then (match j with|0=>b=some q|i+1=>cZ (I i)=some q) else E.has r' j q):=by
 cases j with
 | zero =>
  show cO E.blk r b r'=some q↔_
  unfold cO
  split<;>exact Iff.rfl
 | succ i =>
  show cZ (cO E.inn r I r' i)=some q↔_
  unfold cO
  split<;>exact Iff.rfl
theorem Mem.JH {E:Env} {ρ:Nat->Res} {W w w':World} (h:Mem E ρ W w) (r:Nat) (hg:lQ E w w' (fun q=>q=r)) (b:Option Nat) (s:Value) (I:Nat->Value) (x:Res) (hx:oM (E.uJ r b s I) w' r x)
  (hown:∀ q,(b=some q\/∃ i,cZ (I i)=some q)->(∃ j0,E.has r j0 q)\/w.heap.size<=q)
  (b6p:∀ q i,b=some q->cZ (I i)≠some q) (c3c:∀ i i' q,cZ (I i)=some q->cZ (I i')=some q->i=i')
  (b1r:∀ i,x.cnt<=i->cZ (I i)=none)
  (hp:(ρ r).qG->x.qG/\b=E.blk r) (hkp:(ρ r).IX->x.IX/\(x.oO->(ρ r).oO/\b=E.blk r)) (hv:∀ v,Res.fU v (ρ r)->Res.fU v x)
  (ho:∀ v,Res.fU v (ρ r)->Res.isRow v x->Res.isRow v (ρ r)/\s=E.sl r/\x.esz=(ρ r).esz)
  (MF:∀ v,Res.fU v (ρ r)->Res.pF v x->Res.pF v (ρ r)/\x.msz=(ρ r).msz/\(ρ r).cnt<=x.cnt/\∀ i,i<(ρ r).cnt->I i=E.inn r i)
  (hk:Ext E ρ w (E.uJ r b s I) (cO ρ r x) w'->∀ k,x=.nJ k->a4O (E.uJ r b s I) (cO ρ r x) w' r k) :
  Mem (E.uJ r b s I) (cO ρ r x) W w'/\Ext E ρ w (E.uJ r b s I) (cO ρ r x) w':=by
 refine h.turns (fun q=>q=r) hg (fun q hq=>⟨aT _ _ hq,aT _ _ hq,aT _ _ hq,aT _ _ hq⟩) rfl rfl rfl (fun r' j q e hh=>?_) (fun r1 j r2 j' q e1 e2 h1 h2=>?_) (fun r' i e hi=>?_) (fun r' e hr=>?_) (fun r' e hr=>?_) (fun r' v e hr=>?_) (fun r' v e hr hr'=>?_) (fun r' v e hr hr'=>?_) (fun r' e=>?_) (fun hX r' k e hr=>?_)
 ·subst e
  rw[oZ,eY rfl] at hh
  rcases hown q (by cases j with|zero=>exact .inl hh|succ i=>exact .inr ⟨i,hh⟩) with⟨j0,h0⟩|h0
  ·grind
  ·grind
 ·subst e1 e2
  rw[oZ,eY rfl] at h1 h2
  refine⟨rfl,?_⟩
  cases j with
  | zero=>cases j' with
   | zero=>rfl
   | succ i=>exact(b6p q i h1 h2).elim
  | succ i=>cases j' with
   | zero=>exact(b6p q i h2 h1).elim
   | succ i'=>rw[c3c i i' q h1 h2]
 ·subst e;rw[aG] at hi;show cZ (cO E.inn r' I r' i)=none;rw[aG];exact b1r i hi
 ·subst e;rw[aG];obtain⟨a,c⟩:=hp hr;exact⟨a,by show cO E.blk r' b r'=_;rw[aG];exact c⟩
 ·subst e;rw[aG];obtain⟨a,c⟩:=hkp hr;exact⟨a,fun hh=>⟨(c hh).1,by show cO E.blk r' b r'=_;rw[aG];exact(c hh).2⟩⟩
 ·subst e;rw[aG];exact hv v hr
 ·subst e;rw[aG] at hr' ⊢;obtain⟨a,c,d⟩:=ho v hr hr';exact⟨a,by show cO E.sl r' s r'=_;rw[aG];exact c,d⟩
 ·subst e;rw[aG] at hr' ⊢;obtain⟨a,c,d,f⟩:=MF v hr hr';exact⟨a,c,d,fun i hi=>by show cO E.inn r' I r' i=_;rw[aG];exact f i hi⟩
 ·subst e;rw[aG];exact hx
 ·subst e;rw[aG] at hr;exact hk hX k hr
theorem Mem.turn {E:Env} {ρ:Nat->Res} {W w w':World} (h:Mem E ρ W w) (r:Nat) (hg:lQ E w w' (fun q=>q=r)) (b:Option Nat) (s:Value) (x:Res) (hx:oM (E.put r b s) w' r x)
  (hb:b=none\/b=E.blk r\/b=some w.heap.size) (hc:x.cnt=0) (hkb:∀ k,x≠.nJ k) (hkg:¬ (ρ r).IX)
  (hp:(ρ r).qG->x.qG/\b=E.blk r) (hv:∀ v,Res.fU v (ρ r)->Res.fU v x)
  (ho:∀ v,Res.fU v (ρ r)->Res.isRow v x->Res.isRow v (ρ r)/\s=E.sl r/\x.esz=(ρ r).esz) (hnm:∀ v,¬ Res.pF v x) :
  Mem (E.put r b s) (cO ρ r x) W w'/\Ext E ρ w (E.put r b s) (cO ρ r x) w' :=
 h.JH r hg b s (fun _=>undef) x hx (fun q hq=>by
  rcases hq with hq|⟨i,hq⟩
  ·rcases hb with e|e|e
   ·grind
   ·exact .inl ⟨0,by show E.blk r=some q;rw[<-e];exact hq⟩
   ·grind
  ·cases hq) (fun q i _ hq=>by cases hq) (fun i i' q hq=>by cases hq) (fun i _=>rfl) hp (fun hh=>(hkg hh).elim) hv ho (fun v _ hh=>(hnm v hh).elim) (fun _ k e=>(hkb k e).elim)
theorem EF {E:Env} {ρ:Nat->Res} {w w':World} {r:Nat} {b:Option Nat} {s:Value} (hsz:w.heap.size<=w'.heap.size) (hb:b=none\/b=E.blk r\/b=some w.heap.size):∀ q,fz w E q->fz w' (E.put r b s) q :=
 vY (S:=fun q=>q=r) hsz rfl (fun q hq=>⟨aT _ _ hq,aT _ _ hq⟩) (fun r' j q e hh=>by
  subst e
  unfold Env.put at hh
  rw[oZ,eY rfl] at hh
  cases j with
  | zero =>
   rcases hb with e|e|e
   ·grind
   ·exact .inl ⟨r',0,by show E.blk r'=some q;rw[<-e];exact hh⟩
   ·grind
  | succ i=>cases hh)
def a6Y {α:Type} (f:α->List Part) (d:α) (xs:List α):Nat->Nat->List Part
 | 0,_=>[]
 | n+1,i=>f (xs.getD i d)++a6Y f d xs n (i+1)
def flat:(t:Ty)->t.den->List Part
 | .pair a b,x=>flat a x.1++flat b x.2
 | .arr n a,x=>a6Y (α:=a.den) (flat a) a.zero x n 0
 | .unit,_=>[]
 | t,x=>[⟨t,x⟩]
theorem rY {α:Type} {R:List Value->α->Prop}:∀ {xs ys:List α} {c d:List Value},chunks R c xs->chunks R d ys->chunks R (c++d) (xs++ys)
 | [],_,c,d,h,k=>by rw[show c=[] from h];exact k
 | x::xs,ys,_,d,⟨c1,c2,h1,h2,h3⟩,k=>⟨c1,c2++d,by rw[h1,yG],h2,rY h3 k⟩
theorem qM {α:Type} {R:List Value->α->Prop}:∀ {xs ys:List α} {c:List Value},chunks R c (xs++ys)->∃ c1 c2,c=c1++c2/\chunks R c1 xs/\chunks R c2 ys
 | [],_,c,h=>⟨[],c,rfl,rfl,h⟩
 | x::xs,ys,_,⟨c1,c2,h1,h2,h3⟩=>by
  obtain⟨d1,d2,rfl,k1,k2⟩:=qM h3
  exact⟨c1++d1,d2,by rw[h1,yG],⟨c1,d1,rfl,h2,k1⟩,k2⟩
theorem pX {α:Type} {R:List Value->α->Prop} {x:α} {c:List Value} (h:R c x):chunks R c [x]:=⟨c,[],by simp,h,rfl⟩
theorem a3d {α:Type} {R:List Value->α->Prop} {S:List Value->Part->Prop} {f:α->List Part} {d:α} (h:∀ c x,R c x->chunks S c (f x)):∀ (ys zs:List α) (cs:List Value),chunks R cs zs->chunks S cs (a6Y f d (ys++zs) zs.length ys.length)
 | _,[],cs,hc=>hc
 | ys,z::zs,_,⟨c1,c2,h1,h2,h3⟩=>by
  rw[h1]
  simp only[List.length_cons,a6Y]
  have e:(ys++z::zs).getD ys.length d=z:=by simp[]
  rw[e]
  have:=a3d (d:=d) h (ys++[z]) zs c2 h3
  rw[yG,gy] at this
  exact rY (h _ _ h2) this
theorem LX {F:Nat->Prop} {w:World}:(t:Ty)->(x:t.den)->(cs:List Value)->t.still=true->rep F w t cs x->chunks (jU F w) cs (flat t x)
 | .pair a b,x,cs,hs,⟨c1,c2,h1,h2,h3⟩=>by
  simp only[Ty.still,ak] at hs
  rw[h1]
  exact rY (LX a x.1 c1 hs.1 h2) (LX b x.2 c2 hs.2 h3)
 | .unit,x,cs,hs,h=>h
 | .bool,x,cs,hs,h=>pX ⟨h,hs⟩
 | .int _,x,cs,hs,h=>pX ⟨h,hs⟩
 | .lf _,x,cs,hs,h=>pX ⟨h,hs⟩
 | .list _,x,cs,hs,h=>pX ⟨h,hs⟩
 | .arr n a,x,cs,hs,h=>by
  obtain⟨h1,h2⟩:=h
  have:=a3d (d:=a.zero) (f:=flat a) (fun c y hy=>LX a y c (by simpa [Ty.still] using hs) hy) [] x cs h2
  rw[h1] at this
  exact this
 | .ref _,x,cs,hs,h=>pX ⟨h,hs⟩
 | .clo _ _,x,cs,hs,h=>pX ⟨h,hs⟩
 | .nls _,x,cs,hs,h=>pX ⟨h,hs⟩
def Ty.zc:Ty->Option (List Value)
 | .bool=>some [.bool false]
 | .int k=>some [.int k 0]
 | .lf .rat=>none
 | .lf .big=>some [.bool false,.slice none 0 0]
 | .lf .aU=>some [.bool false,.slice none 0 0,.bool false,.slice none 0 0]
 | .lf .PW=>some [.bool false,.slice none 0 0]
 | .lf .str=>some [.string ByteArray.empty]
 | .list _=>some [.slice none 0 0]
 | .arr n t=>t.zc.map fun c=>(List.replicate n c).flatten
 | .pair a b=>match a.zc,b.zc with
  | some c,some d=>some (c++d)
  | _,_=>none
 | .unit=>some []
 | _=>none
theorem WY (w:World):iY w (.agg #[.bool false,.slice none 0 0]) true 0:=⟨false,.slice none 0 0,[],rfl,Rd.nil w,by simp,by decide +kernel,by decide +kernel⟩
theorem BZ {F:Nat->Prop} {w:World}:(t:Ty)->(c:List Value)->t.zc=some c->rep F w t c t.zero
 | .bool,c,h=>by simp only[Ty.zc,ah] at h;rw[<-h];rfl
 | .int k,c,h=>by simp only[Ty.zc,ah] at h;rw[<-h];rfl
 | .lf .big,c,h=>by
  simp only[Ty.zc,ah] at h;rw[<-h]
  exact(WY w).int
 | .lf .aU,c,h=>by
  simp only[Ty.zc,ah] at h;rw[<-h]
  have h0:=WY w
  exact⟨false,none,0,false,none,0,rfl,⟨_,_,_,_,true,true,0,0,rfl,h0,h0,rfl,rfl⟩,Rd.nil w,Rd.nil w⟩
 | .lf .PW,c,h=>by
  simp only[Ty.zc,ah] at h;rw[<-h]
  exact⟨false,none,0,rfl,WY w,Rd.nil w⟩
 | .lf .str,c,h=>by simp only[Ty.zc,ah] at h;rw[<-h];rfl
 | .list t,c,h=>by
  simp only[Ty.zc,ah] at h;rw[<-h]
  exact⟨none,0,rfl,by simp[Ty.zero],by omega,.inl rfl⟩
 | .arr n t,c,h=>by
  simp only[Ty.zc,iq] at h
  obtain⟨d,h1,rfl⟩:=h
  refine⟨by simp[Ty.zero],?_⟩
  have hd:=BZ (F:=F) (w:=w) t d h1
  induction n with
  | zero=>exact rfl
  | succ n ih=>exact⟨d,_,by rw[List.replicate_succ,List.flatten_cons],hd,ih⟩
 | .pair a b,c,h=>by
  simp only[Ty.zc] at h
  split at h<;>try(cases h;done)
  rename_i c1 c2 h1 h2
  simp only[ah] at h
  exact⟨c1,c2,h.symm,BZ a c1 h1,BZ b c2 h2⟩
 | .unit,c,h=>by simp only[Ty.zc,ah] at h;rw[<-h];rfl
def veq:Value->Value->Bool
 | .bool a,.bool b=>a==b
 | .int k a,.int k' b=>k==k'&&a==b
 | .slice none 0 0,.slice none 0 0=>true
 | .string a,.string b=>a.data.isEmpty&&b.data.isEmpty
 | _,_=>false
theorem c1B {a b:Value} (h:veq a b=true):a=b:=by
 unfold veq at h
 split at h<;>simp_all
 rename_i a b
 cases a;cases b
 simp_all
def b5Z:List Value->List Value->Bool
 | [],[]=>true
 | a::l,b::m=>veq a b&&b5Z l m
 | _,_=>false
theorem a8t:∀ {a b:List Value},b5Z a b=true->a=b
 | [],[],_=>rfl
 | a::l,b::m,h=>by
  simp only[b5Z,ak] at h
  rw[c1B h.1,a8t h.2]
def a0G (P:Program) (t:TypeId) (ty:Ty):Bool:=match P.info? t,ty.zc with
 | some i,some c=>match i.zero with
  | some z=>b5Z z.cells.toList c&&i.size==ty.n
  | none=>false
 | _,_=>false
theorem CB {P:Program} {t:TypeId} {ty:Ty} (h:a0G P t ty=true):∃ i z c,P.info? t=some i/\i.zero=some z/\ty.zc=some c/\z.cells.toList=c/\i.size=ty.n:=by
 unfold a0G at h
 split at h<;>try(cases h;done)
 rename_i i c h1 h2
 split at h<;>try(cases h;done)
 rename_i z h3
 simp only[ak,jd] at h
 exact⟨i,z,c,h1,h3,h2,a8t h.1,h.2⟩
theorem qH {F:Nat->Prop} {w:World}:(t:Ty)->(cs:List Value)->(x:t.den)->rep F w t cs x->(t.toV cs).cells=cs.toArray
 | .bool,_,_,h=>by rw[show _=_ from h];rfl
 | .int _,_,_,h=>by rw[show _=_ from h];rfl
 | .lf .rat,_,_,h=>rfl
 | .lf .big,_,_,h=>rfl
 | .lf .aU,_,_,h=>rfl
 | .lf .PW,_,_,h=>rfl
 | .lf .str,_,_,h=>by rw[show _=_ from h];rfl
 | .lf .grp,_,_,h=>rfl
 | .lf .gsl,_,_,h=>by
  obtain⟨s,rfl,h2⟩:=h
  obtain⟨p,c,rfl,_,_⟩:=h2.form
  rfl
 | .lf .UU,_,_,h=>by
  obtain⟨b,o,rfl,_⟩:=h
  rfl
 | .list t,_,x,⟨p,c,h1,_⟩=>by rw[h1];rfl
 | .arr n t,_,_,_=>rfl
 | .pair a b,_,_,_=>rfl
 | .unit,_,_,h=>rfl
 | .ref t,_,_,⟨b,o,ds,h1,_⟩=>by rw[h1];rfl
 | .clo _ t,_,_,⟨ds,h1,_⟩=>by rw[h1];rfl
 | .nls t,_,_,h=>by rcases h with⟨_,rfl⟩|⟨ys,b,o,c,ds,_,rfl,_⟩<;>rfl
def QO:List Part->Nat->Option (List Part × List Part)
 | ps,0=>some ([],ps)
 | [],_+1=>none
 | p::ps,o+1=>if p.t.n<=o+1 then (QO ps (o+1-p.t.n)).map fun q=>(p::q.1,q.2) else none
def packs (g:List Part->Option (Part × List Part)) (t:Ty):Nat->List Part->Option (List t.den × List Part)
 | 0,ps=>some ([],ps)
 | n+1,ps=>match g ps with
  | some (p,qs)=>match jS p.t t p.x,packs g t n qs with
   | some x,some (xs,rs)=>some (x::xs,rs)
   | _,_=>none
  | none=>none
def pack:Ty->List Part->Option (Part × List Part)
 | .pair a b,ps=>match pack a ps with
  | some (p,qs)=>(pack b qs).map fun r=>(⟨.pair p.t r.1.t,(p.x,r.1.x)⟩,r.2)
  | none=>none
 | .arr n a,ps=>match pack a ps with
  | some (p,_)=>(packs (pack a) p.t n ps).map fun r=>(⟨.arr n p.t,r.1⟩,r.2)
  | none=>none
 | .unit,ps=>some (⟨.unit,()⟩,ps)
 | _,p::ps=>some (p,ps)
 | _,[]=>none
theorem jU.len {F:Nat->Prop} {w:World} {c:List Value} {p:Part} (h:jU F w c p):c.length=p.t.n:=fC _ _ _ h.1
def a8g (ps:List Part):Nat:=(ps.map (·.t.n)).sum
theorem tV {F:Nat->Prop} {w:World}:∀ {ps:List Part} {c:List Value},chunks (jU F w) c ps->c.length=a8g ps
 | [],c,h=>by rw[show c=[] from h];rfl
 | p::ps,_,⟨c1,c2,h1,h2,h3⟩=>by rw[h1,gy,h2.len,tV h3];simp[a8g]
theorem vW:∀ (ps:List Part) (o:Nat) (a b:List Part),QO ps o=some (a,b)->ps=a++b/\a8g a=o
 | ps,0,a,b,h=>by
  simp only[QO] at h
  obtain⟨rfl,rfl⟩:=h
  exact⟨rfl,rfl⟩
 | p::ps,o+1,a,b,h=>by
  simp only[QO] at h
  split at h<;>try(cases h;done)
  simp only[iq] at h
  obtain⟨⟨a',b'⟩,h1,rfl,rfl⟩:=h
  obtain⟨h2,h3⟩:=vW ps _ a' b' h1
  exact⟨by rw[h2];rfl,by simp only[a8g,ru,List.sum_cons] at *;omega⟩
theorem WW {S:List Value->Part->Prop} {R:(t:Ty)->List Value->t.den->Prop} {g:List Part->Option (Part × List Part)} (hS:∀ c p,S c p->R p.t c p.x) (hg:∀ ps p qs c,g ps=some (p,qs)->chunks S c ps->chunks S c (p::qs)) (t:Ty):∀ (n:Nat) (ps:List Part) (xs:List t.den) (rs:List Part) (c:List Value),packs g t n ps=some (xs,rs)->chunks S c ps->∃ c1 c2,c=c1++c2/\xs.length=n/\chunks (R t) c1 xs/\chunks S c2 rs
 | 0,ps,xs,rs,c,h,hc=>by
  obtain⟨rfl,rfl⟩:=h
  exact⟨[],c,rfl,rfl,rfl,hc⟩
 | n+1,ps,xs,rs,c,h,hc=>by
  simp only[packs] at h
  split at h<;>try(cases h;done)
  rename_i p qs hgp
  split at h<;>try(cases h;done)
  rename_i x xs' rs' hx hr
  obtain⟨rfl,rfl⟩:=h
  obtain⟨c1,c2,rfl,k1,k2⟩:=hg _ _ _ _ hgp hc
  obtain⟨c3,c4,rfl,k3,k4,k5⟩:=WW hS hg t n qs _ _ c2 hr k2
  refine⟨c1++c3,c4,by rw[yG],by simp[k3],⟨c1,c3,rfl,?_,k4⟩,k5⟩
  obtain⟨e,hx⟩:=fJ hx
  grind
theorem vP {F:Nat->Prop} {w:World}:(t:Ty)->(ps:List Part)->(p:Part)->(qs:List Part)->(c:List Value)->pack t ps=some (p,qs)->chunks (jU F w) c ps->∃ c1 c2,c=c1++c2/\jU F w c1 p/\chunks (jU F w) c2 qs
 | .pair a b,ps,p,qs,c,h,hc=>by
  simp only[pack] at h
  split at h<;>try(cases h;done)
  rename_i p1 q1 h1
  simp only[iq] at h
  obtain⟨⟨p2,q2⟩,h2,rfl,rfl⟩:=h
  obtain⟨c1,c2,rfl,k1,k2⟩:=vP a ps p1 q1 c h1 hc
  obtain⟨c3,c4,rfl,k3,k4⟩:=vP b q1 p2 q2 c2 h2 k2
  exact⟨c1++c3,c4,by rw[yG],⟨⟨c1,c3,rfl,k1.1,k3.1⟩,by simp[Ty.still,k1.2,k3.2]⟩,k4⟩
 | .unit,ps,p,qs,c,h,hc=>by
  obtain⟨rfl,rfl⟩:=h
  exact⟨[],c,rfl,⟨rfl,rfl⟩,hc⟩
 | .arr n a,ps,p,qs,c,h,hc=>by
  simp only[pack] at h
  split at h<;>try(cases h;done)
  rename_i p1 q1 h1
  simp only[iq] at h
  obtain⟨⟨xs,rs⟩,h2,rfl,rfl⟩:=h
  obtain⟨c0,c9,_,k0,_⟩:=vP a ps p1 q1 c h1 hc
  obtain⟨c1,c2,e,k1,k2,k3⟩:=WW (S:=jU F w) (R:=rep F w) (fun c p h=>h.1) (fun ps p qs c h hc=>vP a ps p qs c h hc) p1.t n ps xs rs c h2 hc
  exact⟨c1,c2,e,⟨⟨k1,k2⟩,by have:=k0.2;simpa [Ty.still] using this⟩,k3⟩
 | .bool,p'::ps,p,qs,c,h,hc=>by simp only[pack] at h;obtain⟨rfl,rfl⟩:=h;exact hc
 | .int _,p'::ps,p,qs,c,h,hc=>by simp only[pack] at h;obtain⟨rfl,rfl⟩:=h;exact hc
 | .lf _,p'::ps,p,qs,c,h,hc=>by simp only[pack] at h;obtain⟨rfl,rfl⟩:=h;exact hc
 | .list _,p'::ps,p,qs,c,h,hc=>by simp only[pack] at h;obtain⟨rfl,rfl⟩:=h;exact hc
 | .ref _,p'::ps,p,qs,c,h,hc=>by simp only[pack] at h;obtain⟨rfl,rfl⟩:=h;exact hc
 | .nls _,p'::ps,p,qs,c,h,hc=>by simp only[pack] at h;obtain⟨rfl,rfl⟩:=h;exact hc
 | .clo _ _,p'::ps,p,qs,c,h,hc=>by simp only[pack] at h;obtain⟨rfl,rfl⟩:=h;exact hc
end Go.Proofs.YtgplhbhfdgempaaGreat
