/-
  Lemmas for the theorem vtransforms_holds, part 10 of 39.
-/
import Derived.Test.YtgplhbhfdgempaaGreatTr09
namespace Go.Proofs.YtgplhbhfdgempaaGreat
open Go Go.RowKit
theorem jf:type_of% @List.mem_cons_of_mem:=@List.mem_cons_of_mem
theorem yu:type_of% @List.map_cons:=@List.map_cons
set_option linter.unusedSimpArgs false
set_option linter.unusedVariables false
def jH (F:Nat->Prop) (w:World) (c:List Value) (p:Part):Prop:=rep F w p.t c p.x/\p.t.still=true
def Env.has (E:Env) (r:Nat):Nat->Nat->Prop
 | 0,q=>E.blk r=some q
 | i+1,q=>bU (E.inn r i)=some q
theorem sQ {w:World} {E:Env} {q:Nat} (h:fz w E q) (r j:Nat):¬ E.has r j q:=by
 cases j with
 | zero=>exact h.2.1 r
 | succ i=>exact h.2.2 r i
theorem uO {w:World} {E:Env} {q:Nat} (h1:q<w.heap.size) (h2:E.base q) (h3:∀ r j,¬ E.has r j q):fz w E q:=⟨⟨h1,h2⟩,fun r=>h3 r 0,fun r i=>h3 r (i+1)⟩
def aV {α:Type} (ids:Option (List Nat)) (xss:List α):List Nat:=match ids with
 | some l=>l
 | none=>List.range xss.length
def K.one:K->Bool
 | .val t _=>!t.agg&&t.still&&decide (t.n=1)
 | .nil=>true
 | .ptr _ _=>true
 | .own _ _=>true
 | _=>false
def nnS (v:Nat) (s:Value):Prop:=v%2=1->s≠.slice none 0 0
theorem a6e (v:Nat) (s:Value):nnS (nx v) s:=fun h=>by unfold nx at h;omega
theorem b0x {v:Nat} {s:Value} (h:nnS v s):nnS (nxf v) s:=fun e=>h (by unfold nxf nx at e;omega)
theorem a4i (s:Value):nnS 0 s:=fun h=>by omega
def nP (E:Env) (w:World) (r:Nat):Res->Prop
 | .none=>E.blk r=none
 | .gone=>E.blk r=none
 | .box ps=>∃ b cs e,E.blk r=some b/\w.heap[b]?=some (.cells cs.toArray e (0,0))/\chunks (jH (fz w E) w) cs ps
 | .row e t xs v=>E.blk r=bU (E.sl r)/\t.still=true/\∃ cs,w.ownsRow 0 e t.n (E.sl r) xs.length cs/\chunks (rep (fz w E) w t) cs xs/\CAv dN w (E.sl r)/\nnS v (E.sl r)
 | .fro t xs _=>E.blk r=none/\kC (fz w E) w (.list t) (E.sl r) xs
 | .mat e e2 t ids xss _=>E.blk r=bU (E.sl r)/\t.still=true/\(∃ cs,w.ownsRow 0 e 1 (E.sl r) (aV ids xss).length cs/\cs=(aV ids xss).map (E.inn r)/\CAv dN w (E.sl r))/\(∀ i ∈ aV ids xss,i<xss.length)/\(∀ i,xss.length<=i->bU (E.inn r i)=none) /\
  ∀ i xs,xss[i]?=some xs->∃ cs,w.ownsRow 0 e2 t.n (E.inn r i) xs.length cs/\chunks (rep (fz w E) w t) cs xs/\CAv dN w (E.inn r i)
 | .mJ _=>True
def PD (ρ:Nat->Res):K0->Prop
 | .val _ _=>True
 | .own r v=>Res.fJ v (ρ r)
 | .ptr r _=>(ρ r).oW
 | .nK r=>(ρ r).FQ
def K.wf (ρ:Nat->Res):K->Prop
 | .ptr r _=>(ρ r).oW
 | .own r v=>Res.fJ v (ρ r)
 | .when b k=>b=true->k.wf ρ
 | .cell r v _=>Res.fJ v (ρ r)
 | .mrow r v i=>Res.fJ v (ρ r)/\(Res.nZ v (ρ r)->i<(ρ r).cnt)
 | .mpos r v i _=>Res.fJ v (ρ r)/\(Res.nZ v (ρ r)->i<(ρ r).cnt)
 | .nK r=>(ρ r).FQ
 | .mix ks=>∀ k ∈ ks,PD ρ k
 | .fn _ ks=>∀ k ∈ ks,PD ρ k
 | .sng r v=>Res.fJ v (ρ r)
 | _=>True
theorem a0w {ρ:Nat->Res} {k:K0}:PD ρ k↔(k0K k).wf ρ:=by cases k<;>exact Iff.rfl
def a3B (E:Env) (ρ:Nat->Res) (w:World) (r:Nat) (k:K):Prop:=k.wf ρ/\k.one=true/\∃ b v e,E.blk r=some b/\w.heap[b]?=some (.cells #[v] e (0,0))/\dN v=true/\k.holds E ρ w v
structure Under (M:Nat->Prop) (W w:World):Prop where
 os:w.os=W.os
 tape:w.tape=W.tape
 output:w.output=W.output
 size:W.heap.size<=w.heap.size
 blk:∀ k,k<W.heap.size->¬ M k->w.heap[k]?=W.heap[k]?
theorem Under.below {M:Nat->Prop} {W w:World} (h:Under M W w) (hM:∀ q,¬ M q):Below W.heap.size W w:=⟨h.os,h.tape,h.output,h.size,fun k hk=>h.blk k hk (hM k)⟩
theorem Under.trans {M:Nat->Prop} {W w w':World} (h:Under M W w) (hb:Below w.heap.size w w'):Under M W w':=⟨hb.os.trans h.os,hb.tape.trans h.tape,hb.output.trans h.output,jg h.size hb.size,fun k hk hm=>(hb.block k (ku hk h.size)).trans (h.blk k hk hm)⟩
structure Mem (E:Env) (ρ:Nat->Res) (W w:World):Prop where
 below:Under E.qK W w
 res:∀ r,nP E w r (ρ r)
 inj:∀ r j r' j' b,E.has r j b->E.has r' j' b->r=r'/\j=j'
 mine:∀ r j b,E.has r j b->E.qK b\/W.heap.size<=b
 base:∀ q,E.qK q\/W.heap.size<=q->E.base q
 inner:∀ r i,(ρ r).cnt<=i->bU (E.inn r i)=none
 kbx:∀ r k,ρ r=.mJ k->a3B E ρ w r k
 dig:∀ b o n,W.cell? ⟨b,o,none⟩=some (.int .u32 n)->w.cell? ⟨b,o,none⟩=some (.int .u32 n)
structure kV (E:Env) (w w':World) (S:Nat->Prop):Prop where
 os:w'.os=w.os
 tape:w'.tape=w.tape
 output:w'.output=w.output
 size:w.heap.size<=w'.heap.size
 blk:∀ b,b<w.heap.size->(∀ r j,S r->¬ E.has r j b)->w'.heap[b]?=w.heap[b]?
 dig:∀ b o n,w.cell? ⟨b,o,none⟩=some (.int .u32 n)->w'.cell? ⟨b,o,none⟩=some (.int .u32 n)
theorem kV.below {E:Env} {w w':World} (h:Below w.heap.size w w') (S:Nat->Prop):kV E w w' S:=⟨h.os,h.tape,h.output,h.size,fun b hb _=>h.block b hb,fun b o n hc=>(h.cell (p:=⟨b,o,none⟩) (cell_lt hc)).trans hc⟩
theorem kV.stay {E:Env} {w w':World} {S:Nat->Prop} (h:kV E w w' S):jW (fz w E) w w':=⟨fun b hb=>h.blk b hb.1.1 (fun r j _=>sQ hb r j),h.dig,h.size⟩
theorem kV.more {E:Env} {w w':World} {S S':Nat->Prop} (h:kV E w w' S) (hs:∀ r,S r->S' r):kV E w w' S':=⟨h.os,h.tape,h.output,h.size,fun b hb hn=>h.blk b hb (fun r j hr=>hn r j (hs r hr)),h.dig⟩
def bT {α:Type} (f:Nat->α) (r:Nat) (x:α):Nat->α:=fun q=>if q=r then x else f q
theorem aG {α:Type} (f:Nat->α) (r:Nat) (x:α):bT f r x r=x:=gy rfl
theorem aP {α:Type} (f:Nat->α) {r q:Nat} (x:α) (h:q≠r):bT f r x q=f q:=ig h
def Env.sG (E:Env) (r:Nat) (b:Option Nat) (s:Value) (I:Nat->Value):Env:=⟨bT E.blk r b,bT E.sl r s,E.base,bT E.inn r I,E.qK,E.par⟩
def Env.put (E:Env) (r:Nat) (b:Option Nat) (s:Value):Env:=E.sG r b s (fun _=>undef)
theorem jH.mono {F F':Nat->Prop} {w w':World} (hF:∀ b,F b->F' b) (hs:jW F w w') {c:List Value} {p:Part} (h:jH F w c p):jH F' w' c p:=⟨dD hF hs _ _ _ h.1,h.2⟩
theorem fH {w w':World} {base:Nat} {e:TypeId} {n m:Nat} {v:Value} {cs:List Value} (h:w.ownsRow base e n v m cs) (hb:∀ b,bU v=some b->w'.heap[b]?=w.heap[b]?):w'.ownsRow base e n v m cs:=by
 obtain⟨j1,j2⟩:=h
 refine⟨j1,j2.imp id ?_⟩
 rintro⟨g,cap,cur,e1,e2,e3,e4⟩
 exact⟨g,cap,cur,e1,e2,(hb g (by rw[e1];rfl)).trans e3,e4⟩
theorem kD {w w':World} {v:Value} {p:Value->Bool} (h:CAv p w v) (hb:∀ b,bU v=some b->w'.heap[b]?=w.heap[b]?):CAv p w' v:=by
 intro g hg i u hu
 have hg':bU v=some g:=by
  cases v<;>try (simp[Value.ownBlock] at hg;done)
  rename_i a _ _
  cases a<;>first|(simp[] at hg;done)|exact hg
 rw[Cj (w:=w) (hb g hg')] at hu
 exact h g hg i u hu
theorem nG (v:Value):bU v=v.ownBlock:=rfl
theorem nP.keep {E E':Env} {w w':World} {r:Nat} {x:Res} (hF:∀ b,fz w E b->fz w' E' b) (hs:jW (fz w E) w w') (h1:E'.blk r=E.blk r) (h2:E'.sl r=E.sl r) (h3:E'.inn r=E.inn r) (hb:∀ j b,E.has r j b->w'.heap[b]?=w.heap[b]?) (h:nP E w r x):nP E' w' r x:=by
 cases x with
 | none=>exact h1.trans h
 | gone=>exact h1.trans h
 | mJ k=>trivial
 | box ps =>
  obtain⟨b,cs,e,k1,k3,k4⟩:=h
  exact⟨b,cs,e,h1.trans k1,(hb 0 b k1).trans k3,aX (fun c p=>jH.mono hF hs) _ _ k4⟩
 | row e t xs v =>
  obtain⟨k1,k2,cs,k3,k4,k5⟩:=h
  have hb':∀ b,bU (E.sl r)=some b->w'.heap[b]?=w.heap[b]?:=fun b e=>hb 0 b (k1.trans e)
  exact⟨by rw[h1,h2];exact k1,k2,cs,by rw[h2];exact fH k3 hb',aX (fun c y=>dD hF hs t c y) _ _ k4,by rw[h2];exact⟨kD k5.1 hb',k5.2⟩⟩
 | fro t xs v =>
  obtain⟨k1,k2⟩:=h
  exact⟨h1.trans k1,by rw[h2];exact gW hF hs k2⟩
 | mat e e2 t ids xss v =>
  obtain⟨k1,k2,⟨cs,k3,k4,k5⟩,k6,k7,k8⟩:=h
  have hb':∀ b,bU (E.sl r)=some b->w'.heap[b]?=w.heap[b]?:=fun b e=>hb 0 b (k1.trans e)
  refine⟨by rw[h1,h2];exact k1,k2,⟨cs,by rw[h2];exact fH k3 hb',by rw[h3];exact k4,by rw[h2];exact kD k5 hb'⟩,k6,by rw[h3];exact k7,fun i xs hi=>?_⟩
  obtain⟨ds,q1,q2,q3⟩:=k8 i xs hi
  have hb2:∀ b,bU (E.inn r i)=some b->w'.heap[b]?=w.heap[b]?:=fun b e=>hb (i+1) b e
  exact⟨ds,by rw[h3];exact fH q1 hb2,aX (fun c y=>dD hF hs t c y) _ _ q2,by rw[h3];exact kD q3 hb2⟩
structure Ext (E:Env) (ρ:Nat->Res) (w:World) (E':Env) (ρ':Nat->Res) (w':World):Prop where
 fz:∀ b,fz w E b->Go.Proofs.YtgplhbhfdgempaaGreat.fz w' E' b
 stay:jW (Go.Proofs.YtgplhbhfdgempaaGreat.fz w E) w w'
 ptr:∀ r,(ρ r).oW->(ρ' r).oW/\E'.blk r=E.blk r
 kp:∀ r,(ρ r).FQ->(ρ' r).FQ/\((ρ' r).nR->(ρ r).nR/\E'.blk r=E.blk r)
 ver:∀ r v,Res.fJ v (ρ r)->Res.fJ v (ρ' r)
 own:∀ r v,Res.fJ v (ρ r)->Res.isRow v (ρ' r)->Res.isRow v (ρ r)/\E'.sl r=E.sl r/\(ρ' r).esz=(ρ r).esz
 mat:∀ r v,Res.fJ v (ρ r)->Res.nZ v (ρ' r)->Res.nZ v (ρ r)/\(ρ' r).msz=(ρ r).msz/\(ρ r).cnt<=(ρ' r).cnt/\∀ i,i<(ρ r).cnt->E'.inn r i=E.inn r i
 base:E'.base=E.base
 qK:E'.qK=E.qK
 par:E'.par=E.par
theorem Ext.fix {E E':Env} {ρ ρ':Nat->Res} {w w':World} (h:Ext E ρ w E' ρ' w'):E'.fix=E.fix:=by
 unfold Env.fix
 rw[h.base,h.qK,h.par]
theorem Ext.wf0 {E E':Env} {ρ ρ':Nat->Res} {w w':World} (h:Ext E ρ w E' ρ' w'):(k:K0)->PD ρ k->PD ρ' k
 | .val _ _,_=>trivial
 | .own r v,hk=>h.ver r v hk
 | .ptr r _,hk=>(h.ptr r hk).1
 | .nK r,hk=>(h.kp r hk).1
theorem Ext.wf {E E':Env} {ρ ρ':Nat->Res} {w w':World} (h:Ext E ρ w E' ρ' w'):(k:K)->k.wf ρ->k.wf ρ'
 | .any,_=>trivial
 | .val _ _,_=>trivial
 | .nil,_=>trivial
 | .ptr r _,hk=>(h.ptr r hk).1
 | .own r v,hk=>h.ver r v hk
 | .when _ k,hk=>fun hb=>h.wf k (hk hb)
 | .tup _ _,_=>trivial
 | .cell r v _,hk=>h.ver r v hk
 | .mrow r v i,hk=>⟨h.ver r v hk.1,fun hm=>by
  obtain⟨a,_,b,_⟩:=h.mat r v hk.1 hm
  exact ku (hk.2 a) b⟩
 | .mpos r v i _,hk=>⟨h.ver r v hk.1,fun hm=>by
  obtain⟨a,_,b,_⟩:=h.mat r v hk.1 hm
  exact ku (hk.2 a) b⟩
 | .nK r,hk=>(h.kp r hk).1
 | .mix ks,hk=>fun k hm=>h.wf0 k (hk k hm)
 | .fn _ ks,hk=>fun k hm=>h.wf0 k (hk k hm)
 | .sng r v,hk=>h.ver r v hk
theorem Ext.mix {E E':Env} {ρ ρ':Nat->Res} {w w':World} (h:Ext E ρ w E' ρ' w'):∀ (ks:List K0) (vs:List Value),(∀ k ∈ ks,PD ρ k)->oU (Go.Proofs.YtgplhbhfdgempaaGreat.fz w E) E ρ w ks vs->oU (Go.Proofs.YtgplhbhfdgempaaGreat.fz w' E') E' ρ' w' ks vs
 | [],_,_,hh=>hh
 | k::ks,_,hw,⟨v,vs',h1,h2,h3⟩=>by
  refine⟨v,vs',h1,?_,h.mix ks vs' (fun k hk=>hw k (jf _ hk)) h3⟩
  have hk:=hw k (jk ..)
  cases k with
  | val t x=>exact gW h.fz h.stay h2
  | own r ver =>
   intro hb
   obtain⟨a,b,_⟩:=h.own r ver hk hb
   rw[b];exact h2 a
  | ptr r o =>
   obtain⟨b,h3,h4⟩:=h2
   exact⟨b,(h.ptr r hk).2.trans h3,h4⟩
  | nK r =>
   intro hb
   obtain⟨a1,a2⟩:=(h.kp r hk).2 hb
   obtain⟨b,h3,h4⟩:=h2 a1
   grind
theorem Ext.holds {E E':Env} {ρ ρ':Nat->Res} {w w':World} (h:Ext E ρ w E' ρ' w'):(k:K)->(v:Value)->k.wf ρ->k.holds E ρ w v->k.holds E' ρ' w' v
 | .any,_,_,_=>trivial
 | .val _ _,_,_,hh=>gW h.fz h.stay hh
 | .nil,_,_,hh=>hh
 | .ptr r _,v,hk,⟨b,h3,h4⟩=>⟨b,(h.ptr r hk).2.trans h3,h4⟩
 | .own r ver,v,hk,hh=>fun hb=>by
  obtain⟨h1,h2,_⟩:=h.own r ver hk hb
  rw[h2];exact hh h1
 | .when _ k,v,hk,hh=>⟨fun hb=>h.holds k v (hk hb) (hh.1 hb),hh.2⟩
 | .tup ts x,v,_,⟨vs,h1,h2⟩=>⟨vs,h1,kZ h.fz h.stay ts vs x h2⟩
 | .cell r ver i,v,hk,hh=>fun hb=>by
  obtain⟨h1,h2,h3⟩:=h.own r ver hk hb
  obtain⟨b,h4,h5⟩:=hh h1
  grind
 | .mrow r ver i,v,hk,hh=>fun hb=>by
  obtain⟨h1,h2,h3,h4⟩:=h.mat r ver hk.1 hb
  rw[h4 i (hk.2 h1)];exact hh h1
 | .mpos r ver i j,v,hk,hh=>fun hb=>by
  obtain⟨h1,h2,h3,h4⟩:=h.mat r ver hk.1 hb
  obtain⟨b,h5,h6⟩:=hh h1
  exact⟨b,by rw[h4 i (hk.2 h1)];exact h5,by rw[h2];exact h6⟩
 | .nK r,v,hk,hh=>fun hb=>by
  obtain⟨h1,h2⟩:=(h.kp r hk).2 hb
  obtain⟨b,h3,h4⟩:=hh h1
  grind
 | .mix ks,v,hk,⟨vs,h1,h2⟩=>⟨vs,h1,h.mix ks vs hk h2⟩
 | .fn _ ks,v,hk,⟨vs,h1,h2⟩=>⟨vs,h1,h.mix ks vs hk h2⟩
 | .sng r ver,v,hk,hh=>fun hb=>by
  obtain⟨a1,a2,_⟩:=h.own r ver hk hb
  obtain⟨b,h3,h4,h5⟩:=hh a1
  exact⟨b,h3,h.fz b h4,by rw[a2];exact zD h.stay h4 h5⟩
theorem Ext.refl (E:Env) (ρ:Nat->Res) (w:World):Ext E ρ w E ρ w:=⟨fun _ h=>h,jW.refl _ _,fun _ h=>⟨h,rfl⟩,fun _ h=>⟨h,fun h=>⟨h,rfl⟩⟩,fun _ _ h=>h,fun _ _ _ h=>⟨h,rfl,rfl⟩,fun _ _ _ h=>⟨h,rfl,aj _,fun _ _=>rfl⟩,rfl,rfl,rfl⟩
theorem Ext.trans {E E' E'':Env} {ρ ρ' c2y:Nat->Res} {w w' w'':World} (h:Ext E ρ w E' ρ' w') (k:Ext E' ρ' w' E'' c2y w''):Ext E ρ w E'' c2y w'' :=
 ⟨fun b hb=>k.fz b (h.fz b hb),h.stay.trans (k.stay.less h.fz),
  fun r hr=>⟨(k.ptr r (h.ptr r hr).1).1,(k.ptr r (h.ptr r hr).1).2.trans (h.ptr r hr).2⟩,
  fun r hr=>⟨(k.kp r (h.kp r hr).1).1,fun hb=>by
    obtain⟨a,b⟩:=(k.kp r (h.kp r hr).1).2 hb
    obtain⟨c,d⟩:=(h.kp r hr).2 a
    exact⟨c,b.trans d⟩⟩,
  fun r v hr=>k.ver r v (h.ver r v hr),
  fun r v hr hb=>by
   obtain⟨h1,h2,h5⟩:=k.own r v (h.ver r v hr) hb
   obtain⟨h3,h4,h6⟩:=h.own r v hr h1
   exact⟨h3,h2.trans h4,h5.trans h6⟩,
  fun r v hr hb=>by
   obtain⟨h1,h2,h3,h4⟩:=k.mat r v (h.ver r v hr) hb
   obtain⟨g1,g2,g3,g4⟩:=h.mat r v hr h1
   exact⟨g1,h2.trans g2,jg g3 h3,fun i hi=>(h4 i (ku hi g3)).trans (g4 i hi)⟩,
  k.base.trans h.base,k.qK.trans h.qK,k.par.trans h.par⟩
theorem Mem.lt {E:Env} {ρ:Nat->Res} {W w:World} (h:Mem E ρ W w) {r j b:Nat} (hr:E.has r j b):b<w.heap.size:=by
 have h1:=h.res r
 have b0K:∀ {e n v m cs},w.ownsRow 0 e n v m cs->bU v=some b->b<w.heap.size:=fun {e n v m cs} hw hv=>by
  rcases hw.2 with⟨j2,_⟩|⟨g,cap,cur,e1,e2,e3,_⟩
  ·rw[j2] at hv;cases hv
  ·rw[e1] at hv;cases hv
   grind
 cases j with
 | zero =>
  have hr:E.blk r=some b:=hr
  cases hx:ρ r with
  | none=>rw[hx] at h1;rw[show E.blk r=none from h1] at hr;cases hr
  | gone=>rw[hx] at h1;rw[show E.blk r=none from h1] at hr;cases hr
  | mJ k =>
   obtain⟨_,_,b',v,e,k1,k2,_⟩:=h.kbx r k hx
   grind
  | box ps =>
   rw[hx] at h1
   obtain⟨b',cs,e,k1,k3,k4⟩:=h1
   grind
  | row e t xs v =>
   rw[hx] at h1
   obtain⟨k1,k2,cs,k3,k4,k5⟩:=h1
   grind
  | fro t xs v=>rw[hx] at h1;rw[h1.1] at hr;cases hr
  | mat e e2 t ids xss v =>
   rw[hx] at h1
   obtain⟨k1,k2,⟨cs,k3,_⟩,_⟩:=h1
   grind
 | succ i =>
  have hr:bU (E.inn r i)=some b:=hr
  by_cases hc:i<(ρ r).cnt
  ·cases hx:ρ r with
   | mat e e2 t ids xss v =>
    rw[hx] at h1 hc
    obtain⟨k1,k2,_,_,_,k8⟩:=h1
    obtain⟨cs,q1,_⟩:=k8 i (xss[i]'hc) (dw hc)
    grind
   | _=>rw[hx] at hc;simp[Res.cnt] at hc
  ·rw[h.inner r i (by omega)] at hr;cases hr
theorem uP {E E':Env} {w w':World} {S:Nat->Prop} (hsz:w.heap.size<=w'.heap.size) (hb:E'.base=E.base)
  (hE:∀ r,¬ S r->E'.blk r=E.blk r/\E'.inn r=E.inn r)
  (hown:∀ r j b,S r->E'.has r j b->(∃ r0 j0,E.has r0 j0 b)\/w.heap.size<=b):∀ q,fz w E q->fz w' E' q:=fun q hq=>by
 refine uO (ku hq.1.1 hsz) (by rw[hb];exact hq.1.2) (fun r j hr=>?_)
 by_cases hs:S r
 ·rcases hown r j q hs hr with⟨r0,j0,h0⟩|h0
  ·exact sQ hq r0 j0 h0
  ·have:=hq.1.1;omega
 ·obtain⟨e1,e2⟩:=hE r hs
  cases j with
  | zero=>exact sQ hq r 0 (by show E.blk r=some q;rw[<-e1];exact hr)
  | succ i=>exact sQ hq r (i+1) (by show bU (E.inn r i)=some q;rw[<-e2];exact hr)
theorem Mem.turns {E E':Env} {ρ ρ':Nat->Res} {W w w':World} (h:Mem E ρ W w) (S:Nat->Prop) (hg:kV E w w' S)
  (hE:∀ r,¬ S r->E'.blk r=E.blk r/\E'.sl r=E.sl r/\E'.inn r=E.inn r/\ρ' r=ρ r) (hb:E'.base=E.base) (hm:E'.qK=E.qK) (hpa:E'.par=E.par)
  (hown:∀ r j b,S r->E'.has r j b->(∃ r0 j0,S r0/\E.has r0 j0 b)\/w.heap.size<=b)
  (hinj:∀ r j r' j' b,S r->S r'->E'.has r j b->E'.has r' j' b->r=r'/\j=j')
  (a9J:∀ r i,S r->(ρ' r).cnt<=i->bU (E'.inn r i)=none)
  (c4A:∀ r,S r->(ρ r).oW->(ρ' r).oW/\E'.blk r=E.blk r)
  (hkp:∀ r,S r->(ρ r).FQ->(ρ' r).FQ/\((ρ' r).nR->(ρ r).nR/\E'.blk r=E.blk r))
  (b5Y:∀ r v,S r->Res.fJ v (ρ r)->Res.fJ v (ρ' r))
  (hrow:∀ r v,S r->Res.fJ v (ρ r)->Res.isRow v (ρ' r)->Res.isRow v (ρ r)/\E'.sl r=E.sl r/\(ρ' r).esz=(ρ r).esz)
  (KA:∀ r v,S r->Res.fJ v (ρ r)->Res.nZ v (ρ' r)->Res.nZ v (ρ r)/\(ρ' r).msz=(ρ r).msz/\(ρ r).cnt<=(ρ' r).cnt/\∀ i,i<(ρ r).cnt->E'.inn r i=E.inn r i)
  (hx:∀ r,S r->nP E' w' r (ρ' r)) (hk:Ext E ρ w E' ρ' w'->∀ r k,S r->ρ' r=.mJ k->a3B E' ρ' w' r k) :
  Mem E' ρ' W w'/\Ext E ρ w E' ρ' w':=by
 have hs:=hg.stay
 have hF:=uP (S:=S) hg.size hb (fun r hr=>⟨(hE r hr).1,(hE r hr).2.2.1⟩) (fun r j b hr hh=>(hown r j b hr hh).imp (fun⟨r0,j0,_,h0⟩=>⟨r0,j0,h0⟩) id)
 have hhas:∀ r j b,¬ S r->(E'.has r j b↔E.has r j b):=fun r j b hr=>by
  obtain⟨e1,_,e3,_⟩:=hE r hr
  cases j with
  | zero=>show E'.blk r=some b↔E.blk r=some b;rw[e1]
  | succ i=>show bU (E'.inn r i)=some b↔bU (E.inn r i)=some b;rw[e3]
 have hX:Ext E ρ w E' ρ' w':=by
  refine⟨hF,hs,fun r hr=>?_,fun r hr=>?_,fun r v hr=>?_,fun r v hr hr'=>?_,fun r v hr hr'=>?_,hb,hm,hpa⟩
  all_goals by_cases e:S r
  ·grind
  ·grind
  ·grind
  ·grind
  ·grind
  ·grind
  ·grind
  ·grind
  ·grind
  ·grind
 have c3G:∀ r j r' j' b,S r->¬ S r'->E'.has r j b->E'.has r' j' b->False:=fun r j r' j' b h1 h2 h3 h4=>by
  have h5:=(hhas r' j' b h2).1 h4
  rcases hown r j b h1 h3 with⟨r0,j0,k1,k2⟩|k1
  ·have:=(h.inj _ _ _ _ _ k2 h5).1
   grind
  ·have:=h.lt h5;omega
 refine⟨⟨?_,fun r=>?_,fun r j r' j' b h1 h2=>?_,fun r j b h1=>?_,?_,fun r i hi=>?_,fun r k hk'=>?_,fun b o n hc=>hg.dig b o n (h.dig b o n hc)⟩,hX⟩
 ·refine⟨hg.os.trans h.below.os,hg.tape.trans h.below.tape,hg.output.trans h.below.output,jg h.below.size hg.size,fun k hk hmk=>?_⟩
  rw[hm] at hmk
  refine(hg.blk k (ku hk h.below.size) (fun r j _ e=>?_)).trans (h.below.blk k hk hmk)
  rcases h.mine r j k e with e|e
  ·grind
  ·omega
 ·by_cases e:S r
  ·grind
  ·obtain⟨e1,e2,e3,e4⟩:=hE r e
   rw[e4]
   refine(h.res r).keep hF hs e1 e2 e3 (fun j b hb'=>hg.blk b (h.lt hb') (fun r' j' hr' e'=>?_))
   have:=(h.inj _ _ _ _ _ hb' e').1
   grind
 ·by_cases e1:S r
  ·grind
  ·by_cases e2:S r'
   ·grind
   ·exact h.inj r j r' j' b ((hhas r j b e1).1 h1) ((hhas r' j' b e2).1 h2)
 ·rw[hm]
  by_cases e:S r
  ·rcases hown r j b e h1 with⟨r0,j0,_,k2⟩|k
   ·exact h.mine r0 j0 b k2
   ·exact .inr (jg h.below.size k)
  ·exact h.mine r j b ((hhas r j b e).1 h1)
 ·rw[hb,hm];exact h.base
 ·by_cases e:S r
  ·grind
  ·obtain⟨e1,e2,e3,e4⟩:=hE r e
   rw[e4] at hi;rw[e3];exact h.inner r i hi
 ·by_cases e:S r
  ·grind
  ·obtain⟨e1,e2,e3,e4⟩:=hE r e
   rw[e4] at hk'
   obtain⟨q1,q2,b,v,t,q3,q4,q5,q6⟩:=h.kbx r k hk'
   refine⟨hX.wf k q1,q2,b,v,t,e1.trans q3,?_,q5,hX.holds k v q1 q6⟩
   refine(hg.blk b (h.lt (j:=0) q3) (fun r' j' hr' e'=>?_)).trans q4
   have:=(h.inj _ 0 _ _ _ q3 e').1
   grind
theorem Mem.grows {E:Env} {ρ:Nat->Res} {W w w':World} (h:Mem E ρ W w) (hb:Below w.heap.size w w'):Mem E ρ W w'/\Ext E ρ w E ρ w' :=
 h.turns (fun _=>False) (kV.below hb _) (fun _ _=>⟨rfl,rfl,rfl,rfl⟩) rfl rfl rfl (fun _ _ _ h=>h.elim) (fun _ _ _ _ _ h=>h.elim) (fun _ _ h=>h.elim) (fun _ h=>h.elim) (fun _ h=>h.elim) (fun _ _ h=>h.elim) (fun _ _ h=>h.elim) (fun _ _ h=>h.elim) (fun _ h=>h.elim) (fun _ _ _ h=>h.elim)
theorem nY {E:Env} {r:Nat} {b:Option Nat} {s:Value} {I:Nat->Value} {r' j q:Nat}:(E.sG r b s I).has r' j q↔(if r'=r then (match j with|0=>b=some q|i+1=>bU (I i)=some q) else E.has r' j q):=by
 cases j with
 | zero =>
  show bT E.blk r b r'=some q↔_
  unfold bT
  split<;>exact Iff.rfl
 | succ i =>
  show bU (bT E.inn r I r' i)=some q↔_
  unfold bT
  split<;>exact Iff.rfl
theorem Mem.GK {E:Env} {ρ:Nat->Res} {W w w':World} (h:Mem E ρ W w) (r:Nat) (hg:kV E w w' (fun q=>q=r)) (b:Option Nat) (s:Value) (I:Nat->Value) (x:Res) (hx:nP (E.sG r b s I) w' r x)
  (hown:∀ q,(b=some q\/∃ i,bU (I i)=some q)->(∃ j0,E.has r j0 q)\/w.heap.size<=q)
  (b4Q:∀ q i,b=some q->bU (I i)≠some q) (c1A:∀ i i' q,bU (I i)=some q->bU (I i')=some q->i=i')
  (a9J:∀ i,x.cnt<=i->bU (I i)=none)
  (hp:(ρ r).oW->x.oW/\b=E.blk r) (hkp:(ρ r).FQ->x.FQ/\(x.nR->(ρ r).nR/\b=E.blk r)) (hv:∀ v,Res.fJ v (ρ r)->Res.fJ v x)
  (ho:∀ v,Res.fJ v (ρ r)->Res.isRow v x->Res.isRow v (ρ r)/\s=E.sl r/\x.esz=(ρ r).esz)
  (KA:∀ v,Res.fJ v (ρ r)->Res.nZ v x->Res.nZ v (ρ r)/\x.msz=(ρ r).msz/\(ρ r).cnt<=x.cnt/\∀ i,i<(ρ r).cnt->I i=E.inn r i)
  (hk:Ext E ρ w (E.sG r b s I) (bT ρ r x) w'->∀ k,x=.mJ k->a3B (E.sG r b s I) (bT ρ r x) w' r k) :
  Mem (E.sG r b s I) (bT ρ r x) W w'/\Ext E ρ w (E.sG r b s I) (bT ρ r x) w':=by
 refine h.turns (fun q=>q=r) hg (fun q hq=>⟨aP _ _ hq,aP _ _ hq,aP _ _ hq,aP _ _ hq⟩) rfl rfl rfl (fun r' j q e hh=>?_) (fun r1 j r2 j' q e1 e2 h1 h2=>?_) (fun r' i e hi=>?_) (fun r' e hr=>?_) (fun r' e hr=>?_) (fun r' v e hr=>?_) (fun r' v e hr hr'=>?_) (fun r' v e hr hr'=>?_) (fun r' e=>?_) (fun hX r' k e hr=>?_)
 ·subst e
  rw[nY,gy rfl] at hh
  rcases hown q (by cases j with|zero=>exact .inl hh|succ i=>exact .inr ⟨i,hh⟩) with⟨j0,h0⟩|h0
  ·grind
  ·grind
 ·subst e1 e2
  rw[nY,gy rfl] at h1 h2
  refine⟨rfl,?_⟩
  cases j with
  | zero=>cases j' with
   | zero=>rfl
   | succ i=>exact(b4Q q i h1 h2).elim
  | succ i=>cases j' with
   | zero=>exact(b4Q q i h2 h1).elim
   | succ i'=>rw[c1A i i' q h1 h2]
 ·subst e;rw[aG] at hi;show bU (bT E.inn r' I r' i)=none;rw[aG];exact a9J i hi
 ·subst e;rw[aG];obtain⟨a,c⟩:=hp hr;exact⟨a,by show bT E.blk r' b r'=_;rw[aG];exact c⟩
 ·subst e;rw[aG];obtain⟨a,c⟩:=hkp hr;exact⟨a,fun hh=>⟨(c hh).1,by show bT E.blk r' b r'=_;rw[aG];exact(c hh).2⟩⟩
 ·subst e;rw[aG];exact hv v hr
 ·subst e;rw[aG] at hr' ⊢;obtain⟨a,c,d⟩:=ho v hr hr';exact⟨a,by show bT E.sl r' s r'=_;rw[aG];exact c,d⟩
 ·subst e;rw[aG] at hr' ⊢;obtain⟨a,c,d,f⟩:=KA v hr hr';exact⟨a,c,d,fun i hi=>by show bT E.inn r' I r' i=_;rw[aG];exact f i hi⟩
 ·subst e;rw[aG];exact hx
 ·subst e;rw[aG] at hr;exact hk hX k hr
theorem Mem.turn {E:Env} {ρ:Nat->Res} {W w w':World} (h:Mem E ρ W w) (r:Nat) (hg:kV E w w' (fun q=>q=r)) (b:Option Nat) (s:Value) (x:Res) (hx:nP (E.put r b s) w' r x)
  (hb:b=none\/b=E.blk r\/b=some w.heap.size) (hc:x.cnt=0) (hkb:∀ k,x≠.mJ k) (hkg:¬ (ρ r).FQ)
  (hp:(ρ r).oW->x.oW/\b=E.blk r) (hv:∀ v,Res.fJ v (ρ r)->Res.fJ v x)
  (ho:∀ v,Res.fJ v (ρ r)->Res.isRow v x->Res.isRow v (ρ r)/\s=E.sl r/\x.esz=(ρ r).esz) (hnm:∀ v,¬ Res.nZ v x) :
  Mem (E.put r b s) (bT ρ r x) W w'/\Ext E ρ w (E.put r b s) (bT ρ r x) w' :=
 h.GK r hg b s (fun _=>undef) x hx (fun q hq=>by
  rcases hq with hq|⟨i,hq⟩
  ·rcases hb with e|e|e
   ·grind
   ·exact .inl ⟨0,by show E.blk r=some q;rw[<-e];exact hq⟩
   ·grind
  ·cases hq) (fun q i _ hq=>by cases hq) (fun i i' q hq=>by cases hq) (fun i _=>rfl) hp (fun hh=>(hkg hh).elim) hv ho (fun v _ hh=>(hnm v hh).elim) (fun _ k e=>(hkb k e).elim)
theorem BX {E:Env} {ρ:Nat->Res} {w w':World} {r:Nat} {b:Option Nat} {s:Value} (hsz:w.heap.size<=w'.heap.size) (hb:b=none\/b=E.blk r\/b=some w.heap.size):∀ q,fz w E q->fz w' (E.put r b s) q :=
 uP (S:=fun q=>q=r) hsz rfl (fun q hq=>⟨aP _ _ hq,aP _ _ hq⟩) (fun r' j q e hh=>by
  subst e
  unfold Env.put at hh
  rw[nY,gy rfl] at hh
  cases j with
  | zero =>
   rcases hb with e|e|e
   ·grind
   ·exact .inl ⟨r',0,by show E.blk r'=some q;rw[<-e];exact hh⟩
   ·grind
  | succ i=>cases hh)
def a5C {α:Type} (f:α->List Part) (d:α) (xs:List α):Nat->Nat->List Part
 | 0,_=>[]
 | n+1,i=>f (xs.getD i d)++a5C f d xs n (i+1)
def flat:(t:Ty)->t.den->List Part
 | .pair a b,x=>flat a x.1++flat b x.2
 | .arr n a,x=>a5C (α:=a.den) (flat a) a.zero x n 0
 | .unit,_=>[]
 | t,x=>[⟨t,x⟩]
theorem qU {α:Type} {R:List Value->α->Prop}:∀ {xs ys:List α} {c d:List Value},chunks R c xs->chunks R d ys->chunks R (c++d) (xs++ys)
 | [],_,c,d,h,k=>by rw[show c=[] from h];exact k
 | x::xs,ys,_,d,⟨c1,c2,h1,h2,h3⟩,k=>⟨c1,c2++d,by rw[h1,Ar],h2,qU h3 k⟩
theorem pO {α:Type} {R:List Value->α->Prop}:∀ {xs ys:List α} {c:List Value},chunks R c (xs++ys)->∃ c1 c2,c=c1++c2/\chunks R c1 xs/\chunks R c2 ys
 | [],_,c,h=>⟨[],c,rfl,rfl,h⟩
 | x::xs,ys,_,⟨c1,c2,h1,h2,h3⟩=>by
  obtain⟨d1,d2,rfl,k1,k2⟩:=pO h3
  exact⟨c1++d1,d2,by rw[h1,Ar],⟨c1,d1,rfl,h2,k1⟩,k2⟩
theorem oO {α:Type} {R:List Value->α->Prop} {x:α} {c:List Value} (h:R c x):chunks R c [x]:=⟨c,[],by simp,h,rfl⟩
theorem a1U {α:Type} {R:List Value->α->Prop} {S:List Value->Part->Prop} {f:α->List Part} {d:α} (h:∀ c x,R c x->chunks S c (f x)):∀ (ys zs:List α) (cs:List Value),chunks R cs zs->chunks S cs (a5C f d (ys++zs) zs.length ys.length)
 | _,[],cs,hc=>hc
 | ys,z::zs,_,⟨c1,c2,h1,h2,h3⟩=>by
  rw[h1]
  simp only[List.length_cons,a5C]
  have e:(ys++z::zs).getD ys.length d=z:=by simp[]
  rw[e]
  have:=a1U (d:=d) h (ys++[z]) zs c2 h3
  rw[Ar,iw] at this
  exact qU (h _ _ h2) this
theorem JV {F:Nat->Prop} {w:World}:(t:Ty)->(x:t.den)->(cs:List Value)->t.still=true->rep F w t cs x->chunks (jH F w) cs (flat t x)
 | .pair a b,x,cs,hs,⟨c1,c2,h1,h2,h3⟩=>by
  simp only[Ty.still,ak] at hs
  rw[h1]
  exact qU (JV a x.1 c1 hs.1 h2) (JV b x.2 c2 hs.2 h3)
 | .unit,x,cs,hs,h=>h
 | .bool,x,cs,hs,h=>oO ⟨h,hs⟩
 | .int _,x,cs,hs,h=>oO ⟨h,hs⟩
 | .lf _,x,cs,hs,h=>oO ⟨h,hs⟩
 | .list _,x,cs,hs,h=>oO ⟨h,hs⟩
 | .arr n a,x,cs,hs,h=>by
  obtain⟨h1,h2⟩:=h
  have:=a1U (d:=a.zero) (f:=flat a) (fun c y hy=>JV a y c (by simpa [Ty.still] using hs) hy) [] x cs h2
  rw[h1] at this
  exact this
 | .ref _,x,cs,hs,h=>oO ⟨h,hs⟩
 | .clo _ _,x,cs,hs,h=>oO ⟨h,hs⟩
 | .nls _,x,cs,hs,h=>oO ⟨h,hs⟩
def Ty.zc:Ty->Option (List Value)
 | .bool=>some [.bool false]
 | .int k=>some [.int k 0]
 | .lf .rat=>none
 | .lf .big=>some [.bool false,.slice none 0 0]
 | .lf .dF=>some [.bool false,.slice none 0 0,.bool false,.slice none 0 0]
 | .lf .ND=>some [.bool false,.slice none 0 0]
 | .lf .str=>some [.string ByteArray.empty]
 | .list _=>some [.slice none 0 0]
 | .arr n t=>t.zc.map fun c=>(List.replicate n c).flatten
 | .pair a b=>match a.zc,b.zc with
  | some c,some d=>some (c++d)
  | _,_=>none
 | .unit=>some []
 | _=>none
theorem UF (w:World):iQ w (.agg #[.bool false,.slice none 0 0]) true 0:=⟨false,.slice none 0 0,[],rfl,Rd.nil w,by simp,by decide +kernel,by decide +kernel⟩
theorem zW {F:Nat->Prop} {w:World}:(t:Ty)->(c:List Value)->t.zc=some c->rep F w t c t.zero
 | .bool,c,h=>by simp only[Ty.zc,ah] at h;rw[<-h];rfl
 | .int k,c,h=>by simp only[Ty.zc,ah] at h;rw[<-h];rfl
 | .lf .big,c,h=>by
  simp only[Ty.zc,ah] at h;rw[<-h]
  exact(UF w).int
 | .lf .dF,c,h=>by
  simp only[Ty.zc,ah] at h;rw[<-h]
  have h0:=UF w
  exact⟨false,none,0,false,none,0,rfl,⟨_,_,_,_,true,true,0,0,rfl,h0,h0,rfl,rfl⟩,Rd.nil w,Rd.nil w⟩
 | .lf .ND,c,h=>by
  simp only[Ty.zc,ah] at h;rw[<-h]
  exact⟨false,none,0,rfl,UF w,Rd.nil w⟩
 | .lf .str,c,h=>by simp only[Ty.zc,ah] at h;rw[<-h];rfl
 | .list t,c,h=>by
  simp only[Ty.zc,ah] at h;rw[<-h]
  exact⟨none,0,rfl,by simp[Ty.zero],by omega,.inl rfl⟩
 | .arr n t,c,h=>by
  simp only[Ty.zc,je] at h
  obtain⟨d,h1,rfl⟩:=h
  refine⟨by simp[Ty.zero],?_⟩
  have hd:=zW (F:=F) (w:=w) t d h1
  induction n with
  | zero=>exact rfl
  | succ n ih=>exact⟨d,_,by rw[List.replicate_succ,List.flatten_cons],hd,ih⟩
 | .pair a b,c,h=>by
  simp only[Ty.zc] at h
  split at h<;>try(cases h;done)
  rename_i c1 c2 h1 h2
  simp only[ah] at h
  exact⟨c1,c2,h.symm,zW a c1 h1,zW b c2 h2⟩
 | .unit,c,h=>by simp only[Ty.zc,ah] at h;rw[<-h];rfl
def veq:Value->Value->Bool
 | .bool a,.bool b=>a==b
 | .int k a,.int k' b=>k==k'&&a==b
 | .slice none 0 0,.slice none 0 0=>true
 | .string a,.string b=>a.data.isEmpty&&b.data.isEmpty
 | _,_=>false
theorem b9S {a b:Value} (h:veq a b=true):a=b:=by
 unfold veq at h
 split at h<;>simp_all
 rename_i a b
 cases a;cases b
 simp_all
def b4A:List Value->List Value->Bool
 | [],[]=>true
 | a::l,b::m=>veq a b&&b4A l m
 | _,_=>false
theorem a6O:∀ {a b:List Value},b4A a b=true->a=b
 | [],[],_=>rfl
 | a::l,b::m,h=>by
  simp only[b4A,ak] at h
  rw[b9S h.1,a6O h.2]
def ZC (P:Program) (t:TypeId) (ty:Ty):Bool:=match P.info? t,ty.zc with
 | some i,some c=>match i.zero with
  | some z=>b4A z.cells.toList c&&i.size==ty.n
  | none=>false
 | _,_=>false
theorem zX {P:Program} {t:TypeId} {ty:Ty} (h:ZC P t ty=true):∃ i z c,P.info? t=some i/\i.zero=some z/\ty.zc=some c/\z.cells.toList=c/\i.size=ty.n:=by
 unfold ZC at h
 split at h<;>try(cases h;done)
 rename_i i c h1 h2
 split at h<;>try(cases h;done)
 rename_i z h3
 simp only[ak,ji] at h
 exact⟨i,z,c,h1,h3,h2,a6O h.1,h.2⟩
theorem pF {F:Nat->Prop} {w:World}:(t:Ty)->(cs:List Value)->(x:t.den)->rep F w t cs x->(t.toV cs).cells=cs.toArray
 | .bool,_,_,h=>by rw[show _=_ from h];rfl
 | .int _,_,_,h=>by rw[show _=_ from h];rfl
 | .lf .rat,_,_,h=>rfl
 | .lf .big,_,_,h=>rfl
 | .lf .dF,_,_,h=>rfl
 | .lf .ND,_,_,h=>rfl
 | .lf .str,_,_,h=>by rw[show _=_ from h];rfl
 | .lf .grp,_,_,h=>rfl
 | .lf .gsl,_,_,h=>by
  obtain⟨s,rfl,h2⟩:=h
  obtain⟨p,c,rfl,_,_⟩:=h2.form
  rfl
 | .lf .RY,_,_,h=>by
  obtain⟨b,o,rfl,_⟩:=h
  rfl
 | .list t,_,x,⟨p,c,h1,_⟩=>by rw[h1];rfl
 | .arr n t,_,_,_=>rfl
 | .pair a b,_,_,_=>rfl
 | .unit,_,_,h=>rfl
 | .ref t,_,_,⟨b,o,ds,h1,_⟩=>by rw[h1];rfl
 | .clo _ t,_,_,⟨ds,h1,_⟩=>by rw[h1];rfl
 | .nls t,_,_,h=>by rcases h with⟨_,rfl⟩|⟨ys,b,o,c,ds,_,rfl,_⟩<;>rfl
def NY:List Part->Nat->Option (List Part × List Part)
 | ps,0=>some ([],ps)
 | [],_+1=>none
 | p::ps,o+1=>if p.t.n<=o+1 then (NY ps (o+1-p.t.n)).map fun q=>(p::q.1,q.2) else none
def packs (g:List Part->Option (Part × List Part)) (t:Ty):Nat->List Part->Option (List t.den × List Part)
 | 0,ps=>some ([],ps)
 | n+1,ps=>match g ps with
  | some (p,qs)=>match jE p.t t p.x,packs g t n qs with
   | some x,some (xs,rs)=>some (x::xs,rs)
   | _,_=>none
  | none=>none
def pack:Ty->List Part->Option (Part × List Part)
 | .pair a b,ps=>match pack a ps with
  | some (p,qs)=>(pack b qs).map fun r=>(⟨.pair p.t r.1.t,(p.x,r.1.x)⟩,r.2)
  | none=>none
 | .arr n a,ps=>match pack a ps with
  | some (p,_)=>(packs (pack a) p.t n ps).map fun r=>(⟨.arr n p.t,r.1⟩,r.2)
  | none=>none
 | .unit,ps=>some (⟨.unit,()⟩,ps)
 | _,p::ps=>some (p,ps)
 | _,[]=>none
theorem jH.len {F:Nat->Prop} {w:World} {c:List Value} {p:Part} (h:jH F w c p):c.length=p.t.n:=dZ _ _ _ h.1
def a6C (ps:List Part):Nat:=(ps.map (·.t.n)).sum
theorem rX {F:Nat->Prop} {w:World}:∀ {ps:List Part} {c:List Value},chunks (jH F w) c ps->c.length=a6C ps
 | [],c,h=>by rw[show c=[] from h];rfl
 | p::ps,_,⟨c1,c2,h1,h2,h3⟩=>by rw[h1,iw,h2.len,rX h3];simp[a6C]
theorem uN:∀ (ps:List Part) (o:Nat) (a b:List Part),NY ps o=some (a,b)->ps=a++b/\a6C a=o
 | ps,0,a,b,h=>by
  simp only[NY] at h
  obtain⟨rfl,rfl⟩:=h
  exact⟨rfl,rfl⟩
 | p::ps,o+1,a,b,h=>by
  simp only[NY] at h
  split at h<;>try(cases h;done)
  simp only[je] at h
  obtain⟨⟨a',b'⟩,h1,rfl,rfl⟩:=h
  obtain⟨h2,h3⟩:=uN ps _ a' b' h1
  exact⟨by rw[h2];rfl,by simp only[a6C,yu,List.sum_cons] at *;omega⟩
theorem UD {S:List Value->Part->Prop} {R:(t:Ty)->List Value->t.den->Prop} {g:List Part->Option (Part × List Part)} (hS:∀ c p,S c p->R p.t c p.x) (hg:∀ ps p qs c,g ps=some (p,qs)->chunks S c ps->chunks S c (p::qs)) (t:Ty):∀ (n:Nat) (ps:List Part) (xs:List t.den) (rs:List Part) (c:List Value),packs g t n ps=some (xs,rs)->chunks S c ps->∃ c1 c2,c=c1++c2/\xs.length=n/\chunks (R t) c1 xs/\chunks S c2 rs
 | 0,ps,xs,rs,c,h,hc=>by
  obtain⟨rfl,rfl⟩:=h
  exact⟨[],c,rfl,rfl,rfl,hc⟩
 | n+1,ps,xs,rs,c,h,hc=>by
  simp only[packs] at h
  split at h<;>try(cases h;done)
  rename_i p qs hgp
  split at h<;>try(cases h;done)
  rename_i x xs' rs' hx hr
  obtain⟨rfl,rfl⟩:=h
  obtain⟨c1,c2,rfl,k1,k2⟩:=hg _ _ _ _ hgp hc
  obtain⟨c3,c4,rfl,k3,k4,k5⟩:=UD hS hg t n qs _ _ c2 hr k2
  refine⟨c1++c3,c4,by rw[Ar],by simp[k3],⟨c1,c3,rfl,?_,k4⟩,k5⟩
  obtain⟨e,hx⟩:=fC hx
  grind
theorem uG {F:Nat->Prop} {w:World}:(t:Ty)->(ps:List Part)->(p:Part)->(qs:List Part)->(c:List Value)->pack t ps=some (p,qs)->chunks (jH F w) c ps->∃ c1 c2,c=c1++c2/\jH F w c1 p/\chunks (jH F w) c2 qs
 | .pair a b,ps,p,qs,c,h,hc=>by
  simp only[pack] at h
  split at h<;>try(cases h;done)
  rename_i p1 q1 h1
  simp only[je] at h
  obtain⟨⟨p2,q2⟩,h2,rfl,rfl⟩:=h
  obtain⟨c1,c2,rfl,k1,k2⟩:=uG a ps p1 q1 c h1 hc
  obtain⟨c3,c4,rfl,k3,k4⟩:=uG b q1 p2 q2 c2 h2 k2
  exact⟨c1++c3,c4,by rw[Ar],⟨⟨c1,c3,rfl,k1.1,k3.1⟩,by simp[Ty.still,k1.2,k3.2]⟩,k4⟩
 | .unit,ps,p,qs,c,h,hc=>by
  obtain⟨rfl,rfl⟩:=h
  exact⟨[],c,rfl,⟨rfl,rfl⟩,hc⟩
 | .arr n a,ps,p,qs,c,h,hc=>by
  simp only[pack] at h
  split at h<;>try(cases h;done)
  rename_i p1 q1 h1
  simp only[je] at h
  obtain⟨⟨xs,rs⟩,h2,rfl,rfl⟩:=h
  obtain⟨c0,c9,_,k0,_⟩:=uG a ps p1 q1 c h1 hc
  obtain⟨c1,c2,e,k1,k2,k3⟩:=UD (S:=jH F w) (R:=rep F w) (fun c p h=>h.1) (fun ps p qs c h hc=>uG a ps p qs c h hc) p1.t n ps xs rs c h2 hc
  exact⟨c1,c2,e,⟨⟨k1,k2⟩,by have:=k0.2;simpa [Ty.still] using this⟩,k3⟩
 | .bool,p'::ps,p,qs,c,h,hc=>by simp only[pack] at h;obtain⟨rfl,rfl⟩:=h;exact hc
 | .int _,p'::ps,p,qs,c,h,hc=>by simp only[pack] at h;obtain⟨rfl,rfl⟩:=h;exact hc
 | .lf _,p'::ps,p,qs,c,h,hc=>by simp only[pack] at h;obtain⟨rfl,rfl⟩:=h;exact hc
 | .list _,p'::ps,p,qs,c,h,hc=>by simp only[pack] at h;obtain⟨rfl,rfl⟩:=h;exact hc
 | .ref _,p'::ps,p,qs,c,h,hc=>by simp only[pack] at h;obtain⟨rfl,rfl⟩:=h;exact hc
 | .nls _,p'::ps,p,qs,c,h,hc=>by simp only[pack] at h;obtain⟨rfl,rfl⟩:=h;exact hc
 | .clo _ _,p'::ps,p,qs,c,h,hc=>by simp only[pack] at h;obtain⟨rfl,rfl⟩:=h;exact hc
end Go.Proofs.YtgplhbhfdgempaaGreat
