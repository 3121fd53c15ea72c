/-
  Lemmas for the theorem vestimables_holds, part 9 of 36.
-/
import Derived.Test.YtgplhbhfdgempaaGreatQe08
namespace Go.Proofs.YtgplhbhfdgempaaGreat
open Go Go.RowKit
theorem zq:type_of% @cell_of_row:=@cell_of_row
theorem Dl:type_of% @heap_alloc_new:=@heap_alloc_new
theorem jf:type_of% @List.mem_cons_of_mem:=@List.mem_cons_of_mem
theorem yx:type_of% @List.map_cons:=@List.map_cons
set_option linter.unusedSimpArgs false
set_option linter.unusedVariables false
set_option maxRecDepth 20000
theorem qQ.congr {w:World} {b n K:Nat} {ok ok':Nat->Bool} {e e':Nat->Rat} (h:qQ w b n K ok e) (h1:∀ i,i<n->ok i=ok' i) (h2:∀ i,i<n->e i=e' i):qQ w b n K ok' e':=by
 obtain⟨f,k1,k2⟩:=h
 exact⟨f,k1,fun j hj=>by rw[<-h1 j hj,<-h2 j hj];exact k2 j hj⟩
theorem wB.rsz {w:World} {s:Value} {n K:Nat} {ok:Nat->Bool} {e:Nat->Rat} (h:wB w s n K ok e) {i:Nat} (hi:i<n) (ho:ok i=true):rsz (e i)<=K:=by
 obtain⟨p,c,rfl,_,_⟩:=h.form
 obtain⟨b,o,g,q,m,d,g',q',m',d',_,_,_,_,_,_,hr,hn⟩:=h.at_ hi
 rw[ho] at hr
 exact hr.rq.lC hn
theorem WO.rsz {w:World} {s:Value} {n K:Nat} {e:Nat->Rat} (h:WO w s n K e) {i:Nat} (hi:i<n):Go.Proofs.YtgplhbhfdgempaaGreat.rsz (e i)<=K:=wB.rsz h hi rfl
theorem WO.below {w w':World} {s:Value} {n K:Nat} {e:Nat->Rat} (h:WO w s n K e) (hb:Below w.heap.size w w'):WO w' s n K e:=wB.below h hb
theorem WO.at_ {w:World} {p:Option Addr} {n c K:Nat} {e:Nat->Rat} (h:WO w (.slice p n c) n K e) {k:Nat} (hk:k<n) :
 ∃ b o g q m d g' q' m' d',p=some ⟨b,o,none⟩/\b<w.heap.size/\w.cell? ⟨b,o+k*4,none⟩=some (.bool g)/\w.cell? ⟨b,o+k*4+1,none⟩=some (.slice q m d)/\w.cell? ⟨b,o+k*4+2,none⟩=some (.bool g')/\w.cell? ⟨b,o+k*4+3,none⟩=some (.slice q' m' d') /\
  iE w (.agg #[.bool g,.slice q m d,.bool g',.slice q' m' d']) true (e k)/\Qn (.agg #[.bool g,.slice q m d,.bool g',.slice q' m' d']) K:=wB.at_ h hk
theorem WO.form {w:World} {s:Value} {n K:Nat} {e:Nat->Rat} (h:WO w s n K e):∃ p c,s=.slice p n c/\n<=c/\c<=9223372036854775807:=wB.form h
theorem a4c.below {w w':World} {v:Value} {R C K:Nat} {e:Nat->Nat->Rat} (h:a4c w v R C K e) (hb:Below w.heap.size w w'):a4c w' v R C K e:=BI.below h hb
theorem a4c.form {w:World} {v:Value} {R C K:Nat} {e:Nat->Nat->Rat} (h:a4c w v R C K e):∃ p c,v=.slice p R c/\R<=c/\c<=9223372036854775807:=BI.form h
theorem a4c.at_ {w:World} {p:Option Addr} {R C c K:Nat} {e:Nat->Nat->Rat} (h:a4c w (.slice p R c) R C K e) {k:Nat} (hk:k<R) :
 ∃ b o q d,p=some ⟨b,o,none⟩/\b<w.heap.size/\w.cell? ⟨b,o+k,none⟩=some (.slice q C d)/\WO w (.slice q C d) C K (e k):=BI.at_ h hk
def Z4:Array Value:=#[.bool false,.slice none 0 0,.bool false,.slice none 0 0]
theorem qQ.made (w:World) (C K:Nat):qQ (w.alloc (.cells (madeCells Z4 (C*4)) 64)) w.heap.size C K (fun _=>false) (fun _=>0):=by
 have hs:(madeCells Z4 (C*4)).size=C*4:=size_madeCells _ _
 refine⟨fun i=>Z4[i%4]!,?_,fun j hj=>?_⟩
 ·have:=World.rowIs_alloc w (madeCells Z4 (C*4)) 64 (fun i=>Z4[i%4]!) (fun i hi=>by
   rw[hs] at hi
   simp[madeCells,hi,Z4])
  rw[hs] at this
  exact this
 ·have e0:j*4%4=0:=by omega
  have e1:(j*4+1)%4=1:=by omega
  have e2:(j*4+2)%4=2:=by omega
  have e3:(j*4+3)%4=3:=by omega
  simp only[e0,e1,e2,e3]
  exact QC.zero _ _
theorem a4b.start (w:World) (R C K:Nat) (rb:Nat->Nat) (e:Nat->Nat->Rat) (base:Nat) (hb:base<=w.heap.size):a4b (w.alloc (.cells (madeCells #[.slice none 0 0] R) 32)) base w.heap.size R C K 0 rb e :=
 ⟨(World.rowIs_made w (.slice none 0 0) R 32).congr (fun i _=>by rw[iq (by omega)]),hb,fun i hi=>by omega,fun i hi=>by omega,fun i j hi=>by omega⟩
structure QA (w:World) (base b R C K k j:Nat) (rb:Nat->Nat) (e:Nat->Nat->Rat):Prop where
 outer:w.rowIs b 32 R (fun i=>if i<k+1 then .slice (some ⟨rb i,0,none⟩) C C else .slice none 0 0)
 hb:base<=b
 rows:∀ i,i<k->qQ w (rb i) C K (fun _=>true) (e i)
 row:qQ w (rb k) C K (fun c=>decide (c<j)) (fun c=>if c<j then e k c else 0)
 hrb:∀ i,i<k+1->base<=rb i/\rb i≠b
 inj:∀ i j,i<k+1->j<k+1->rb i=rb j->i=j
theorem QA.below {w w':World} {base b R C K k j:Nat} {rb:Nat->Nat} {e:Nat->Nat->Rat} (h:QA w base b R C K k j rb e) (hb:Below w.heap.size w w'):QA w' base b R C K k j rb e :=
 ⟨h.outer.of_block (hb.block b h.outer.lt),h.hb,fun i hi=>(h.rows i hi).below (m:=0) hb,h.row.below (m:=0) hb,h.hrb,h.inj⟩
theorem QA.start {w:World} {base b R C K k:Nat} {rb:Nat->Nat} {e:Nat->Nat->Rat} (h:a4b w base b R C K k rb e) (hk:k<R) (hbase:base<=w.heap.size) :
  QA ((w.alloc (.cells (madeCells Z4 (C*4)) 64)).setCell ⟨b,k,none⟩ (.slice (some ⟨w.heap.size,0,none⟩) C C)) base b R C K k 0 (fun i=>if i=k then w.heap.size else rb i) e:=by
 have hlt:=h.outer.lt
 have hne:w.heap.size≠b:=by omega
 have hc:(w.alloc (.cells (madeCells Z4 (C*4)) 64)).cell? ⟨b,k,none⟩=some (.slice none 0 0):=by
  have:=(h.outer.alloc (.cells (madeCells Z4 (C*4)) 64)).cell hk
  rw[iq (by omega)] at this
  exact this
 refine⟨((h.outer.alloc _).set k _).congr (fun i hi=>?_),h.hb,fun i hi=>?_,?_,fun i hi=>?_,fun i j hi hj=>?_⟩
 ·by_cases e1:i=k
  ·subst e1;simp
  ·simp only[iq e1]
   by_cases e2:i<k
   ·rw[ig e2,ig (by omega)]
   ·rw[iq e2,iq (by omega)]
 ·rw[iq (by omega)]
  exact((h.rows i hi).below (m:=0) ((dw _ _).alloc (aj _) _)).other (h.hrb i hi).2 hc rfl _
 ·simp only[Dn]
  exact((qQ.made w C K).other hne hc rfl _).congr (fun i _=>by simp) (fun i _=>by simp)
 ·by_cases e1:i=k
  ·rw[ig e1];exact⟨hbase,hne⟩
  ·rw[iq e1];exact h.hrb i (by omega)
 ·by_cases e1:i=k
  ·by_cases e2:j=k
   ·intro _;omega
   ·rw[ig e1,iq e2];intro e3;have:=(h.rows j (by omega)).lt;omega
  ·by_cases e2:j=k
   ·rw[iq e1,ig e2];intro e3;have:=(h.rows i (by omega)).lt;omega
   ·rw[iq e1,iq e2];exact h.inj i j (by omega) (by omega)
theorem QA.step {w:World} {base b R C K k j:Nat} {rb:Nat->Nat} {e:Nat->Nat->Rat} (h:QA w base b R C K k j rb e) (hj:j<C) {x0 x1 x2 x3:Value} (hq:QC w x0 x1 x2 x3 K true (e k j)) :
  QA (st4 w (rb k) (j*4) x0 x1 x2 x3) base b R C K k (j+1) rb e:=by
 have hne:b≠rb k:=fun e1=>(h.hrb k (by omega)).2 e1.symm
 refine⟨(((h.outer.setOther (by simpa using hne) x0).setOther (by simpa using hne) x1).setOther (by simpa using hne) x2).setOther (by simpa using hne) x3,h.hb,fun i hi=>?_,?_,h.hrb,h.inj⟩
 ·exact(h.rows i hi).fF h.row (fun e1=>by have:=h.inj i k (by omega) (by omega) e1;omega) hj x0 x1 x2 x3
 ·refine(h.row.b4L hj hq).congr (fun c _=>?_) (fun c _=>?_)
  ·by_cases e1:c=j
   ·subst e1;simp
   ·rw[iq e1];simp;omega
  ·by_cases e1:c=j
   ·subst e1;simp
   ·rw[iq e1]
    by_cases e2:c<j
    ·rw[ig e2,ig (by omega)]
    ·rw[iq e2,iq (by omega)]
theorem QA.done {w:World} {base b R C K k:Nat} {rb:Nat->Nat} {e:Nat->Nat->Rat} (h:QA w base b R C K k C rb e):a4b w base b R C K (k+1) rb e:=by
 refine⟨h.outer,h.hb,fun i hi=>?_,h.hrb,h.inj⟩
 by_cases e1:i=k
 ·subst e1
  exact h.row.congr (fun c hc=>by simp[hc]) (fun c hc=>by simp[hc])
 ·exact h.rows i (by omega)
theorem QA.low {w:World} {base b R C K k j:Nat} {rb:Nat->Nat} {e:Nat->Nat->Rat} (h:QA w base b R C K k j rb e) {w0:World} (hb:Below base w0 w) (x0 x1 x2 x3:Value) (o:Nat):Below base w0 (st4 w (rb k) o x0 x1 x2 x3):=by
 have:=(h.hrb k (by omega)).1
 exact(((hb.setCell (p:=⟨rb k,o,none⟩) this x0).setCell (p:=⟨rb k,o+1,none⟩) this x1).setCell (p:=⟨rb k,o+2,none⟩) this x2).setCell (p:=⟨rb k,o+3,none⟩) this x3
section
def CA (p:Value->Bool) (w:World) (g:Nat):Prop:=∀ i u,w.cell? ⟨g,i,none⟩=some u->p u=true
section
variable {P:Program} {p:Value->Bool} (w:World)
def CAv (p:Value->Bool) (w:World) (v:Value):Prop:=∀ g,v.ownBlock=some g->CA p w g
theorem CA.of_cells {p:Value->Bool} {w:World} {g:Nat} {cur:Array Value} {e:TypeId} (hg:w.heap[g]?=some (.cells cur e (0,0))) (h:∀ u ∈ cur.toList,p u=true):CA p w g:=by
 intro i u hc
 rw[zq w g i cur e (0,0) hg] at hc
 exact h u (by rw[Array.mem_toList_iff];exact Array.mem_of_getElem? hc)
theorem CA.cells {w:World} {g:Nat} {cur:Array Value} {e:TypeId} (hg:w.heap[g]?=some (.cells cur e (0,0))) (h:CA p w g):∀ u ∈ cur.toList,p u=true:=by
 intro u hu
 rw[Array.mem_toList_iff] at hu
 obtain⟨i,hi,rfl⟩:=Array.mem_iff_getElem.1 hu
 exact h i _ (by rw[zq w g i cur e (0,0) hg];exact Aj hi)
theorem a1I {z:Array Value} (hz:∀ u ∈ z.toList,p u=true) (n:Nat):∀ u ∈ (Builtin.zeroCells z n).toList,p u=true:=by
 intro u hu
 rw[Array.mem_toList_iff] at hu
 obtain⟨i,hi,rfl⟩:=Array.mem_iff_getElem.1 hu
 simp only[Builtin.zeroCells,Array.size_map,Array.size_range] at hi
 simp only[Builtin.zeroCells,Array.getElem_map,Array.getElem_range]
 have hs:0<z.size:=by
  rcases yu z.size with h|h
  ·rw[h] at hi;simp at hi
  ·exact h
 have hlt:i%z.size<z.size:=yg _ hs
 rw[getElem!_pos z (i%z.size) hlt]
 exact hz _ (by rw[Array.mem_toList_iff];exact Array.getElem_mem hlt)
theorem GV (base:Nat) (t ty e:TypeId) (i:TypeInfo) (z:Value) (size bytes:Nat) (ht:P.underlying t=some (.slice e)) (hi:P.info? e=some i) (hz:i.zero=some z)
  (hsize:i.size=size) (hby:i.bytes=bytes) (hzs:z.cells.size=size) (hsz:0<size) (hzn:∀ u ∈ z.cells.toList,p u=true)
  (v:Value) (n:Nat) (xs:List Value) (hown:w.ownsRow base e size v n xs) (hv:CAv p w v)
  (a:Addr) (m c:Nat) (news:List Value) (hl:news.length=m*size) (hnews:∀ j u,news[j]?=some u->w.cell? (a.add j)=some u) (h1:∀ u ∈ news,u.oneCell'=true) (hnn:∀ u ∈ news,p u=true) (hm:0<m)
  (h63:n+m<=maxLen) (hbytes:(n+m)*bytes<=140737488355328) (hbase:base<=w.heap.size) :
  ∃ g cap w',(Builtin.append_ #[t,t] ty #[v,.slice (some a) m c]).run P w=.ok (.slice (some ⟨g,0,none⟩) (n+m) cap) w'/\w'.ownsRow base e size (.slice (some ⟨g,0,none⟩) (n+m) cap) (n+m) (xs++news)/\w.grownBy w' v.ownBlock/\CA p w' g/\(v.ownBlock=some g\/g=w.heap.size):=by
 obtain⟨v',w',hr,h2,h3,h4⟩:=run_append_own (P:=P) w base t ty e i z size bytes ht hi hz hsize hby hzs hsz v n xs hown a m c news hl hnews h1 h63 hbytes hbase
 subst hsize
 subst hby
 have hsmall:n+m<=9223372036854775807:=by simp only[maxLen] at h63;omega
 have hz0:=fun k=>a1I (z:=z.cells) hzn k
 rcases hown.2 with⟨rfl,rfl⟩|⟨g,cap,cur,rfl,hbg,hg,hnc,hcm,hcs,htake⟩
 ·have hrun:=run_append_nil (P:=P) w t ty e i z ht hi hz a m c news hl hnews hm (by omega) (by have hb:=hbytes;simp only[um] at hb;omega)
  rw[hrun] at hr
  simp only[Result.ok.injEq] at hr
  obtain⟨rfl,rfl⟩:=hr
  refine⟨w.heap.size,_,_,by rw[um];exact hrun,by simpa using h2,h3,?_,.inr rfl⟩
  refine CA.of_cells (Dl w.drew _) (fun u hu=>?_)
  simp only[Array.toList_append,vg] at hu
  rcases hu with hu|hu
  ·exact hnn u hu
  ·exact hz0 _ u hu
 ·by_cases hroom:n+m<=cap
  ·have hfit:n*i.size+news.length<=cur.size:=by rw[hl,hcs,<-Am];exact jw _ hroom
   have hrun:=run_append_room (P:=P) w t ty e i ht hi g n cap cur hg a m c news hl hnews h1 hroom hfit
   rw[hrun] at hr
   simp only[Result.ok.injEq] at hr
   obtain⟨rfl,rfl⟩:=hr
   refine⟨g,cap,_,hrun,h2,h3,?_,.inl rfl⟩
   have hcn:=CA.cells hg (hv g rfl)
   refine CA.of_cells (setRow_heap w g cur _ e _ hg) (fun u hu=>?_)
   simp only[vg] at hu
   rcases hu with(hu|hu)|hu
   ·exact hcn u (Dp hu)
   ·exact hnn u hu
   ·exact hcn u (List.mem_of_mem_drop hu)
  ·have holds:∀ j u,xs[j]?=some u->w.cell? ((⟨g,0,none⟩:Addr).add j)=some u:=hown.cells (g:=g) rfl
   have hrun:=run_append_grow (P:=P) w t ty e i z ht hi hz ⟨g,0,none⟩ n cap xs hown.1 holds a m c news hl hnews (by omega) (by omega) (growslice_fits (by omega) hbytes)
   rw[hrun] at hr
   simp only[Result.ok.injEq] at hr
   obtain⟨rfl,rfl⟩:=hr
   refine⟨w.heap.size,_,_,hrun,h2,h3,?_,.inr rfl⟩
   have hcn:=CA.cells hg (hv g rfl)
   refine CA.of_cells (Dl w.drew _) (fun u hu=>?_)
   simp only[Array.toList_append,vg] at hu
   rcases hu with(hu|hu)|hu
   ·rw[<-htake] at hu;exact hcn u (Dp hu)
   ·exact hnn u hu
   ·exact hz0 _ u hu
end
end
def jI (F:Nat->Prop) (w:World) (c:List Value) (p:Part):Prop:=rep F w p.t c p.x/\p.t.still=true
def Env.has (E:Env) (r:Nat):Nat->Nat->Prop
 | 0,q=>E.blk r=some q
 | i+1,q=>bW (E.inn r i)=some q
theorem tN {w:World} {E:Env} {q:Nat} (h:fz w E q) (r j:Nat):¬ E.has r j q:=by
 cases j with
 | zero=>exact h.2.1 r
 | succ i=>exact h.2.2 r i
theorem uD {w:World} {E:Env} {q:Nat} (h1:q<w.heap.size) (h2:E.base q) (h3:∀ r j,¬ E.has r j q):fz w E q:=⟨⟨h1,h2⟩,fun r=>h3 r 0,fun r i=>h3 r (i+1)⟩
def aV {α:Type} (ids:Option (List Nat)) (xss:List α):List Nat:=match ids with
 | some l=>l
 | none=>List.range xss.length
def K.one:K->Bool
 | .val t _=>!t.agg&&t.still&&decide (t.n=1)
 | .nil=>true
 | .ptr _ _=>true
 | .own _ _=>true
 | _=>false
def nnS (v:Nat) (s:Value):Prop:=v%2=1->s≠.slice none 0 0
theorem a6M (v:Nat) (s:Value):nnS (nx v) s:=fun h=>by unfold nx at h;omega
theorem b0Z {v:Nat} {s:Value} (h:nnS v s):nnS (nxf v) s:=fun e=>h (by unfold nxf nx at e;omega)
theorem a4H (s:Value):nnS 0 s:=fun h=>by omega
def oD (E:Env) (w:World) (r:Nat):Res->Prop
 | .none=>E.blk r=none
 | .gone=>E.blk r=none
 | .box ps=>∃ b cs e,E.blk r=some b/\w.heap[b]?=some (.cells cs.toArray e (0,0))/\chunks (jI (fz w E) w) cs ps
 | .row e t xs v=>E.blk r=bW (E.sl r)/\t.still=true/\∃ cs,w.ownsRow 0 e t.n (E.sl r) xs.length cs/\chunks (rep (fz w E) w t) cs xs/\CAv dK w (E.sl r)/\nnS v (E.sl r)
 | .fro t xs _=>E.blk r=none/\kE (fz w E) w (.list t) (E.sl r) xs
 | .mat e e2 t ids xss _=>E.blk r=bW (E.sl r)/\t.still=true/\(∃ cs,w.ownsRow 0 e 1 (E.sl r) (aV ids xss).length cs/\cs=(aV ids xss).map (E.inn r)/\CAv dK w (E.sl r))/\(∀ i ∈ aV ids xss,i<xss.length)/\(∀ i,xss.length<=i->bW (E.inn r i)=none) /\
  ∀ i xs,xss[i]?=some xs->∃ cs,w.ownsRow 0 e2 t.n (E.inn r i) xs.length cs/\chunks (rep (fz w E) w t) cs xs/\CAv dK w (E.inn r i)
 | .mX _=>True
def QE (ρ:Nat->Res):K0->Prop
 | .val _ _=>True
 | .own r v=>Res.fM v (ρ r)
 | .ptr r _=>(ρ r).pV
 | .nV r=>(ρ r).FU
def K.wf (ρ:Nat->Res):K->Prop
 | .ptr r _=>(ρ r).pV
 | .own r v=>Res.fM v (ρ r)
 | .when b k=>b=true->k.wf ρ
 | .cell r v _=>Res.fM v (ρ r)
 | .mrow r v i=>Res.fM v (ρ r)/\(Res.oO v (ρ r)->i<(ρ r).cnt)
 | .mpos r v i _=>Res.fM v (ρ r)/\(Res.oO v (ρ r)->i<(ρ r).cnt)
 | .nV r=>(ρ r).FU
 | .mix ks=>∀ k ∈ ks,QE ρ k
 | .fn _ ks=>∀ k ∈ ks,QE ρ k
 | .sng r v=>Res.fM v (ρ r)
 | _=>True
theorem a0V {ρ:Nat->Res} {k:K0}:QE ρ k↔(k0K k).wf ρ:=by cases k<;>exact Iff.rfl
def a4a (E:Env) (ρ:Nat->Res) (w:World) (r:Nat) (k:K):Prop:=k.wf ρ/\k.one=true/\∃ b v e,E.blk r=some b/\w.heap[b]?=some (.cells #[v] e (0,0))/\dK v=true/\k.holds E ρ w v
structure Under (M:Nat->Prop) (W w:World):Prop where
 os:w.os=W.os
 tape:w.tape=W.tape
 output:w.output=W.output
 size:W.heap.size<=w.heap.size
 blk:∀ k,k<W.heap.size->¬ M k->w.heap[k]?=W.heap[k]?
theorem Under.below {M:Nat->Prop} {W w:World} (h:Under M W w) (hM:∀ q,¬ M q):Below W.heap.size W w:=⟨h.os,h.tape,h.output,h.size,fun k hk=>h.blk k hk (hM k)⟩
theorem Under.trans {M:Nat->Prop} {W w w':World} (h:Under M W w) (hb:Below w.heap.size w w'):Under M W w':=⟨hb.os.trans h.os,hb.tape.trans h.tape,hb.output.trans h.output,jg h.size hb.size,fun k hk hm=>(hb.block k (ni hk h.size)).trans (h.blk k hk hm)⟩
structure Mem (E:Env) (ρ:Nat->Res) (W w:World):Prop where
 below:Under E.qR W w
 res:∀ r,oD E w r (ρ r)
 inj:∀ r j r' j' b,E.has r j b->E.has r' j' b->r=r'/\j=j'
 mine:∀ r j b,E.has r j b->E.qR b\/W.heap.size<=b
 base:∀ q,E.qR q\/W.heap.size<=q->E.base q
 inner:∀ r i,(ρ r).cnt<=i->bW (E.inn r i)=none
 kbx:∀ r k,ρ r=.mX k->a4a E ρ w r k
 dig:∀ b o n,W.cell? ⟨b,o,none⟩=some (.int .u32 n)->w.cell? ⟨b,o,none⟩=some (.int .u32 n)
structure lG (E:Env) (w w':World) (S:Nat->Prop):Prop where
 os:w'.os=w.os
 tape:w'.tape=w.tape
 output:w'.output=w.output
 size:w.heap.size<=w'.heap.size
 blk:∀ b,b<w.heap.size->(∀ r j,S r->¬ E.has r j b)->w'.heap[b]?=w.heap[b]?
 dig:∀ b o n,w.cell? ⟨b,o,none⟩=some (.int .u32 n)->w'.cell? ⟨b,o,none⟩=some (.int .u32 n)
theorem lG.below {E:Env} {w w':World} (h:Below w.heap.size w w') (S:Nat->Prop):lG E w w' S:=⟨h.os,h.tape,h.output,h.size,fun b hb _=>h.block b hb,fun b o n hc=>(h.cell (p:=⟨b,o,none⟩) (cell_lt hc)).trans hc⟩
theorem lG.stay {E:Env} {w w':World} {S:Nat->Prop} (h:lG E w w' S):jZ (fz w E) w w':=⟨fun b hb=>h.blk b hb.1.1 (fun r j _=>tN hb r j),h.dig,h.size⟩
theorem lG.more {E:Env} {w w':World} {S S':Nat->Prop} (h:lG E w w' S) (hs:∀ r,S r->S' r):lG E w w' S':=⟨h.os,h.tape,h.output,h.size,fun b hb hn=>h.blk b hb (fun r j hr=>hn r j (hs r hr)),h.dig⟩
def bV {α:Type} (f:Nat->α) (r:Nat) (x:α):Nat->α:=fun q=>if q=r then x else f q
theorem aG {α:Type} (f:Nat->α) (r:Nat) (x:α):bV f r x r=x:=ig rfl
theorem aP {α:Type} (f:Nat->α) {r q:Nat} (x:α) (h:q≠r):bV f r x q=f q:=iq h
def Env.sV (E:Env) (r:Nat) (b:Option Nat) (s:Value) (I:Nat->Value):Env:=⟨bV E.blk r b,bV E.sl r s,E.base,bV E.inn r I,E.qR,E.par⟩
def Env.put (E:Env) (r:Nat) (b:Option Nat) (s:Value):Env:=E.sV r b s (fun _=>undef)
theorem jI.mono {F F':Nat->Prop} {w w':World} (hF:∀ b,F b->F' b) (hs:jZ F w w') {c:List Value} {p:Part} (h:jI F w c p):jI F' w' c p:=⟨dF hF hs _ _ _ h.1,h.2⟩
theorem fK {w w':World} {base:Nat} {e:TypeId} {n m:Nat} {v:Value} {cs:List Value} (h:w.ownsRow base e n v m cs) (hb:∀ b,bW v=some b->w'.heap[b]?=w.heap[b]?):w'.ownsRow base e n v m cs:=by
 obtain⟨j1,j2⟩:=h
 refine⟨j1,j2.imp id ?_⟩
 rintro⟨g,cap,cur,e1,e2,e3,e4⟩
 exact⟨g,cap,cur,e1,e2,(hb g (by rw[e1];rfl)).trans e3,e4⟩
theorem kG {w w':World} {v:Value} {p:Value->Bool} (h:CAv p w v) (hb:∀ b,bW v=some b->w'.heap[b]?=w.heap[b]?):CAv p w' v:=by
 intro g hg i u hu
 have hg':bW v=some g:=by
  cases v<;>try (simp[Value.ownBlock] at hg;done)
  rename_i a _ _
  cases a<;>first|(simp[] at hg;done)|exact hg
 rw[Dc (w:=w) (hb g hg')] at hu
 exact h g hg i u hu
theorem nO (v:Value):bW v=v.ownBlock:=rfl
theorem oD.keep {E E':Env} {w w':World} {r:Nat} {x:Res} (hF:∀ b,fz w E b->fz w' E' b) (hs:jZ (fz w E) w w') (h1:E'.blk r=E.blk r) (h2:E'.sl r=E.sl r) (h3:E'.inn r=E.inn r) (hb:∀ j b,E.has r j b->w'.heap[b]?=w.heap[b]?) (h:oD E w r x):oD E' w' r x:=by
 cases x with
 | none=>exact h1.trans h
 | gone=>exact h1.trans h
 | mX k=>trivial
 | box ps =>
  obtain⟨b,cs,e,k1,k3,k4⟩:=h
  exact⟨b,cs,e,h1.trans k1,(hb 0 b k1).trans k3,aX (fun c p=>jI.mono hF hs) _ _ k4⟩
 | row e t xs v =>
  obtain⟨k1,k2,cs,k3,k4,k5⟩:=h
  have hb':∀ b,bW (E.sl r)=some b->w'.heap[b]?=w.heap[b]?:=fun b e=>hb 0 b (k1.trans e)
  exact⟨by rw[h1,h2];exact k1,k2,cs,by rw[h2];exact fK k3 hb',aX (fun c y=>dF hF hs t c y) _ _ k4,by rw[h2];exact⟨kG k5.1 hb',k5.2⟩⟩
 | fro t xs v =>
  obtain⟨k1,k2⟩:=h
  exact⟨h1.trans k1,by rw[h2];exact gY hF hs k2⟩
 | mat e e2 t ids xss v =>
  obtain⟨k1,k2,⟨cs,k3,k4,k5⟩,k6,k7,k8⟩:=h
  have hb':∀ b,bW (E.sl r)=some b->w'.heap[b]?=w.heap[b]?:=fun b e=>hb 0 b (k1.trans e)
  refine⟨by rw[h1,h2];exact k1,k2,⟨cs,by rw[h2];exact fK k3 hb',by rw[h3];exact k4,by rw[h2];exact kG k5 hb'⟩,k6,by rw[h3];exact k7,fun i xs hi=>?_⟩
  obtain⟨ds,q1,q2,q3⟩:=k8 i xs hi
  have hb2:∀ b,bW (E.inn r i)=some b->w'.heap[b]?=w.heap[b]?:=fun b e=>hb (i+1) b e
  exact⟨ds,by rw[h3];exact fK q1 hb2,aX (fun c y=>dF hF hs t c y) _ _ q2,by rw[h3];exact kG q3 hb2⟩
structure Ext (E:Env) (ρ:Nat->Res) (w:World) (E':Env) (ρ':Nat->Res) (w':World):Prop where
 fz:∀ b,fz w E b->Go.Proofs.YtgplhbhfdgempaaGreat.fz w' E' b
 stay:jZ (Go.Proofs.YtgplhbhfdgempaaGreat.fz w E) w w'
 ptr:∀ r,(ρ r).pV->(ρ' r).pV/\E'.blk r=E.blk r
 kp:∀ r,(ρ r).FU->(ρ' r).FU/\((ρ' r).oJ->(ρ r).oJ/\E'.blk r=E.blk r)
 ver:∀ r v,Res.fM v (ρ r)->Res.fM v (ρ' r)
 own:∀ r v,Res.fM v (ρ r)->Res.isRow v (ρ' r)->Res.isRow v (ρ r)/\E'.sl r=E.sl r/\(ρ' r).esz=(ρ r).esz
 mat:∀ r v,Res.fM v (ρ r)->Res.oO v (ρ' r)->Res.oO v (ρ r)/\(ρ' r).msz=(ρ r).msz/\(ρ r).cnt<=(ρ' r).cnt/\∀ i,i<(ρ r).cnt->E'.inn r i=E.inn r i
 base:E'.base=E.base
 qR:E'.qR=E.qR
 par:E'.par=E.par
theorem Ext.fix {E E':Env} {ρ ρ':Nat->Res} {w w':World} (h:Ext E ρ w E' ρ' w'):E'.fix=E.fix:=by
 unfold Env.fix
 rw[h.base,h.qR,h.par]
theorem Ext.wf0 {E E':Env} {ρ ρ':Nat->Res} {w w':World} (h:Ext E ρ w E' ρ' w'):(k:K0)->QE ρ k->QE ρ' k
 | .val _ _,_=>trivial
 | .own r v,hk=>h.ver r v hk
 | .ptr r _,hk=>(h.ptr r hk).1
 | .nV r,hk=>(h.kp r hk).1
theorem Ext.wf {E E':Env} {ρ ρ':Nat->Res} {w w':World} (h:Ext E ρ w E' ρ' w'):(k:K)->k.wf ρ->k.wf ρ'
 | .any,_=>trivial
 | .val _ _,_=>trivial
 | .nil,_=>trivial
 | .ptr r _,hk=>(h.ptr r hk).1
 | .own r v,hk=>h.ver r v hk
 | .when _ k,hk=>fun hb=>h.wf k (hk hb)
 | .tup _ _,_=>trivial
 | .cell r v _,hk=>h.ver r v hk
 | .mrow r v i,hk=>⟨h.ver r v hk.1,fun hm=>by
  obtain⟨a,_,b,_⟩:=h.mat r v hk.1 hm
  exact ni (hk.2 a) b⟩
 | .mpos r v i _,hk=>⟨h.ver r v hk.1,fun hm=>by
  obtain⟨a,_,b,_⟩:=h.mat r v hk.1 hm
  exact ni (hk.2 a) b⟩
 | .nV r,hk=>(h.kp r hk).1
 | .mix ks,hk=>fun k hm=>h.wf0 k (hk k hm)
 | .fn _ ks,hk=>fun k hm=>h.wf0 k (hk k hm)
 | .sng r v,hk=>h.ver r v hk
theorem Ext.mix {E E':Env} {ρ ρ':Nat->Res} {w w':World} (h:Ext E ρ w E' ρ' w'):∀ (ks:List K0) (vs:List Value),(∀ k ∈ ks,QE ρ k)->pK (Go.Proofs.YtgplhbhfdgempaaGreat.fz w E) E ρ w ks vs->pK (Go.Proofs.YtgplhbhfdgempaaGreat.fz w' E') E' ρ' w' ks vs
 | [],_,_,hh=>hh
 | k::ks,_,hw,⟨v,vs',h1,h2,h3⟩=>by
  refine⟨v,vs',h1,?_,h.mix ks vs' (fun k hk=>hw k (jf _ hk)) h3⟩
  have hk:=hw k (jk ..)
  cases k with
  | val t x=>exact gY h.fz h.stay h2
  | own r ver =>
   intro hb
   obtain⟨a,b,_⟩:=h.own r ver hk hb
   rw[b];exact h2 a
  | ptr r o =>
   obtain⟨b,h3,h4⟩:=h2
   exact⟨b,(h.ptr r hk).2.trans h3,h4⟩
  | nV r =>
   intro hb
   obtain⟨a1,a2⟩:=(h.kp r hk).2 hb
   obtain⟨b,h3,h4⟩:=h2 a1
   grind
theorem Ext.holds {E E':Env} {ρ ρ':Nat->Res} {w w':World} (h:Ext E ρ w E' ρ' w'):(k:K)->(v:Value)->k.wf ρ->k.holds E ρ w v->k.holds E' ρ' w' v
 | .any,_,_,_=>trivial
 | .val _ _,_,_,hh=>gY h.fz h.stay hh
 | .nil,_,_,hh=>hh
 | .ptr r _,v,hk,⟨b,h3,h4⟩=>⟨b,(h.ptr r hk).2.trans h3,h4⟩
 | .own r ver,v,hk,hh=>fun hb=>by
  obtain⟨h1,h2,_⟩:=h.own r ver hk hb
  rw[h2];exact hh h1
 | .when _ k,v,hk,hh=>⟨fun hb=>h.holds k v (hk hb) (hh.1 hb),hh.2⟩
 | .tup ts x,v,_,⟨vs,h1,h2⟩=>⟨vs,h1,lI h.fz h.stay ts vs x h2⟩
 | .cell r ver i,v,hk,hh=>fun hb=>by
  obtain⟨h1,h2,h3⟩:=h.own r ver hk hb
  obtain⟨b,h4,h5⟩:=hh h1
  grind
 | .mrow r ver i,v,hk,hh=>fun hb=>by
  obtain⟨h1,h2,h3,h4⟩:=h.mat r ver hk.1 hb
  rw[h4 i (hk.2 h1)];exact hh h1
 | .mpos r ver i j,v,hk,hh=>fun hb=>by
  obtain⟨h1,h2,h3,h4⟩:=h.mat r ver hk.1 hb
  obtain⟨b,h5,h6⟩:=hh h1
  exact⟨b,by rw[h4 i (hk.2 h1)];exact h5,by rw[h2];exact h6⟩
 | .nV r,v,hk,hh=>fun hb=>by
  obtain⟨h1,h2⟩:=(h.kp r hk).2 hb
  obtain⟨b,h3,h4⟩:=hh h1
  grind
 | .mix ks,v,hk,⟨vs,h1,h2⟩=>⟨vs,h1,h.mix ks vs hk h2⟩
 | .fn _ ks,v,hk,⟨vs,h1,h2⟩=>⟨vs,h1,h.mix ks vs hk h2⟩
 | .sng r ver,v,hk,hh=>fun hb=>by
  obtain⟨a1,a2,_⟩:=h.own r ver hk hb
  obtain⟨b,h3,h4,h5⟩:=hh a1
  exact⟨b,h3,h.fz b h4,by rw[a2];exact zL h.stay h4 h5⟩
theorem Ext.refl (E:Env) (ρ:Nat->Res) (w:World):Ext E ρ w E ρ w:=⟨fun _ h=>h,jZ.refl _ _,fun _ h=>⟨h,rfl⟩,fun _ h=>⟨h,fun h=>⟨h,rfl⟩⟩,fun _ _ h=>h,fun _ _ _ h=>⟨h,rfl,rfl⟩,fun _ _ _ h=>⟨h,rfl,aj _,fun _ _=>rfl⟩,rfl,rfl,rfl⟩
theorem Ext.trans {E E' E'':Env} {ρ ρ' c2X:Nat->Res} {w w' w'':World} (h:Ext E ρ w E' ρ' w') (k:Ext E' ρ' w' E'' c2X w''):Ext E ρ w E'' c2X w'' :=
 ⟨fun b hb=>k.fz b (h.fz b hb),h.stay.trans (k.stay.less h.fz),
  fun r hr=>⟨(k.ptr r (h.ptr r hr).1).1,(k.ptr r (h.ptr r hr).1).2.trans (h.ptr r hr).2⟩,
  fun r hr=>⟨(k.kp r (h.kp r hr).1).1,fun hb=>by
    obtain⟨a,b⟩:=(k.kp r (h.kp r hr).1).2 hb
    obtain⟨c,d⟩:=(h.kp r hr).2 a
    exact⟨c,b.trans d⟩⟩,
  fun r v hr=>k.ver r v (h.ver r v hr),
  fun r v hr hb=>by
   obtain⟨h1,h2,h5⟩:=k.own r v (h.ver r v hr) hb
   obtain⟨h3,h4,h6⟩:=h.own r v hr h1
   exact⟨h3,h2.trans h4,h5.trans h6⟩,
  fun r v hr hb=>by
   obtain⟨h1,h2,h3,h4⟩:=k.mat r v (h.ver r v hr) hb
   obtain⟨g1,g2,g3,g4⟩:=h.mat r v hr h1
   exact⟨g1,h2.trans g2,jg g3 h3,fun i hi=>(h4 i (ni hi g3)).trans (g4 i hi)⟩,
  k.base.trans h.base,k.qR.trans h.qR,k.par.trans h.par⟩
theorem Mem.lt {E:Env} {ρ:Nat->Res} {W w:World} (h:Mem E ρ W w) {r j b:Nat} (hr:E.has r j b):b<w.heap.size:=by
 have h1:=h.res r
 have b1l:∀ {e n v m cs},w.ownsRow 0 e n v m cs->bW v=some b->b<w.heap.size:=fun {e n v m cs} hw hv=>by
  rcases hw.2 with⟨j2,_⟩|⟨g,cap,cur,e1,e2,e3,_⟩
  ·rw[j2] at hv;cases hv
  ·rw[e1] at hv;cases hv
   grind
 cases j with
 | zero =>
  have hr:E.blk r=some b:=hr
  cases hx:ρ r with
  | none=>rw[hx] at h1;rw[show E.blk r=none from h1] at hr;cases hr
  | gone=>rw[hx] at h1;rw[show E.blk r=none from h1] at hr;cases hr
  | mX k =>
   obtain⟨_,_,b',v,e,k1,k2,_⟩:=h.kbx r k hx
   grind
  | box ps =>
   rw[hx] at h1
   obtain⟨b',cs,e,k1,k3,k4⟩:=h1
   grind
  | row e t xs v =>
   rw[hx] at h1
   obtain⟨k1,k2,cs,k3,k4,k5⟩:=h1
   grind
  | fro t xs v=>rw[hx] at h1;rw[h1.1] at hr;cases hr
  | mat e e2 t ids xss v =>
   rw[hx] at h1
   obtain⟨k1,k2,⟨cs,k3,_⟩,_⟩:=h1
   grind
 | succ i =>
  have hr:bW (E.inn r i)=some b:=hr
  by_cases hc:i<(ρ r).cnt
  ·cases hx:ρ r with
   | mat e e2 t ids xss v =>
    rw[hx] at h1 hc
    obtain⟨k1,k2,_,_,_,k8⟩:=h1
    obtain⟨cs,q1,_⟩:=k8 i (xss[i]'hc) (bn hc)
    grind
   | _=>rw[hx] at hc;simp[Res.cnt] at hc
  ·rw[h.inner r i (by omega)] at hr;cases hr
theorem vI {E E':Env} {w w':World} {S:Nat->Prop} (hsz:w.heap.size<=w'.heap.size) (hb:E'.base=E.base)
  (hE:∀ r,¬ S r->E'.blk r=E.blk r/\E'.inn r=E.inn r)
  (hown:∀ r j b,S r->E'.has r j b->(∃ r0 j0,E.has r0 j0 b)\/w.heap.size<=b):∀ q,fz w E q->fz w' E' q:=fun q hq=>by
 refine uD (ni hq.1.1 hsz) (by rw[hb];exact hq.1.2) (fun r j hr=>?_)
 by_cases hs:S r
 ·rcases hown r j q hs hr with⟨r0,j0,h0⟩|h0
  ·exact tN hq r0 j0 h0
  ·have:=hq.1.1;omega
 ·obtain⟨e1,e2⟩:=hE r hs
  cases j with
  | zero=>exact tN hq r 0 (by show E.blk r=some q;rw[<-e1];exact hr)
  | succ i=>exact tN hq r (i+1) (by show bW (E.inn r i)=some q;rw[<-e2];exact hr)
theorem Mem.turns {E E':Env} {ρ ρ':Nat->Res} {W w w':World} (h:Mem E ρ W w) (S:Nat->Prop) (hg:lG E w w' S)
  (hE:∀ r,¬ S r->E'.blk r=E.blk r/\E'.sl r=E.sl r/\E'.inn r=E.inn r/\ρ' r=ρ r) (hb:E'.base=E.base) (hm:E'.qR=E.qR) (hpa:E'.par=E.par)
  (hown:∀ r j b,S r->E'.has r j b->(∃ r0 j0,S r0/\E.has r0 j0 b)\/w.heap.size<=b)
  (hinj:∀ r j r' j' b,S r->S r'->E'.has r j b->E'.has r' j' b->r=r'/\j=j')
  (b0i:∀ r i,S r->(ρ' r).cnt<=i->bW (E'.inn r i)=none)
  (c4Q:∀ r,S r->(ρ r).pV->(ρ' r).pV/\E'.blk r=E.blk r)
  (hkp:∀ r,S r->(ρ r).FU->(ρ' r).FU/\((ρ' r).oJ->(ρ r).oJ/\E'.blk r=E.blk r))
  (b6D:∀ r v,S r->Res.fM v (ρ r)->Res.fM v (ρ' r))
  (hrow:∀ r v,S r->Res.fM v (ρ r)->Res.isRow v (ρ' r)->Res.isRow v (ρ r)/\E'.sl r=E.sl r/\(ρ' r).esz=(ρ r).esz)
  (KI:∀ r v,S r->Res.fM v (ρ r)->Res.oO v (ρ' r)->Res.oO v (ρ r)/\(ρ' r).msz=(ρ r).msz/\(ρ r).cnt<=(ρ' r).cnt/\∀ i,i<(ρ r).cnt->E'.inn r i=E.inn r i)
  (hx:∀ r,S r->oD E' w' r (ρ' r)) (hk:Ext E ρ w E' ρ' w'->∀ r k,S r->ρ' r=.mX k->a4a E' ρ' w' r k) :
  Mem E' ρ' W w'/\Ext E ρ w E' ρ' w':=by
 have hs:=hg.stay
 have hF:=vI (S:=S) hg.size hb (fun r hr=>⟨(hE r hr).1,(hE r hr).2.2.1⟩) (fun r j b hr hh=>(hown r j b hr hh).imp (fun⟨r0,j0,_,h0⟩=>⟨r0,j0,h0⟩) id)
 have hhas:∀ r j b,¬ S r->(E'.has r j b↔E.has r j b):=fun r j b hr=>by
  obtain⟨e1,_,e3,_⟩:=hE r hr
  cases j with
  | zero=>show E'.blk r=some b↔E.blk r=some b;rw[e1]
  | succ i=>show bW (E'.inn r i)=some b↔bW (E.inn r i)=some b;rw[e3]
 have hX:Ext E ρ w E' ρ' w':=by
  refine⟨hF,hs,fun r hr=>?_,fun r hr=>?_,fun r v hr=>?_,fun r v hr hr'=>?_,fun r v hr hr'=>?_,hb,hm,hpa⟩
  all_goals by_cases e:S r
  ·grind
  ·grind
  ·grind
  ·grind
  ·grind
  ·grind
  ·grind
  ·grind
  ·grind
  ·grind
 have c3Y:∀ r j r' j' b,S r->¬ S r'->E'.has r j b->E'.has r' j' b->False:=fun r j r' j' b h1 h2 h3 h4=>by
  have h5:=(hhas r' j' b h2).1 h4
  rcases hown r j b h1 h3 with⟨r0,j0,k1,k2⟩|k1
  ·have:=(h.inj _ _ _ _ _ k2 h5).1
   grind
  ·have:=h.lt h5;omega
 refine⟨⟨?_,fun r=>?_,fun r j r' j' b h1 h2=>?_,fun r j b h1=>?_,?_,fun r i hi=>?_,fun r k hk'=>?_,fun b o n hc=>hg.dig b o n (h.dig b o n hc)⟩,hX⟩
 ·refine⟨hg.os.trans h.below.os,hg.tape.trans h.below.tape,hg.output.trans h.below.output,jg h.below.size hg.size,fun k hk hmk=>?_⟩
  rw[hm] at hmk
  refine(hg.blk k (ni hk h.below.size) (fun r j _ e=>?_)).trans (h.below.blk k hk hmk)
  rcases h.mine r j k e with e|e
  ·grind
  ·omega
 ·by_cases e:S r
  ·grind
  ·obtain⟨e1,e2,e3,e4⟩:=hE r e
   rw[e4]
   refine(h.res r).keep hF hs e1 e2 e3 (fun j b hb'=>hg.blk b (h.lt hb') (fun r' j' hr' e'=>?_))
   have:=(h.inj _ _ _ _ _ hb' e').1
   grind
 ·by_cases e1:S r
  ·grind
  ·by_cases e2:S r'
   ·grind
   ·exact h.inj r j r' j' b ((hhas r j b e1).1 h1) ((hhas r' j' b e2).1 h2)
 ·rw[hm]
  by_cases e:S r
  ·rcases hown r j b e h1 with⟨r0,j0,_,k2⟩|k
   ·exact h.mine r0 j0 b k2
   ·exact .inr (jg h.below.size k)
  ·exact h.mine r j b ((hhas r j b e).1 h1)
 ·rw[hb,hm];exact h.base
 ·by_cases e:S r
  ·grind
  ·obtain⟨e1,e2,e3,e4⟩:=hE r e
   rw[e4] at hi;rw[e3];exact h.inner r i hi
 ·by_cases e:S r
  ·grind
  ·obtain⟨e1,e2,e3,e4⟩:=hE r e
   rw[e4] at hk'
   obtain⟨q1,q2,b,v,t,q3,q4,q5,q6⟩:=h.kbx r k hk'
   refine⟨hX.wf k q1,q2,b,v,t,e1.trans q3,?_,q5,hX.holds k v q1 q6⟩
   refine(hg.blk b (h.lt (j:=0) q3) (fun r' j' hr' e'=>?_)).trans q4
   have:=(h.inj _ 0 _ _ _ q3 e').1
   grind
theorem Mem.grows {E:Env} {ρ:Nat->Res} {W w w':World} (h:Mem E ρ W w) (hb:Below w.heap.size w w'):Mem E ρ W w'/\Ext E ρ w E ρ w' :=
 h.turns (fun _=>False) (lG.below hb _) (fun _ _=>⟨rfl,rfl,rfl,rfl⟩) rfl rfl rfl (fun _ _ _ h=>h.elim) (fun _ _ _ _ _ h=>h.elim) (fun _ _ h=>h.elim) (fun _ h=>h.elim) (fun _ h=>h.elim) (fun _ _ h=>h.elim) (fun _ _ h=>h.elim) (fun _ _ h=>h.elim) (fun _ h=>h.elim) (fun _ _ _ h=>h.elim)
theorem oN {E:Env} {r:Nat} {b:Option Nat} {s:Value} {I:Nat->Value} {r' j q:Nat}:(E.sV r b s I).has r' j q↔(if r'=r then (match j with|0=>b=some q|i+1=>bW (I i)=some q) else E.has r' j q):=by
 cases j with
 | zero =>
  show bV E.blk r b r'=some q↔_
  unfold bV
  split<;>exact Iff.rfl
 | succ i =>
  show bW (bV E.inn r I r' i)=some q↔_
  unfold bV
  split<;>exact Iff.rfl
theorem Mem.GX {E:Env} {ρ:Nat->Res} {W w w':World} (h:Mem E ρ W w) (r:Nat) (hg:lG E w w' (fun q=>q=r)) (b:Option Nat) (s:Value) (I:Nat->Value) (x:Res) (hx:oD (E.sV r b s I) w' r x)
  (hown:∀ q,(b=some q\/∃ i,bW (I i)=some q)->(∃ j0,E.has r j0 q)\/w.heap.size<=q)
  (b5s:∀ q i,b=some q->bW (I i)≠some q) (c1Y:∀ i i' q,bW (I i)=some q->bW (I i')=some q->i=i')
  (b0i:∀ i,x.cnt<=i->bW (I i)=none)
  (hp:(ρ r).pV->x.pV/\b=E.blk r) (hkp:(ρ r).FU->x.FU/\(x.oJ->(ρ r).oJ/\b=E.blk r)) (hv:∀ v,Res.fM v (ρ r)->Res.fM v x)
  (ho:∀ v,Res.fM v (ρ r)->Res.isRow v x->Res.isRow v (ρ r)/\s=E.sl r/\x.esz=(ρ r).esz)
  (KI:∀ v,Res.fM v (ρ r)->Res.oO v x->Res.oO v (ρ r)/\x.msz=(ρ r).msz/\(ρ r).cnt<=x.cnt/\∀ i,i<(ρ r).cnt->I i=E.inn r i)
  (hk:Ext E ρ w (E.sV r b s I) (bV ρ r x) w'->∀ k,x=.mX k->a4a (E.sV r b s I) (bV ρ r x) w' r k) :
  Mem (E.sV r b s I) (bV ρ r x) W w'/\Ext E ρ w (E.sV r b s I) (bV ρ r x) w':=by
 refine h.turns (fun q=>q=r) hg (fun q hq=>⟨aP _ _ hq,aP _ _ hq,aP _ _ hq,aP _ _ hq⟩) rfl rfl rfl (fun r' j q e hh=>?_) (fun r1 j r2 j' q e1 e2 h1 h2=>?_) (fun r' i e hi=>?_) (fun r' e hr=>?_) (fun r' e hr=>?_) (fun r' v e hr=>?_) (fun r' v e hr hr'=>?_) (fun r' v e hr hr'=>?_) (fun r' e=>?_) (fun hX r' k e hr=>?_)
 ·subst e
  rw[oN,ig rfl] at hh
  rcases hown q (by cases j with|zero=>exact .inl hh|succ i=>exact .inr ⟨i,hh⟩) with⟨j0,h0⟩|h0
  ·grind
  ·grind
 ·subst e1 e2
  rw[oN,ig rfl] at h1 h2
  refine⟨rfl,?_⟩
  cases j with
  | zero=>cases j' with
   | zero=>rfl
   | succ i=>exact(b5s q i h1 h2).elim
  | succ i=>cases j' with
   | zero=>exact(b5s q i h2 h1).elim
   | succ i'=>rw[c1Y i i' q h1 h2]
 ·subst e;rw[aG] at hi;show bW (bV E.inn r' I r' i)=none;rw[aG];exact b0i i hi
 ·subst e;rw[aG];obtain⟨a,c⟩:=hp hr;exact⟨a,by show bV E.blk r' b r'=_;rw[aG];exact c⟩
 ·subst e;rw[aG];obtain⟨a,c⟩:=hkp hr;exact⟨a,fun hh=>⟨(c hh).1,by show bV E.blk r' b r'=_;rw[aG];exact(c hh).2⟩⟩
 ·subst e;rw[aG];exact hv v hr
 ·subst e;rw[aG] at hr' ⊢;obtain⟨a,c,d⟩:=ho v hr hr';exact⟨a,by show bV E.sl r' s r'=_;rw[aG];exact c,d⟩
 ·subst e;rw[aG] at hr' ⊢;obtain⟨a,c,d,f⟩:=KI v hr hr';exact⟨a,c,d,fun i hi=>by show bV E.inn r' I r' i=_;rw[aG];exact f i hi⟩
 ·subst e;rw[aG];exact hx
 ·subst e;rw[aG] at hr;exact hk hX k hr
theorem Mem.turn {E:Env} {ρ:Nat->Res} {W w w':World} (h:Mem E ρ W w) (r:Nat) (hg:lG E w w' (fun q=>q=r)) (b:Option Nat) (s:Value) (x:Res) (hx:oD (E.put r b s) w' r x)
  (hb:b=none\/b=E.blk r\/b=some w.heap.size) (hc:x.cnt=0) (hkb:∀ k,x≠.mX k) (hkg:¬ (ρ r).FU)
  (hp:(ρ r).pV->x.pV/\b=E.blk r) (hv:∀ v,Res.fM v (ρ r)->Res.fM v x)
  (ho:∀ v,Res.fM v (ρ r)->Res.isRow v x->Res.isRow v (ρ r)/\s=E.sl r/\x.esz=(ρ r).esz) (hnm:∀ v,¬ Res.oO v x) :
  Mem (E.put r b s) (bV ρ r x) W w'/\Ext E ρ w (E.put r b s) (bV ρ r x) w' :=
 h.GX r hg b s (fun _=>undef) x hx (fun q hq=>by
  rcases hq with hq|⟨i,hq⟩
  ·rcases hb with e|e|e
   ·grind
   ·exact .inl ⟨0,by show E.blk r=some q;rw[<-e];exact hq⟩
   ·grind
  ·cases hq) (fun q i _ hq=>by cases hq) (fun i i' q hq=>by cases hq) (fun i _=>rfl) hp (fun hh=>(hkg hh).elim) hv ho (fun v _ hh=>(hnm v hh).elim) (fun _ k e=>(hkb k e).elim)
theorem CP {E:Env} {ρ:Nat->Res} {w w':World} {r:Nat} {b:Option Nat} {s:Value} (hsz:w.heap.size<=w'.heap.size) (hb:b=none\/b=E.blk r\/b=some w.heap.size):∀ q,fz w E q->fz w' (E.put r b s) q :=
 vI (S:=fun q=>q=r) hsz rfl (fun q hq=>⟨aP _ _ hq,aP _ _ hq⟩) (fun r' j q e hh=>by
  subst e
  unfold Env.put at hh
  rw[oN,ig rfl] at hh
  cases j with
  | zero =>
   rcases hb with e|e|e
   ·grind
   ·exact .inl ⟨r',0,by show E.blk r'=some q;rw[<-e];exact hh⟩
   ·grind
  | succ i=>cases hh)
def a6f {α:Type} (f:α->List Part) (d:α) (xs:List α):Nat->Nat->List Part
 | 0,_=>[]
 | n+1,i=>f (xs.getD i d)++a6f f d xs n (i+1)
def flat:(t:Ty)->t.den->List Part
 | .pair a b,x=>flat a x.1++flat b x.2
 | .arr n a,x=>a6f (α:=a.den) (flat a) a.zero x n 0
 | .unit,_=>[]
 | t,x=>[⟨t,x⟩]
theorem rE {α:Type} {R:List Value->α->Prop}:∀ {xs ys:List α} {c d:List Value},chunks R c xs->chunks R d ys->chunks R (c++d) (xs++ys)
 | [],_,c,d,h,k=>by rw[show c=[] from h];exact k
 | x::xs,ys,_,d,⟨c1,c2,h1,h2,h3⟩,k=>⟨c1,c2++d,by rw[h1,Az],h2,rE h3 k⟩
theorem qE {α:Type} {R:List Value->α->Prop}:∀ {xs ys:List α} {c:List Value},chunks R c (xs++ys)->∃ c1 c2,c=c1++c2/\chunks R c1 xs/\chunks R c2 ys
 | [],_,c,h=>⟨[],c,rfl,rfl,h⟩
 | x::xs,ys,_,⟨c1,c2,h1,h2,h3⟩=>by
  obtain⟨d1,d2,rfl,k1,k2⟩:=qE h3
  exact⟨c1++d1,d2,by rw[h1,Az],⟨c1,d1,rfl,h2,k1⟩,k2⟩
theorem pG {α:Type} {R:List Value->α->Prop} {x:α} {c:List Value} (h:R c x):chunks R c [x]:=⟨c,[],by simp,h,rfl⟩
theorem a2r {α:Type} {R:List Value->α->Prop} {S:List Value->Part->Prop} {f:α->List Part} {d:α} (h:∀ c x,R c x->chunks S c (f x)):∀ (ys zs:List α) (cs:List Value),chunks R cs zs->chunks S cs (a6f f d (ys++zs) zs.length ys.length)
 | _,[],cs,hc=>hc
 | ys,z::zs,_,⟨c1,c2,h1,h2,h3⟩=>by
  rw[h1]
  simp only[List.length_cons,a6f]
  have e:(ys++z::zs).getD ys.length d=z:=by simp[]
  rw[e]
  have:=a2r (d:=d) h (ys++[z]) zs c2 h3
  rw[Az,iy] at this
  exact rE (h _ _ h2) this
theorem KD {F:Nat->Prop} {w:World}:(t:Ty)->(x:t.den)->(cs:List Value)->t.still=true->rep F w t cs x->chunks (jI F w) cs (flat t x)
 | .pair a b,x,cs,hs,⟨c1,c2,h1,h2,h3⟩=>by
  simp only[Ty.still,ak] at hs
  rw[h1]
  exact rE (KD a x.1 c1 hs.1 h2) (KD b x.2 c2 hs.2 h3)
 | .unit,x,cs,hs,h=>h
 | .bool,x,cs,hs,h=>pG ⟨h,hs⟩
 | .int _,x,cs,hs,h=>pG ⟨h,hs⟩
 | .lf _,x,cs,hs,h=>pG ⟨h,hs⟩
 | .list _,x,cs,hs,h=>pG ⟨h,hs⟩
 | .arr n a,x,cs,hs,h=>by
  obtain⟨h1,h2⟩:=h
  have:=a2r (d:=a.zero) (f:=flat a) (fun c y hy=>KD a y c (by simpa [Ty.still] using hs) hy) [] x cs h2
  rw[h1] at this
  exact this
 | .ref _,x,cs,hs,h=>pG ⟨h,hs⟩
 | .clo _ _,x,cs,hs,h=>pG ⟨h,hs⟩
 | .nls _,x,cs,hs,h=>pG ⟨h,hs⟩
def Ty.zc:Ty->Option (List Value)
 | .bool=>some [.bool false]
 | .int k=>some [.int k 0]
 | .lf .rat=>none
 | .lf .big=>some [.bool false,.slice none 0 0]
 | .lf .dG=>some [.bool false,.slice none 0 0,.bool false,.slice none 0 0]
 | .lf .NZ=>some [.bool false,.slice none 0 0]
 | .lf .str=>some [.string ByteArray.empty]
 | .list _=>some [.slice none 0 0]
 | .arr n t=>t.zc.map fun c=>(List.replicate n c).flatten
 | .pair a b=>match a.zc,b.zc with
  | some c,some d=>some (c++d)
  | _,_=>none
 | .unit=>some []
 | _=>none
theorem VF (w:World):iQ w (.agg #[.bool false,.slice none 0 0]) true 0:=⟨false,.slice none 0 0,[],rfl,Rd.nil w,by simp,by decide +kernel,by decide +kernel⟩
theorem AO {F:Nat->Prop} {w:World}:(t:Ty)->(c:List Value)->t.zc=some c->rep F w t c t.zero
 | .bool,c,h=>by simp only[Ty.zc,ah] at h;rw[<-h];rfl
 | .int k,c,h=>by simp only[Ty.zc,ah] at h;rw[<-h];rfl
 | .lf .big,c,h=>by
  simp only[Ty.zc,ah] at h;rw[<-h]
  exact(VF w).int
 | .lf .dG,c,h=>by
  simp only[Ty.zc,ah] at h;rw[<-h]
  have h0:=VF w
  exact⟨false,none,0,false,none,0,rfl,⟨_,_,_,_,true,true,0,0,rfl,h0,h0,rfl,rfl⟩,Rd.nil w,Rd.nil w⟩
 | .lf .NZ,c,h=>by
  simp only[Ty.zc,ah] at h;rw[<-h]
  exact⟨false,none,0,rfl,VF w,Rd.nil w⟩
 | .lf .str,c,h=>by simp only[Ty.zc,ah] at h;rw[<-h];rfl
 | .list t,c,h=>by
  simp only[Ty.zc,ah] at h;rw[<-h]
  exact⟨none,0,rfl,by simp[Ty.zero],by omega,.inl rfl⟩
 | .arr n t,c,h=>by
  simp only[Ty.zc,je] at h
  obtain⟨d,h1,rfl⟩:=h
  refine⟨by simp[Ty.zero],?_⟩
  have hd:=AO (F:=F) (w:=w) t d h1
  induction n with
  | zero=>exact rfl
  | succ n ih=>exact⟨d,_,by rw[List.replicate_succ,List.flatten_cons],hd,ih⟩
 | .pair a b,c,h=>by
  simp only[Ty.zc] at h
  split at h<;>try(cases h;done)
  rename_i c1 c2 h1 h2
  simp only[ah] at h
  exact⟨c1,c2,h.symm,AO a c1 h1,AO b c2 h2⟩
 | .unit,c,h=>by simp only[Ty.zc,ah] at h;rw[<-h];rfl
def veq:Value->Value->Bool
 | .bool a,.bool b=>a==b
 | .int k a,.int k' b=>k==k'&&a==b
 | .slice none 0 0,.slice none 0 0=>true
 | .string a,.string b=>a.data.isEmpty&&b.data.isEmpty
 | _,_=>false
theorem c0z {a b:Value} (h:veq a b=true):a=b:=by
 unfold veq at h
 split at h<;>simp_all
 rename_i a b
 cases a;cases b
 simp_all
def b5b:List Value->List Value->Bool
 | [],[]=>true
 | a::l,b::m=>veq a b&&b5b l m
 | _,_=>false
theorem a7t:∀ {a b:List Value},b5b a b=true->a=b
 | [],[],_=>rfl
 | a::l,b::m,h=>by
  simp only[b5b,ak] at h
  rw[c0z h.1,a7t h.2]
def ZY (P:Program) (t:TypeId) (ty:Ty):Bool:=match P.info? t,ty.zc with
 | some i,some c=>match i.zero with
  | some z=>b5b z.cells.toList c&&i.size==ty.n
  | none=>false
 | _,_=>false
theorem AP {P:Program} {t:TypeId} {ty:Ty} (h:ZY P t ty=true):∃ i z c,P.info? t=some i/\i.zero=some z/\ty.zc=some c/\z.cells.toList=c/\i.size=ty.n:=by
 unfold ZY at h
 split at h<;>try(cases h;done)
 rename_i i c h1 h2
 split at h<;>try(cases h;done)
 rename_i z h3
 simp only[ak,ji] at h
 exact⟨i,z,c,h1,h3,h2,a7t h.1,h.2⟩
theorem pW {F:Nat->Prop} {w:World}:(t:Ty)->(cs:List Value)->(x:t.den)->rep F w t cs x->(t.toV cs).cells=cs.toArray
 | .bool,_,_,h=>by rw[show _=_ from h];rfl
 | .int _,_,_,h=>by rw[show _=_ from h];rfl
 | .lf .rat,_,_,h=>rfl
 | .lf .big,_,_,h=>rfl
 | .lf .dG,_,_,h=>rfl
 | .lf .NZ,_,_,h=>rfl
 | .lf .str,_,_,h=>by rw[show _=_ from h];rfl
 | .lf .grp,_,_,h=>rfl
 | .lf .gsl,_,_,h=>by
  obtain⟨s,rfl,h2⟩:=h
  obtain⟨p,c,rfl,_,_⟩:=h2.form
  rfl
 | .lf .TA,_,_,h=>by
  obtain⟨b,o,rfl,_⟩:=h
  rfl
 | .lf .esl,_,_,h=>by
  obtain⟨b,rfl⟩:=h
  rfl
 | .list t,_,x,⟨p,c,h1,_⟩=>by rw[h1];rfl
 | .arr n t,_,_,_=>rfl
 | .pair a b,_,_,_=>rfl
 | .unit,_,_,h=>rfl
 | .ref t,_,_,⟨b,o,ds,h1,_⟩=>by rw[h1];rfl
 | .clo _ t,_,_,⟨ds,h1,_⟩=>by rw[h1];rfl
 | .nls t,_,_,h=>by rcases h with⟨_,rfl⟩|⟨ys,b,o,c,ds,_,rfl,_⟩<;>rfl
def OU:List Part->Nat->Option (List Part × List Part)
 | ps,0=>some ([],ps)
 | [],_+1=>none
 | p::ps,o+1=>if p.t.n<=o+1 then (OU ps (o+1-p.t.n)).map fun q=>(p::q.1,q.2) else none
def packs (g:List Part->Option (Part × List Part)) (t:Ty):Nat->List Part->Option (List t.den × List Part)
 | 0,ps=>some ([],ps)
 | n+1,ps=>match g ps with
  | some (p,qs)=>match jF p.t t p.x,packs g t n qs with
   | some x,some (xs,rs)=>some (x::xs,rs)
   | _,_=>none
  | none=>none
def pack:Ty->List Part->Option (Part × List Part)
 | .pair a b,ps=>match pack a ps with
  | some (p,qs)=>(pack b qs).map fun r=>(⟨.pair p.t r.1.t,(p.x,r.1.x)⟩,r.2)
  | none=>none
 | .arr n a,ps=>match pack a ps with
  | some (p,_)=>(packs (pack a) p.t n ps).map fun r=>(⟨.arr n p.t,r.1⟩,r.2)
  | none=>none
 | .unit,ps=>some (⟨.unit,()⟩,ps)
 | _,p::ps=>some (p,ps)
 | _,[]=>none
theorem jI.len {F:Nat->Prop} {w:World} {c:List Value} {p:Part} (h:jI F w c p):c.length=p.t.n:=dX _ _ _ h.1
def a7j (ps:List Part):Nat:=(ps.map (·.t.n)).sum
theorem sK {F:Nat->Prop} {w:World}:∀ {ps:List Part} {c:List Value},chunks (jI F w) c ps->c.length=a7j ps
 | [],c,h=>by rw[show c=[] from h];rfl
 | p::ps,_,⟨c1,c2,h1,h2,h3⟩=>by rw[h1,iy,h2.len,sK h3];simp[a7j]
theorem vH:∀ (ps:List Part) (o:Nat) (a b:List Part),OU ps o=some (a,b)->ps=a++b/\a7j a=o
 | ps,0,a,b,h=>by
  simp only[OU] at h
  obtain⟨rfl,rfl⟩:=h
  exact⟨rfl,rfl⟩
 | p::ps,o+1,a,b,h=>by
  simp only[OU] at h
  split at h<;>try(cases h;done)
  simp only[je] at h
  obtain⟨⟨a',b'⟩,h1,rfl,rfl⟩:=h
  obtain⟨h2,h3⟩:=vH ps _ a' b' h1
  exact⟨by rw[h2];rfl,by simp only[a7j,yx,List.sum_cons] at *;omega⟩
theorem VB {S:List Value->Part->Prop} {R:(t:Ty)->List Value->t.den->Prop} {g:List Part->Option (Part × List Part)} (hS:∀ c p,S c p->R p.t c p.x) (hg:∀ ps p qs c,g ps=some (p,qs)->chunks S c ps->chunks S c (p::qs)) (t:Ty):∀ (n:Nat) (ps:List Part) (xs:List t.den) (rs:List Part) (c:List Value),packs g t n ps=some (xs,rs)->chunks S c ps->∃ c1 c2,c=c1++c2/\xs.length=n/\chunks (R t) c1 xs/\chunks S c2 rs
 | 0,ps,xs,rs,c,h,hc=>by
  obtain⟨rfl,rfl⟩:=h
  exact⟨[],c,rfl,rfl,rfl,hc⟩
 | n+1,ps,xs,rs,c,h,hc=>by
  simp only[packs] at h
  split at h<;>try(cases h;done)
  rename_i p qs hgp
  split at h<;>try(cases h;done)
  rename_i x xs' rs' hx hr
  obtain⟨rfl,rfl⟩:=h
  obtain⟨c1,c2,rfl,k1,k2⟩:=hg _ _ _ _ hgp hc
  obtain⟨c3,c4,rfl,k3,k4,k5⟩:=VB hS hg t n qs _ _ c2 hr k2
  refine⟨c1++c3,c4,by rw[Az],by simp[k3],⟨c1,c3,rfl,?_,k4⟩,k5⟩
  obtain⟨e,hx⟩:=fC hx
  grind
theorem uU {F:Nat->Prop} {w:World}:(t:Ty)->(ps:List Part)->(p:Part)->(qs:List Part)->(c:List Value)->pack t ps=some (p,qs)->chunks (jI F w) c ps->∃ c1 c2,c=c1++c2/\jI F w c1 p/\chunks (jI F w) c2 qs
 | .pair a b,ps,p,qs,c,h,hc=>by
  simp only[pack] at h
  split at h<;>try(cases h;done)
  rename_i p1 q1 h1
  simp only[je] at h
  obtain⟨⟨p2,q2⟩,h2,rfl,rfl⟩:=h
  obtain⟨c1,c2,rfl,k1,k2⟩:=uU a ps p1 q1 c h1 hc
  obtain⟨c3,c4,rfl,k3,k4⟩:=uU b q1 p2 q2 c2 h2 k2
  exact⟨c1++c3,c4,by rw[Az],⟨⟨c1,c3,rfl,k1.1,k3.1⟩,by simp[Ty.still,k1.2,k3.2]⟩,k4⟩
 | .unit,ps,p,qs,c,h,hc=>by
  obtain⟨rfl,rfl⟩:=h
  exact⟨[],c,rfl,⟨rfl,rfl⟩,hc⟩
 | .arr n a,ps,p,qs,c,h,hc=>by
  simp only[pack] at h
  split at h<;>try(cases h;done)
  rename_i p1 q1 h1
  simp only[je] at h
  obtain⟨⟨xs,rs⟩,h2,rfl,rfl⟩:=h
  obtain⟨c0,c9,_,k0,_⟩:=uU a ps p1 q1 c h1 hc
  obtain⟨c1,c2,e,k1,k2,k3⟩:=VB (S:=jI F w) (R:=rep F w) (fun c p h=>h.1) (fun ps p qs c h hc=>uU a ps p qs c h hc) p1.t n ps xs rs c h2 hc
  exact⟨c1,c2,e,⟨⟨k1,k2⟩,by have:=k0.2;simpa [Ty.still] using this⟩,k3⟩
 | .bool,p'::ps,p,qs,c,h,hc=>by simp only[pack] at h;obtain⟨rfl,rfl⟩:=h;exact hc
 | .int _,p'::ps,p,qs,c,h,hc=>by simp only[pack] at h;obtain⟨rfl,rfl⟩:=h;exact hc
 | .lf _,p'::ps,p,qs,c,h,hc=>by simp only[pack] at h;obtain⟨rfl,rfl⟩:=h;exact hc
 | .list _,p'::ps,p,qs,c,h,hc=>by simp only[pack] at h;obtain⟨rfl,rfl⟩:=h;exact hc
 | .ref _,p'::ps,p,qs,c,h,hc=>by simp only[pack] at h;obtain⟨rfl,rfl⟩:=h;exact hc
 | .nls _,p'::ps,p,qs,c,h,hc=>by simp only[pack] at h;obtain⟨rfl,rfl⟩:=h;exact hc
 | .clo _ _,p'::ps,p,qs,c,h,hc=>by simp only[pack] at h;obtain⟨rfl,rfl⟩:=h;exact hc
end Go.Proofs.YtgplhbhfdgempaaGreat
