/-
  Lemmas for the theorem vstations28_holds, part 7 of 34.
-/
import Derived.Deep.OwnRows
import Derived.Test.YtbkocjmmbkifjaaGreatQs06
namespace Go.Proofs.YtbkocjmmbkifjaaGreat
open Go Go.RowKit
theorem yu:type_of% @cell_of_row:=@cell_of_row
theorem Ei:type_of% @Array.mem_toList_iff:=@Array.mem_toList_iff
theorem Ci:type_of% @heap_alloc_new:=@heap_alloc_new
theorem ku:type_of% @List.mem_cons_of_mem:=@List.mem_cons_of_mem
set_option linter.unusedSimpArgs false
set_option linter.unusedVariables false
set_option maxRecDepth 20000
def QC (w:World) (u0 u1 u2 u3:Value) (K:Nat) (ok:Bool) (q:Rat):Prop :=
 ∃ g p n c h p' n' c',u0=.bool g/\u1=.slice p n c/\u2=.bool h/\u3=.slice p' n' c'/\lH w (.agg #[.bool g,.slice p n c,.bool h,.slice p' n' c']) ok q/\n<=K/\n'<=K
theorem QC.below {w w':World} {u0 u1 u2 u3:Value} {K:Nat} {ok:Bool} {q:Rat} (h:QC w u0 u1 u2 u3 K ok q) (hb:Below w.heap.size w w'):QC w' u0 u1 u2 u3 K ok q:=by
 obtain⟨g,p,n,c,h,p',n',c',e0,e1,e2,e3,hq,k⟩:=h
 exact⟨g,p,n,c,h,p',n',c',e0,e1,e2,e3,hq.below hb,k⟩
theorem QC.iM {w:World} {u0 u1 u2 u3:Value} {K:Nat} {ok:Bool} {q:Rat} (h:QC w u0 u1 u2 u3 K ok q) {a:Addr} {u:Value} (hc:w.cell? a=some u) (hu:dA u=true) (u':Value):QC (w.setCell a u') u0 u1 u2 u3 K ok q:=by
 obtain⟨g,p,n,c,h,p',n',c',e0,e1,e2,e3,hq,k⟩:=h
 exact⟨g,p,n,c,h,p',n',c',e0,e1,e2,e3,hq.iM hc hu u',k⟩
theorem QC.nu {w:World} {u0 u1 u2 u3:Value} {K:Nat} {ok:Bool} {q:Rat} (h:QC w u0 u1 u2 u3 K ok q):dA u0=true/\dA u1=true/\dA u2=true/\dA u3=true:=by
 obtain⟨g,p,n,c,h,p',n',c',rfl,rfl,rfl,rfl,hq,k⟩:=h
 exact⟨rfl,rfl,rfl,rfl⟩
theorem QC.mono {w:World} {u0 u1 u2 u3:Value} {K K':Nat} {ok:Bool} {q:Rat} (h:QC w u0 u1 u2 u3 K ok q) (hK:K<=K'):QC w u0 u1 u2 u3 K' ok q:=by
 obtain⟨g,p,n,c,h,p',n',c',e0,e1,e2,e3,hq,k,k'⟩:=h
 exact⟨g,p,n,c,h,p',n',c',e0,e1,e2,e3,hq,by omega,by omega⟩
theorem QC.of {w:World} {g h:Bool} {p p':Option Addr} {n c n' c' K:Nat} {q:Rat} (hq:RQ w (.agg #[.bool g,.slice p n c,.bool h,.slice p' n' c']) q) (hK:rsz q<=K):QC w (.bool g) (.slice p n c) (.bool h) (.slice p' n' c') K true q:=by
 have hn:=hq.qn hK
 obtain⟨_,_,_,_,_,_,_,_,e,l1,l2⟩:=hn
 simp only[Value.agg.injEq,Array.mk.injEq,List.cons.injEq,Value.slice.injEq,Value.bool.injEq] at e
 obtain⟨rfl,⟨rfl,rfl,rfl⟩,rfl,⟨rfl,rfl,rfl⟩,_⟩:=e
 exact⟨g,p,_,c,h,p',_,c',rfl,rfl,rfl,rfl,hq.raw,l1,l2⟩
theorem QC.zero (w:World) (K:Nat):QC w (.bool false) (.slice none 0 0) (.bool false) (.slice none 0 0) K false 0:=by
 refine⟨false,none,0,0,false,none,0,0,rfl,rfl,rfl,rfl,⟨_,_,_,_,true,true,0,0,rfl,?_,?_,?_,by simp⟩,by omega,by omega⟩
 ·exact⟨false,_,[],rfl,.inl ⟨none,rfl,rfl⟩,by simp,by simp[cnt,wR],by simp[wR]⟩
 ·exact⟨false,_,[],rfl,.inl ⟨none,rfl,rfl⟩,by simp,by simp[cnt,wR],by simp[wR]⟩
 ·simp
theorem QC.open {w:World} {u0 u1 u2 u3:Value} {K:Nat} {ok:Bool} {q:Rat} (h:QC w u0 u1 u2 u3 K ok q):∃ g p n c h p' n' c',u0=.bool g/\u1=.slice p n c/\u2=.bool h/\u3=.slice p' n' c'/\lH w (.agg #[.bool g,.slice p n c,.bool h,.slice p' n' c']) ok q/\Qn (.agg #[.bool g,.slice p n c,.bool h,.slice p' n' c']) K:=by
 obtain⟨g,p,n,c,h,p',n',c',e0,e1,e2,e3,hq,k,k'⟩:=h
 exact⟨g,p,n,c,h,p',n',c',e0,e1,e2,e3,hq,⟨_,_,_,_,_,_,_,_,rfl,k,k'⟩⟩
def uO (w:World) (s:Value) (n K:Nat) (ok:Nat->Bool) (e:Nat->Rat):Prop :=
 ∃ p c,s=.slice p n c/\n<=c/\c<=9223372036854775807/\(0<n->∃ b o,p=some ⟨b,o,none⟩/\b<w.heap.size/\∀ i,i<n->∃ u0 u1 u2 u3,w.cell? ⟨b,o+i*4,none⟩=some u0/\w.cell? ⟨b,o+i*4+1,none⟩=some u1/\w.cell? ⟨b,o+i*4+2,none⟩=some u2/\w.cell? ⟨b,o+i*4+3,none⟩=some u3/\QC w u0 u1 u2 u3 K (ok i) (e i))
theorem uO.below {w w':World} {s:Value} {n K:Nat} {ok:Nat->Bool} {e:Nat->Rat} (h:uO w s n K ok e) (hb:Below w.heap.size w w'):uO w' s n K ok e:=by
 obtain⟨p,c,hs,h1,h2,h3⟩:=h
 refine⟨p,c,hs,h1,h2,fun hn=>?_⟩
 obtain⟨b,o,hp,hlt,hi⟩:=h3 hn
 have hc:=(iQ hb).1
 refine⟨b,o,hp,qg hlt hb.size,fun i hin=>?_⟩
 obtain⟨u0,u1,u2,u3,c0,c1,c2,c3,hq⟩:=hi i hin
 exact⟨u0,u1,u2,u3,by rw[hc _ _ hlt];exact c0,by rw[hc _ _ hlt];exact c1,by rw[hc _ _ hlt];exact c2,by rw[hc _ _ hlt];exact c3,hq.below hb⟩
theorem uO.form {w:World} {s:Value} {n K:Nat} {ok:Nat->Bool} {e:Nat->Rat} (h:uO w s n K ok e):∃ p c,s=.slice p n c/\n<=c/\c<=9223372036854775807:=by
 obtain⟨p,c,hs,h1,h2,h3⟩:=h
 exact⟨p,c,hs,h1,h2⟩
theorem uO.congr {w:World} {s:Value} {n K:Nat} {ok ok':Nat->Bool} {e e':Nat->Rat} (h:uO w s n K ok e) (h1:∀ i,i<n->ok i=ok' i) (h2:∀ i,i<n->e i=e' i):uO w s n K ok' e':=by
 obtain⟨p,c,hs,k1,k2,h3⟩:=h
 refine⟨p,c,hs,k1,k2,fun hn=>?_⟩
 obtain⟨b,o,hp,hlt,hi⟩:=h3 hn
 refine⟨b,o,hp,hlt,fun i hin=>?_⟩
 rw[<-h1 i hin,<-h2 i hin]
 exact hi i hin
theorem uO.mono {w:World} {s:Value} {n K K':Nat} {ok:Nat->Bool} {e:Nat->Rat} (h:uO w s n K ok e) (hK:K<=K'):uO w s n K' ok e:=by
 obtain⟨p,c,hs,k1,k2,h3⟩:=h
 refine⟨p,c,hs,k1,k2,fun hn=>?_⟩
 obtain⟨b,o,hp,hlt,hi⟩:=h3 hn
 refine⟨b,o,hp,hlt,fun i hin=>?_⟩
 obtain⟨u0,u1,u2,u3,c0,c1,c2,c3,hq⟩:=hi i hin
 exact⟨u0,u1,u2,u3,c0,c1,c2,c3,hq.mono hK⟩
theorem uO.at_ {w:World} {p:Option Addr} {n c K:Nat} {ok:Nat->Bool} {e:Nat->Rat} (h:uO w (.slice p n c) n K ok e) {k:Nat} (hk:k<n) :
  ∃ b o g q m d g' q' m' d',p=some ⟨b,o,none⟩/\b<w.heap.size/\w.cell? ⟨b,o+k*4,none⟩=some (.bool g)/\w.cell? ⟨b,o+k*4+1,none⟩=some (.slice q m d)/\w.cell? ⟨b,o+k*4+2,none⟩=some (.bool g')/\w.cell? ⟨b,o+k*4+3,none⟩=some (.slice q' m' d') /\
   lH w (.agg #[.bool g,.slice q m d,.bool g',.slice q' m' d']) (ok k) (e k)/\Qn (.agg #[.bool g,.slice q m d,.bool g',.slice q' m' d']) K:=by
 obtain⟨p',c',hs,h1,h2,h3⟩:=h
 cases hs
 obtain⟨b,o,hp,hlt,hi⟩:=h3 (by omega)
 obtain⟨u0,u1,u2,u3,c0,c1,c2,c3,hq⟩:=hi k hk
 obtain⟨g,q,m,d,g',q',m',d',rfl,rfl,rfl,rfl,hr,hn⟩:=hq.open
 exact⟨b,o,g,q,m,d,g',q',m',d',hp,hlt,c0,c1,c2,c3,hr,hn⟩
def yS (w:World) (v:Value) (R:Nat) (L:Nat->Nat) (K:Nat) (ok:Nat->Nat->Bool) (e:Nat->Nat->Rat):Prop :=
 ∃ p c,v=.slice p R c/\R<=c/\c<=9223372036854775807/\(0<R->∃ b o,p=some ⟨b,o,none⟩/\b<w.heap.size/\∀ i,i<R->∃ s,w.cell? ⟨b,o+i,none⟩=some s/\uO w s (L i) K (ok i) (e i))
theorem yS.below {w w':World} {v:Value} {R K:Nat} {L:Nat->Nat} {ok:Nat->Nat->Bool} {e:Nat->Nat->Rat} (h:yS w v R L K ok e) (hb:Below w.heap.size w w'):yS w' v R L K ok e:=by
 obtain⟨p,c,hs,h1,h2,h3⟩:=h
 refine⟨p,c,hs,h1,h2,fun hn=>?_⟩
 obtain⟨b,o,hp,hlt,hi⟩:=h3 hn
 have hc:=(iQ hb).1
 refine⟨b,o,hp,qg hlt hb.size,fun i hin=>?_⟩
 obtain⟨s,c0,hr⟩:=hi i hin
 exact⟨s,by rw[hc _ _ hlt];exact c0,hr.below hb⟩
theorem yS.form {w:World} {v:Value} {R K:Nat} {L:Nat->Nat} {ok:Nat->Nat->Bool} {e:Nat->Nat->Rat} (h:yS w v R L K ok e):∃ p c,v=.slice p R c/\R<=c/\c<=9223372036854775807:=by
 obtain⟨p,c,hs,h1,h2,h3⟩:=h
 exact⟨p,c,hs,h1,h2⟩
theorem yS.congr {w:World} {v:Value} {R K:Nat} {L L':Nat->Nat} {ok ok':Nat->Nat->Bool} {e e':Nat->Nat->Rat} (h:yS w v R L K ok e) (hL:∀ i,i<R->L i=L' i) (h1:∀ i,i<R->∀ j,j<L i->ok i j=ok' i j) (h2:∀ i,i<R->∀ j,j<L i->e i j=e' i j):yS w v R L' K ok' e':=by
 obtain⟨p,c,hs,k1,k2,h3⟩:=h
 refine⟨p,c,hs,k1,k2,fun hn=>?_⟩
 obtain⟨b,o,hp,hlt,hi⟩:=h3 hn
 refine⟨b,o,hp,hlt,fun i hin=>?_⟩
 obtain⟨s,c0,hr⟩:=hi i hin
 rw[<-hL i hin]
 exact⟨s,c0,hr.congr (h1 i hin) (h2 i hin)⟩
theorem yS.mono {w:World} {v:Value} {R K K':Nat} {L:Nat->Nat} {ok:Nat->Nat->Bool} {e:Nat->Nat->Rat} (h:yS w v R L K ok e) (hK:K<=K'):yS w v R L K' ok e:=by
 obtain⟨p,c,hs,k1,k2,h3⟩:=h
 refine⟨p,c,hs,k1,k2,fun hn=>?_⟩
 obtain⟨b,o,hp,hlt,hi⟩:=h3 hn
 refine⟨b,o,hp,hlt,fun i hin=>?_⟩
 obtain⟨s,c0,hr⟩:=hi i hin
 exact⟨s,c0,hr.mono hK⟩
theorem yS.at_ {w:World} {p:Option Addr} {R c K:Nat} {L:Nat->Nat} {ok:Nat->Nat->Bool} {e:Nat->Nat->Rat} (h:yS w (.slice p R c) R L K ok e) {k:Nat} (hk:k<R) :
  ∃ b o q d,p=some ⟨b,o,none⟩/\b<w.heap.size/\w.cell? ⟨b,o+k,none⟩=some (.slice q (L k) d)/\uO w (.slice q (L k) d) (L k) K (ok k) (e k):=by
 obtain⟨p',c',hs,h1,h2,h3⟩:=h
 cases hs
 obtain⟨b,o,hp,hlt,hi⟩:=h3 (by omega)
 obtain⟨s,c0,hr⟩:=hi k hk
 obtain⟨q,d,rfl,_,_⟩:=hr.form
 exact⟨b,o,q,d,hp,hlt,c0,hr⟩
def a3m (w:World) (v:Value) (R C K:Nat) (e:Nat->Nat->Rat):Prop:=yS w v R (fun _=>C) K (fun _ _=>true) e
def VH (w:World) (v:Value) (n K:Nat) (e:Nat->Rat):Prop:=uO w v n K (fun _=>true) e
def oZ (w:World) (b n K:Nat) (ok:Nat->Bool) (e:Nat->Rat):Prop :=
 ∃ f,w.rowIs b 47 (n*4) f/\∀ j,j<n->QC w (f (j*4)) (f (j*4+1)) (f (j*4+2)) (f (j*4+3)) K (ok j) (e j)
theorem oZ.lt {w:World} {b n K:Nat} {ok:Nat->Bool} {e:Nat->Rat} (h:oZ w b n K ok e):b<w.heap.size:=by
 obtain⟨f,h1,h2⟩:=h;exact h1.lt
theorem oZ.below {w w':World} {b n K m:Nat} {ok:Nat->Bool} {e:Nat->Rat} (h:oZ w b n K ok e) (hb:Below w.heap.size w w'):oZ w' b n K ok e:=by
 obtain⟨f,h1,h2⟩:=h
 exact⟨f,h1.of_block (hb.block b h1.lt),fun j hj=>(h2 j hj).below hb⟩
theorem oZ.cells {w:World} {b n K:Nat} {ok:Nat->Bool} {e:Nat->Rat} (h:oZ w b n K ok e) {k:Nat} (hk:k<n) :
  ∃ g q m d g' q' m' d',w.cell? ⟨b,k*4,none⟩=some (.bool g)/\w.cell? ⟨b,k*4+1,none⟩=some (.slice q m d)/\w.cell? ⟨b,k*4+2,none⟩=some (.bool g')/\w.cell? ⟨b,k*4+3,none⟩=some (.slice q' m' d') /\
   lH w (.agg #[.bool g,.slice q m d,.bool g',.slice q' m' d']) (ok k) (e k)/\Qn (.agg #[.bool g,.slice q m d,.bool g',.slice q' m' d']) K:=by
 obtain⟨f,h1,h2⟩:=h
 obtain⟨g,q,m,d,g',q',m',d',e0,e1,e2,e3,hr,hn⟩:=(h2 k hk).open
 exact⟨g,q,m,d,g',q',m',d',by rw[<-e0];exact h1.cell (by omega),by rw[<-e1];exact h1.cell (by omega),by rw[<-e2];exact h1.cell (by omega),by rw[<-e3];exact h1.cell (by omega),hr,hn⟩
theorem oZ.frozen {w:World} {b n K:Nat} {ok:Nat->Bool} {e:Nat->Rat} (h:oZ w b n K ok e) (i:Nat):w.frozen? ⟨b,i,none⟩=false:=by
 obtain⟨f,h1,h2⟩:=h;exact h1.frozen i
theorem oZ.other {w:World} {b n K:Nat} {ok:Nat->Bool} {e:Nat->Rat} (h:oZ w b n K ok e) {b' o':Nat} (hne:b≠b') {u:Value} (hc:w.cell? ⟨b',o',none⟩=some u) (hu:dA u=true) (x:Value):oZ (w.setCell ⟨b',o',none⟩ x) b n K ok e:=by
 obtain⟨f,h1,h2⟩:=h
 exact⟨f,h1.setOther (by simpa using hne) x,fun j hj=>(h2 j hj).iM hc hu x⟩
def st4 (w:World) (b o:Nat) (x0 x1 x2 x3:Value):World:=(((w.setCell ⟨b,o,none⟩ x0).setCell ⟨b,o+1,none⟩ x1).setCell ⟨b,o+2,none⟩ x2).setCell ⟨b,o+3,none⟩ x3
theorem QC.b5q {w:World} {y0 y1 y2 y3:Value} {K:Nat} {ok:Bool} {q:Rat} (h:QC w y0 y1 y2 y3 K ok q) {b o:Nat} {u0 u1 u2 u3:Value} (c0:w.cell? ⟨b,o,none⟩=some u0) (c1:w.cell? ⟨b,o+1,none⟩=some u1) (c2:w.cell? ⟨b,o+2,none⟩=some u2) (c3:w.cell? ⟨b,o+3,none⟩=some u3)
  (n0:dA u0=true) (n1:dA u1=true) (n2:dA u2=true) (n3:dA u3=true) (x0 x1 x2 x3:Value):QC (st4 w b o x0 x1 x2 x3) y0 y1 y2 y3 K ok q:=by
 refine(((h.iM c0 n0 x0).iM (a:=⟨b,o+1,none⟩) (u:=u1) ?_ n1 x1).iM (a:=⟨b,o+2,none⟩) (u:=u2) ?_ n2 x2).iM (a:=⟨b,o+3,none⟩) (u:=u3) ?_ n3 x3
 ·rw[zu _ _ _ _ (by simp)];exact c1
 ·rw[zu _ _ _ _ (by simp),zu _ _ _ _ (by simp)];exact c2
 ·rw[zu _ _ _ _ (by simp),zu _ _ _ _ (by simp),zu _ _ _ _ (by simp)];exact c3
theorem oZ.b5q {w:World} {b n K:Nat} {ok:Nat->Bool} {e:Nat->Rat} (h:oZ w b n K ok e) {k:Nat} (hk:k<n) {x0 x1 x2 x3:Value} {q:Rat} (hq:QC w x0 x1 x2 x3 K true q) :
  oZ (st4 w b (k*4) x0 x1 x2 x3) b n K (fun j=>if j=k then true else ok j) (fun j=>if j=k then q else e j):=by
 obtain⟨f,h1,h2⟩:=h
 refine⟨_,(((h1.set (k*4) x0).set (k*4+1) x1).set (k*4+2) x2).set (k*4+3) x3,fun j hj=>?_⟩
 have N:=(h2 k hk).nu
 have hc:∀ i,i<4->w.cell? ⟨b,k*4+i,none⟩=some (f (k*4+i)):=fun i hi=>h1.cell (by omega)
 have S:=fun {y0 y1 y2 y3:Value} {ok':Bool} {q':Rat} (g:QC w y0 y1 y2 y3 K ok' q')=>g.b5q (b:=b) (o:=k*4) (hc 0 (by omega)) (hc 1 (by omega)) (hc 2 (by omega)) (hc 3 (by omega)) N.1 N.2.1 N.2.2.1 N.2.2.2 x0 x1 x2 x3
 by_cases e1:j=k
 ·subst e1
  simp only[jm]
  have:=S hq
  simpa [show ∀ a:Nat,¬ a=a+1 from fun a=>by omega,show ∀ a:Nat,¬ a=a+2 from fun a=>by omega,show ∀ a:Nat,¬ a=a+3 from fun a=>by omega] using this
 ·simp only[ji e1]
  have:=S (h2 j hj)
  have a0:∀ x y,x<4->y<4->¬ j*4+x=k*4+y:=fun x y hx hy=>by omega
  have a1:=a0 0
  have a2:=fun y=>a0 y 0
  simpa [a0 0 0 (by omega) (by omega),a0 0 1 (by omega) (by omega),a0 0 2 (by omega) (by omega),a0 0 3 (by omega) (by omega),a0 1 0 (by omega) (by omega),a0 1 1 (by omega) (by omega),a0 1 2 (by omega) (by omega),a0 1 3 (by omega) (by omega),
   a0 2 0 (by omega) (by omega),a0 2 1 (by omega) (by omega),a0 2 2 (by omega) (by omega),a0 2 3 (by omega) (by omega),a0 3 0 (by omega) (by omega),a0 3 1 (by omega) (by omega),a0 3 2 (by omega) (by omega),a0 3 3 (by omega) (by omega),
   show ¬ j*4=k*4 by omega,show ¬ j*4=k*4+1 by omega,show ¬ j*4=k*4+2 by omega,show ¬ j*4=k*4+3 by omega,show ¬ j*4+1=k*4 by omega,show ¬ j*4+2=k*4 by omega,show ¬ j*4+3=k*4 by omega,e1] using this
theorem oZ.b1q {w:World} {b n K:Nat} {ok:Nat->Bool} {e:Nat->Rat} (h:oZ w b n K ok e) {b' n' K':Nat} {ok':Nat->Bool} {e':Nat->Rat} (h':oZ w b' n' K' ok' e') (hne:b≠b') {k:Nat} (hk:k<n') (x0 x1 x2 x3:Value):oZ (st4 w b' (k*4) x0 x1 x2 x3) b n K ok e:=by
 obtain⟨f,h1,h2⟩:=h
 obtain⟨g,h3,h4⟩:=h'
 refine⟨f,(((h1.setOther (by simpa using hne) x0).setOther (by simpa using hne) x1).setOther (by simpa using hne) x2).setOther (by simpa using hne) x3,fun j hj=>?_⟩
 have N:=(h4 k hk).nu
 have hc:∀ i,i<4->w.cell? ⟨b',k*4+i,none⟩=some (g (k*4+i)):=fun i hi=>h3.cell (by omega)
 exact(h2 j hj).b5q (b:=b') (o:=k*4) (hc 0 (by omega)) (hc 1 (by omega)) (hc 2 (by omega)) (hc 3 (by omega)) N.1 N.2.1 N.2.2.1 N.2.2.2 x0 x1 x2 x3
structure a3l (w:World) (base b R C K m:Nat) (rb:Nat->Nat) (e:Nat->Nat->Rat):Prop where
 outer:w.rowIs b 39 R (fun i=>if i<m then .slice (some ⟨rb i,0,none⟩) C C else .slice none 0 0)
 hb:base<=b
 rows:∀ i,i<m->oZ w (rb i) C K (fun _=>true) (e i)
 hrb:∀ i,i<m->base<=rb i/\rb i≠b
 inj:∀ i j,i<m->j<m->rb i=rb j->i=j
theorem a3l.below {w w':World} {base b R C K m:Nat} {rb:Nat->Nat} {e:Nat->Nat->Rat} (h:a3l w base b R C K m rb e) (hb:Below w.heap.size w w'):a3l w' base b R C K m rb e :=
 ⟨h.outer.of_block (hb.block b h.outer.lt),h.hb,fun i hi=>(h.rows i hi).below (m:=0) hb,h.hrb,h.inj⟩
theorem oZ.congr {w:World} {b n K:Nat} {ok ok':Nat->Bool} {e e':Nat->Rat} (h:oZ w b n K ok e) (h1:∀ i,i<n->ok i=ok' i) (h2:∀ i,i<n->e i=e' i):oZ w b n K ok' e':=by
 obtain⟨f,k1,k2⟩:=h
 exact⟨f,k1,fun j hj=>by rw[<-h1 j hj,<-h2 j hj];exact k2 j hj⟩
theorem uO.rsz {w:World} {s:Value} {n K:Nat} {ok:Nat->Bool} {e:Nat->Rat} (h:uO w s n K ok e) {i:Nat} (hi:i<n) (ho:ok i=true):rsz (e i)<=K:=by
 obtain⟨p,c,rfl,_,_⟩:=h.form
 obtain⟨b,o,g,q,m,d,g',q',m',d',_,_,_,_,_,_,hr,hn⟩:=h.at_ hi
 rw[ho] at hr
 exact hr.rq.a0U hn
theorem VH.rsz {w:World} {s:Value} {n K:Nat} {e:Nat->Rat} (h:VH w s n K e) {i:Nat} (hi:i<n):Go.Proofs.YtbkocjmmbkifjaaGreat.rsz (e i)<=K:=uO.rsz h hi rfl
theorem VH.below {w w':World} {s:Value} {n K:Nat} {e:Nat->Rat} (h:VH w s n K e) (hb:Below w.heap.size w w'):VH w' s n K e:=uO.below h hb
theorem VH.at_ {w:World} {p:Option Addr} {n c K:Nat} {e:Nat->Rat} (h:VH w (.slice p n c) n K e) {k:Nat} (hk:k<n) :
 ∃ b o g q m d g' q' m' d',p=some ⟨b,o,none⟩/\b<w.heap.size/\w.cell? ⟨b,o+k*4,none⟩=some (.bool g)/\w.cell? ⟨b,o+k*4+1,none⟩=some (.slice q m d)/\w.cell? ⟨b,o+k*4+2,none⟩=some (.bool g')/\w.cell? ⟨b,o+k*4+3,none⟩=some (.slice q' m' d') /\
  lH w (.agg #[.bool g,.slice q m d,.bool g',.slice q' m' d']) true (e k)/\Qn (.agg #[.bool g,.slice q m d,.bool g',.slice q' m' d']) K:=uO.at_ h hk
theorem VH.form {w:World} {s:Value} {n K:Nat} {e:Nat->Rat} (h:VH w s n K e):∃ p c,s=.slice p n c/\n<=c/\c<=9223372036854775807:=uO.form h
theorem a3m.below {w w':World} {v:Value} {R C K:Nat} {e:Nat->Nat->Rat} (h:a3m w v R C K e) (hb:Below w.heap.size w w'):a3m w' v R C K e:=yS.below h hb
theorem a3m.form {w:World} {v:Value} {R C K:Nat} {e:Nat->Nat->Rat} (h:a3m w v R C K e):∃ p c,v=.slice p R c/\R<=c/\c<=9223372036854775807:=yS.form h
theorem a3m.at_ {w:World} {p:Option Addr} {R C c K:Nat} {e:Nat->Nat->Rat} (h:a3m w (.slice p R c) R C K e) {k:Nat} (hk:k<R) :
 ∃ b o q d,p=some ⟨b,o,none⟩/\b<w.heap.size/\w.cell? ⟨b,o+k,none⟩=some (.slice q C d)/\VH w (.slice q C d) C K (e k):=yS.at_ h hk
def Z4:Array Value:=#[.bool false,.slice none 0 0,.bool false,.slice none 0 0]
theorem oZ.made (w:World) (C K:Nat):oZ (w.alloc (.cells (madeCells Z4 (C*4)) 47)) w.heap.size C K (fun _=>false) (fun _=>0):=by
 have hs:(madeCells Z4 (C*4)).size=C*4:=size_madeCells _ _
 refine⟨fun i=>Z4[i%4]!,?_,fun j hj=>?_⟩
 ·have:=World.rowIs_alloc w (madeCells Z4 (C*4)) 47 (fun i=>Z4[i%4]!) (fun i hi=>by
   rw[hs] at hi
   simp[madeCells,hi,Z4])
  rw[hs] at this
  exact this
 ·have e0:j*4%4=0:=by omega
  have e1:(j*4+1)%4=1:=by omega
  have e2:(j*4+2)%4=2:=by omega
  have e3:(j*4+3)%4=3:=by omega
  simp only[e0,e1,e2,e3]
  exact QC.zero _ _
theorem a3l.start (w:World) (R C K:Nat) (rb:Nat->Nat) (e:Nat->Nat->Rat) (base:Nat) (hb:base<=w.heap.size):a3l (w.alloc (.cells (madeCells #[.slice none 0 0] R) 39)) base w.heap.size R C K 0 rb e :=
 ⟨(World.rowIs_made w (.slice none 0 0) R 39).congr (fun i _=>by rw[ji (by omega)]),hb,fun i hi=>by omega,fun i hi=>by omega,fun i j hi=>by omega⟩
structure NW (w:World) (base b R C K k j:Nat) (rb:Nat->Nat) (e:Nat->Nat->Rat):Prop where
 outer:w.rowIs b 39 R (fun i=>if i<k+1 then .slice (some ⟨rb i,0,none⟩) C C else .slice none 0 0)
 hb:base<=b
 rows:∀ i,i<k->oZ w (rb i) C K (fun _=>true) (e i)
 row:oZ w (rb k) C K (fun c=>decide (c<j)) (fun c=>if c<j then e k c else 0)
 hrb:∀ i,i<k+1->base<=rb i/\rb i≠b
 inj:∀ i j,i<k+1->j<k+1->rb i=rb j->i=j
theorem NW.below {w w':World} {base b R C K k j:Nat} {rb:Nat->Nat} {e:Nat->Nat->Rat} (h:NW w base b R C K k j rb e) (hb:Below w.heap.size w w'):NW w' base b R C K k j rb e :=
 ⟨h.outer.of_block (hb.block b h.outer.lt),h.hb,fun i hi=>(h.rows i hi).below (m:=0) hb,h.row.below (m:=0) hb,h.hrb,h.inj⟩
theorem NW.start {w:World} {base b R C K k:Nat} {rb:Nat->Nat} {e:Nat->Nat->Rat} (h:a3l w base b R C K k rb e) (hk:k<R) (hbase:base<=w.heap.size) :
  NW ((w.alloc (.cells (madeCells Z4 (C*4)) 47)).setCell ⟨b,k,none⟩ (.slice (some ⟨w.heap.size,0,none⟩) C C)) base b R C K k 0 (fun i=>if i=k then w.heap.size else rb i) e:=by
 have hlt:=h.outer.lt
 have hne:w.heap.size≠b:=by omega
 have hc:(w.alloc (.cells (madeCells Z4 (C*4)) 47)).cell? ⟨b,k,none⟩=some (.slice none 0 0):=by
  have:=(h.outer.alloc (.cells (madeCells Z4 (C*4)) 47)).cell hk
  rw[ji (by omega)] at this
  exact this
 refine⟨((h.outer.alloc _).set k _).congr (fun i hi=>?_),h.hb,fun i hi=>?_,?_,fun i hi=>?_,fun i j hi hj=>?_⟩
 ·by_cases e1:i=k
  ·subst e1;simp
  ·simp only[ji e1]
   by_cases e2:i<k
   ·rw[jm e2,jm (by omega)]
   ·rw[ji e2,ji (by omega)]
 ·rw[ji (by omega)]
  exact((h.rows i hi).below (m:=0) ((jo _ _).alloc (ay _) _)).other (h.hrb i hi).2 hc rfl _
 ·simp only[Dl]
  exact((oZ.made w C K).other hne hc rfl _).congr (fun i _=>by simp) (fun i _=>by simp)
 ·by_cases e1:i=k
  ·rw[jm e1];exact⟨hbase,hne⟩
  ·rw[ji e1];exact h.hrb i (by omega)
 ·by_cases e1:i=k
  ·by_cases e2:j=k
   ·intro _;omega
   ·rw[jm e1,ji e2];intro e3;have:=(h.rows j (by omega)).lt;omega
  ·by_cases e2:j=k
   ·rw[ji e1,jm e2];intro e3;have:=(h.rows i (by omega)).lt;omega
   ·rw[ji e1,ji e2];exact h.inj i j (by omega) (by omega)
theorem NW.step {w:World} {base b R C K k j:Nat} {rb:Nat->Nat} {e:Nat->Nat->Rat} (h:NW w base b R C K k j rb e) (hj:j<C) {x0 x1 x2 x3:Value} (hq:QC w x0 x1 x2 x3 K true (e k j)) :
  NW (st4 w (rb k) (j*4) x0 x1 x2 x3) base b R C K k (j+1) rb e:=by
 have hne:b≠rb k:=fun e1=>(h.hrb k (by omega)).2 e1.symm
 refine⟨(((h.outer.setOther (by simpa using hne) x0).setOther (by simpa using hne) x1).setOther (by simpa using hne) x2).setOther (by simpa using hne) x3,h.hb,fun i hi=>?_,?_,h.hrb,h.inj⟩
 ·exact(h.rows i hi).b1q h.row (fun e1=>by have:=h.inj i k (by omega) (by omega) e1;omega) hj x0 x1 x2 x3
 ·refine(h.row.b5q hj hq).congr (fun c _=>?_) (fun c _=>?_)
  ·by_cases e1:c=j
   ·subst e1;simp
   ·rw[ji e1];simp;omega
  ·by_cases e1:c=j
   ·subst e1;simp
   ·rw[ji e1]
    by_cases e2:c<j
    ·rw[jm e2,jm (by omega)]
    ·rw[ji e2,ji (by omega)]
theorem NW.done {w:World} {base b R C K k:Nat} {rb:Nat->Nat} {e:Nat->Nat->Rat} (h:NW w base b R C K k C rb e):a3l w base b R C K (k+1) rb e:=by
 refine⟨h.outer,h.hb,fun i hi=>?_,h.hrb,h.inj⟩
 by_cases e1:i=k
 ·subst e1
  exact h.row.congr (fun c hc=>by simp[hc]) (fun c hc=>by simp[hc])
 ·exact h.rows i (by omega)
theorem NW.low {w:World} {base b R C K k j:Nat} {rb:Nat->Nat} {e:Nat->Nat->Rat} (h:NW w base b R C K k j rb e) {w0:World} (hb:Below base w0 w) (x0 x1 x2 x3:Value) (o:Nat):Below base w0 (st4 w (rb k) o x0 x1 x2 x3):=by
 have:=(h.hrb k (by omega)).1
 exact(((hb.setCell (p:=⟨rb k,o,none⟩) this x0).setCell (p:=⟨rb k,o+1,none⟩) this x1).setCell (p:=⟨rb k,o+2,none⟩) this x2).setCell (p:=⟨rb k,o+3,none⟩) this x3
section
def CA (p:Value->Bool) (w:World) (g:Nat):Prop:=∀ i u,w.cell? ⟨g,i,none⟩=some u->p u=true
section
variable {P:Program} {p:Value->Bool} (w:World)
def CAv (p:Value->Bool) (w:World) (v:Value):Prop:=∀ g,v.ownBlock=some g->CA p w g
theorem CA.of_cells {p:Value->Bool} {w:World} {g:Nat} {cur:Array Value} {e:TypeId} (hg:w.heap[g]?=some (.cells cur e (0,0))) (h:∀ u ∈ cur.toList,p u=true):CA p w g:=by
 intro i u hc
 rw[yu w g i cur e (0,0) hg] at hc
 exact h u (by rw[Ei];exact Array.mem_of_getElem? hc)
theorem CA.cells {w:World} {g:Nat} {cur:Array Value} {e:TypeId} (hg:w.heap[g]?=some (.cells cur e (0,0))) (h:CA p w g):∀ u ∈ cur.toList,p u=true:=by
 intro u hu
 rw[Ei] at hu
 obtain⟨i,hi,rfl⟩:=Array.mem_iff_getElem.1 hu
 exact h i _ (by rw[yu w g i cur e (0,0) hg];exact Ar hi)
theorem yH {z:Array Value} (hz:∀ u ∈ z.toList,p u=true) (n:Nat):∀ u ∈ (Builtin.zeroCells z n).toList,p u=true:=by
 intro u hu
 rw[Ei] at hu
 obtain⟨i,hi,rfl⟩:=Array.mem_iff_getElem.1 hu
 simp only[Builtin.zeroCells,Array.size_map,Array.size_range] at hi
 simp only[Builtin.zeroCells,Array.getElem_map,Array.getElem_range]
 have hs:0<z.size:=by
  rcases Am z.size with h|h
  ·rw[h] at hi;simp at hi
  ·exact h
 have hlt:i%z.size<z.size:=Aw _ hs
 rw[getElem!_pos z (i%z.size) hlt]
 exact hz _ (by rw[Ei];exact Array.getElem_mem hlt)
theorem EL (base:Nat) (t ty e:TypeId) (i:TypeInfo) (z:Value) (size bytes:Nat) (ht:P.underlying t=some (.slice e)) (hi:P.info? e=some i) (hz:i.zero=some z)
  (hsize:i.size=size) (hby:i.bytes=bytes) (hzs:z.cells.size=size) (hsz:0<size) (hzn:∀ u ∈ z.cells.toList,p u=true)
  (v:Value) (n:Nat) (xs:List Value) (hown:w.ownsRow base e size v n xs) (hv:CAv p w v)
  (a:Addr) (m c:Nat) (news:List Value) (hl:news.length=m*size) (hnews:∀ j u,news[j]?=some u->w.cell? (a.add j)=some u) (h1:∀ u ∈ news,u.oneCell'=true) (hnn:∀ u ∈ news,p u=true) (hm:0<m)
  (h63:n+m<=maxLen) (hbytes:(n+m)*bytes<=140737488355328) (hbase:base<=w.heap.size) :
  ∃ g cap w',(Builtin.append_ #[t,t] ty #[v,.slice (some a) m c]).run P w=.ok (.slice (some ⟨g,0,none⟩) (n+m) cap) w'/\w'.ownsRow base e size (.slice (some ⟨g,0,none⟩) (n+m) cap) (n+m) (xs++news)/\w.grownBy w' v.ownBlock/\CA p w' g/\(v.ownBlock=some g\/g=w.heap.size):=by
 obtain⟨v',w',hr,h2,h3,h4⟩:=run_append_own (P:=P) w base t ty e i z size bytes ht hi hz hsize hby hzs hsz v n xs hown a m c news hl hnews h1 h63 hbytes hbase
 subst hsize
 subst hby
 have hsmall:n+m<=9223372036854775807:=by simp only[maxLen] at h63;omega
 have hz0:=fun k=>yH (z:=z.cells) hzn k
 rcases hown.2 with⟨rfl,rfl⟩|⟨g,cap,cur,rfl,hbg,hg,hnc,hcm,hcs,htake⟩
 ·have hrun:=run_append_nil (P:=P) w t ty e i z ht hi hz a m c news hl hnews hm (by omega) (by have hb:=hbytes;simp only[tu] at hb;omega)
  rw[hrun] at hr
  simp only[Result.ok.injEq] at hr
  obtain⟨rfl,rfl⟩:=hr
  refine⟨w.heap.size,_,_,by rw[tu];exact hrun,by simpa using h2,h3,?_,.inr rfl⟩
  refine CA.of_cells (Ci w.drew _) (fun u hu=>?_)
  simp only[Array.toList_append,um] at hu
  rcases hu with hu|hu
  ·exact hnn u hu
  ·exact hz0 _ u hu
 ·by_cases hroom:n+m<=cap
  ·have hfit:n*i.size+news.length<=cur.size:=by rw[hl,hcs,<-Au];exact oh _ hroom
   have hrun:=run_append_room (P:=P) w t ty e i ht hi g n cap cur hg a m c news hl hnews h1 hroom hfit
   rw[hrun] at hr
   simp only[Result.ok.injEq] at hr
   obtain⟨rfl,rfl⟩:=hr
   refine⟨g,cap,_,hrun,h2,h3,?_,.inl rfl⟩
   have hcn:=CA.cells hg (hv g rfl)
   refine CA.of_cells (setRow_heap w g cur _ e _ hg) (fun u hu=>?_)
   simp only[um] at hu
   rcases hu with(hu|hu)|hu
   ·exact hcn u (Ak hu)
   ·exact hnn u hu
   ·exact hcn u (List.mem_of_mem_drop hu)
  ·have holds:∀ j u,xs[j]?=some u->w.cell? ((⟨g,0,none⟩:Addr).add j)=some u:=hown.cells (g:=g) rfl
   have hrun:=run_append_grow (P:=P) w t ty e i z ht hi hz ⟨g,0,none⟩ n cap xs hown.1 holds a m c news hl hnews (by omega) (by omega) (growslice_fits (by omega) hbytes)
   rw[hrun] at hr
   simp only[Result.ok.injEq] at hr
   obtain⟨rfl,rfl⟩:=hr
   refine⟨w.heap.size,_,_,hrun,h2,h3,?_,.inr rfl⟩
   have hcn:=CA.cells hg (hv g rfl)
   refine CA.of_cells (Ci w.drew _) (fun u hu=>?_)
   simp only[Array.toList_append,um] at hu
   rcases hu with(hu|hu)|hu
   ·rw[<-htake] at hu;exact hcn u (Ak hu)
   ·exact hnn u hu
   ·exact hz0 _ u hu
end
end
def gZ (F:Nat->Prop) (w:World) (c:List Value) (p:Part):Prop:=rep F w p.t c p.x/\p.t.still=true
def Env.has (E:Env) (r:Nat):Nat->Nat->Prop
 | 0,q=>E.blk r=some q
 | i+1,q=>bI (E.inn r i)=some q
theorem rJ {w:World} {E:Env} {q:Nat} (h:fz w E q) (r j:Nat):¬ E.has r j q:=by
 cases j with
 | zero=>exact h.2.1 r
 | succ i=>exact h.2.2 r i
theorem qW {w:World} {E:Env} {q:Nat} (h1:q<w.heap.size) (h2:E.base q) (h3:∀ r j,¬ E.has r j q):fz w E q:=⟨⟨h1,h2⟩,fun r=>h3 r 0,fun r i=>h3 r (i+1)⟩
def bJ {α:Type} (ids:Option (List Nat)) (xss:List α):List Nat:=match ids with
 | some l=>l
 | none=>List.range xss.length
def K.one:K->Bool
 | .val t _=>!t.agg&&t.still&&decide (t.n=1)
 | .nil=>true
 | .ptr _ _=>true
 | .own _ _=>true
 | _=>false
def nnS (v:Nat) (s:Value):Prop:=v%2=1->s≠.slice none 0 0
theorem a5P (v:Nat) (s:Value):nnS (nx v) s:=fun h=>by unfold nx at h;omega
theorem b1h {v:Nat} {s:Value} (h:nnS v s):nnS (nxf v) s:=fun e=>h (by unfold nxf nx at e;omega)
theorem a2B (s:Value):nnS 0 s:=fun h=>by omega
def lT (E:Env) (w:World) (r:Nat):Res->Prop
 | .none=>E.blk r=none
 | .gone=>E.blk r=none
 | .box ps=>∃ b cs e,E.blk r=some b/\w.heap[b]?=some (.cells cs.toArray e (0,0))/\chunks (gZ (fz w E) w) cs ps
 | .row e t xs v=>E.blk r=bI (E.sl r)/\t.still=true/\∃ cs,w.ownsRow 0 e t.n (E.sl r) xs.length cs/\chunks (rep (fz w E) w t) cs xs/\CAv cO w (E.sl r)/\nnS v (E.sl r)
 | .fro t xs _=>E.blk r=none/\iY (fz w E) w (.list t) (E.sl r) xs
 | .mat e e2 t ids xss _=>E.blk r=bI (E.sl r)/\t.still=true/\(∃ cs,w.ownsRow 0 e 1 (E.sl r) (bJ ids xss).length cs/\cs=(bJ ids xss).map (E.inn r)/\CAv cO w (E.sl r))/\(∀ i ∈ bJ ids xss,i<xss.length)/\(∀ i,xss.length<=i->bI (E.inn r i)=none) /\
  ∀ i xs,xss[i]?=some xs->∃ cs,w.ownsRow 0 e2 t.n (E.inn r i) xs.length cs/\chunks (rep (fz w E) w t) cs xs/\CAv cO w (E.inn r i)
 | .kF _=>True
def IK (ρ:Nat->Res):K0->Prop
 | .val _ _=>True
 | .own r v=>Res.dW v (ρ r)
 | .ptr r _=>(ρ r).nN
 | .lQ r=>(ρ r).DX
def K.wf (ρ:Nat->Res):K->Prop
 | .ptr r _=>(ρ r).nN
 | .own r v=>Res.dW v (ρ r)
 | .when b k=>b=true->k.wf ρ
 | .cell r v _=>Res.dW v (ρ r)
 | .mrow r v i=>Res.dW v (ρ r)/\(Res.mF v (ρ r)->i<(ρ r).cnt)
 | .mpos r v i _=>Res.dW v (ρ r)/\(Res.mF v (ρ r)->i<(ρ r).cnt)
 | .lQ r=>(ρ r).DX
 | .mix ks=>∀ k ∈ ks,IK ρ k
 | .fn _ ks=>∀ k ∈ ks,IK ρ k
 | .sng r v=>Res.dW v (ρ r)
 | .pls ks=>∀ k ∈ ks,IK ρ k
 | .pcl ks _=>∀ k ∈ ks,IK ρ k
 | _=>True
theorem SI {ρ:Nat->Res} {k:K0}:IK ρ k↔(k0K k).wf ρ:=by cases k<;>exact Iff.rfl
def a3k (E:Env) (ρ:Nat->Res) (w:World) (r:Nat) (k:K):Prop:=k.wf ρ/\k.one=true/\∃ b v e,E.blk r=some b/\w.heap[b]?=some (.cells #[v] e (0,0))/\cO v=true/\k.holds E ρ w v
structure Under (M:Nat->Prop) (W w:World):Prop where
 os:w.os=W.os
 tape:w.tape=W.tape
 output:w.output=W.output
 size:W.heap.size<=w.heap.size
 blk:∀ k,k<W.heap.size->¬ M k->w.heap[k]?=W.heap[k]?
theorem Under.below {M:Nat->Prop} {W w:World} (h:Under M W w) (hM:∀ q,¬ M q):Below W.heap.size W w:=⟨h.os,h.tape,h.output,h.size,fun k hk=>h.blk k hk (hM k)⟩
theorem Under.trans {M:Nat->Prop} {W w w':World} (h:Under M W w) (hb:Below w.heap.size w w'):Under M W w':=⟨hb.os.trans h.os,hb.tape.trans h.tape,hb.output.trans h.output,iq h.size hb.size,fun k hk hm=>(hb.block k (qg hk h.size)).trans (h.blk k hk hm)⟩
structure Mem (E:Env) (ρ:Nat->Res) (W w:World):Prop where
 below:Under E.oM W w
 res:∀ r,lT E w r (ρ r)
 inj:∀ r j r' j' b,E.has r j b->E.has r' j' b->r=r'/\j=j'
 mine:∀ r j b,E.has r j b->E.oM b\/W.heap.size<=b
 base:∀ q,E.oM q\/W.heap.size<=q->E.base q
 inner:∀ r i,(ρ r).cnt<=i->bI (E.inn r i)=none
 kbx:∀ r k,ρ r=.kF k->a3k E ρ w r k
 dig:∀ b o n,W.cell? ⟨b,o,none⟩=some (.int .u32 n)->w.cell? ⟨b,o,none⟩=some (.int .u32 n)
structure jI (E:Env) (w w':World) (S:Nat->Prop):Prop where
 os:w'.os=w.os
 tape:w'.tape=w.tape
 output:w'.output=w.output
 size:w.heap.size<=w'.heap.size
 blk:∀ b,b<w.heap.size->(∀ r j,S r->¬ E.has r j b)->w'.heap[b]?=w.heap[b]?
 dig:∀ b o n,w.cell? ⟨b,o,none⟩=some (.int .u32 n)->w'.cell? ⟨b,o,none⟩=some (.int .u32 n)
theorem jI.below {E:Env} {w w':World} (h:Below w.heap.size w w') (S:Nat->Prop):jI E w w' S:=⟨h.os,h.tape,h.output,h.size,fun b hb _=>h.block b hb,fun b o n hc=>(h.cell (p:=⟨b,o,none⟩) (cell_lt hc)).trans hc⟩
theorem jI.stay {E:Env} {w w':World} {S:Nat->Prop} (h:jI E w w' S):iP (fz w E) w w':=⟨fun b hb=>h.blk b hb.1.1 (fun r j _=>rJ hb r j),h.dig,h.size⟩
theorem jI.more {E:Env} {w w':World} {S S':Nat->Prop} (h:jI E w w' S) (hs:∀ r,S r->S' r):jI E w w' S':=⟨h.os,h.tape,h.output,h.size,fun b hb hn=>h.blk b hb (fun r j hr=>hn r j (hs r hr)),h.dig⟩
def bH {α:Type} (f:Nat->α) (r:Nat) (x:α):Nat->α:=fun q=>if q=r then x else f q
theorem aG {α:Type} (f:Nat->α) (r:Nat) (x:α):bH f r x r=x:=jm rfl
theorem aQ {α:Type} (f:Nat->α) {r q:Nat} (x:α) (h:q≠r):bH f r x q=f q:=ji h
def Env.rC (E:Env) (r:Nat) (b:Option Nat) (s:Value) (I:Nat->Value):Env:=⟨bH E.blk r b,bH E.sl r s,E.base,bH E.inn r I,E.oM,E.par⟩
def Env.put (E:Env) (r:Nat) (b:Option Nat) (s:Value):Env:=E.rC r b s (fun _=>undef)
theorem gZ.mono {F F':Nat->Prop} {w w':World} (hF:∀ b,F b->F' b) (hs:iP F w w') {c:List Value} {p:Part} (h:gZ F w c p):gZ F' w' c p:=⟨bW hF hs _ _ _ h.1,h.2⟩
theorem dS {w w':World} {base:Nat} {e:TypeId} {n m:Nat} {v:Value} {cs:List Value} (h:w.ownsRow base e n v m cs) (hb:∀ b,bI v=some b->w'.heap[b]?=w.heap[b]?):w'.ownsRow base e n v m cs:=by
 obtain⟨j1,j2⟩:=h
 refine⟨j1,j2.imp id ?_⟩
 rintro⟨g,cap,cur,e1,e2,e3,e4⟩
 exact⟨g,cap,cur,e1,e2,(hb g (by rw[e1];rfl)).trans e3,e4⟩
theorem iT {w w':World} {v:Value} {p:Value->Bool} (h:CAv p w v) (hb:∀ b,bI v=some b->w'.heap[b]?=w.heap[b]?):CAv p w' v:=by
 intro g hg i u hu
 have hg':bI v=some g:=by
  cases v<;>try (simp[Value.ownBlock] at hg;done)
  rename_i a _ _
  cases a<;>first|(simp[] at hg;done)|exact hg
 rw[Dp (w:=w) (hb g hg')] at hu
 exact h g hg i u hu
theorem lJ (v:Value):bI v=v.ownBlock:=rfl
theorem lT.keep {E E':Env} {w w':World} {r:Nat} {x:Res} (hF:∀ b,fz w E b->fz w' E' b) (hs:iP (fz w E) w w') (h1:E'.blk r=E.blk r) (h2:E'.sl r=E.sl r) (h3:E'.inn r=E.inn r) (hb:∀ j b,E.has r j b->w'.heap[b]?=w.heap[b]?) (h:lT E w r x):lT E' w' r x:=by
 cases x with
 | none=>exact h1.trans h
 | gone=>exact h1.trans h
 | kF k=>trivial
 | box ps =>
  obtain⟨b,cs,e,k1,k3,k4⟩:=h
  exact⟨b,cs,e,h1.trans k1,(hb 0 b k1).trans k3,aW (fun c p=>gZ.mono hF hs) _ _ k4⟩
 | row e t xs v =>
  obtain⟨k1,k2,cs,k3,k4,k5⟩:=h
  have hb':∀ b,bI (E.sl r)=some b->w'.heap[b]?=w.heap[b]?:=fun b e=>hb 0 b (k1.trans e)
  exact⟨by rw[h1,h2];exact k1,k2,cs,by rw[h2];exact dS k3 hb',aW (fun c y=>bW hF hs t c y) _ _ k4,by rw[h2];exact⟨iT k5.1 hb',k5.2⟩⟩
 | fro t xs v =>
  obtain⟨k1,k2⟩:=h
  exact⟨h1.trans k1,by rw[h2];exact fJ hF hs k2⟩
 | mat e e2 t ids xss v =>
  obtain⟨k1,k2,⟨cs,k3,k4,k5⟩,k6,k7,k8⟩:=h
  have hb':∀ b,bI (E.sl r)=some b->w'.heap[b]?=w.heap[b]?:=fun b e=>hb 0 b (k1.trans e)
  refine⟨by rw[h1,h2];exact k1,k2,⟨cs,by rw[h2];exact dS k3 hb',by rw[h3];exact k4,by rw[h2];exact iT k5 hb'⟩,k6,by rw[h3];exact k7,fun i xs hi=>?_⟩
  obtain⟨ds,q1,q2,q3⟩:=k8 i xs hi
  have hb2:∀ b,bI (E.inn r i)=some b->w'.heap[b]?=w.heap[b]?:=fun b e=>hb (i+1) b e
  exact⟨ds,by rw[h3];exact dS q1 hb2,aW (fun c y=>bW hF hs t c y) _ _ q2,by rw[h3];exact iT q3 hb2⟩
structure Ext (E:Env) (ρ:Nat->Res) (w:World) (E':Env) (ρ':Nat->Res) (w':World):Prop where
 fz:∀ b,fz w E b->Go.Proofs.YtbkocjmmbkifjaaGreat.fz w' E' b
 stay:iP (Go.Proofs.YtbkocjmmbkifjaaGreat.fz w E) w w'
 ptr:∀ r,(ρ r).nN->(ρ' r).nN/\E'.blk r=E.blk r
 kp:∀ r,(ρ r).DX->(ρ' r).DX/\((ρ' r).lU->(ρ r).lU/\E'.blk r=E.blk r)
 ver:∀ r v,Res.dW v (ρ r)->Res.dW v (ρ' r)
 own:∀ r v,Res.dW v (ρ r)->Res.isRow v (ρ' r)->Res.isRow v (ρ r)/\E'.sl r=E.sl r/\(ρ' r).esz=(ρ r).esz
 mat:∀ r v,Res.dW v (ρ r)->Res.mF v (ρ' r)->Res.mF v (ρ r)/\(ρ' r).msz=(ρ r).msz/\(ρ r).cnt<=(ρ' r).cnt/\∀ i,i<(ρ r).cnt->E'.inn r i=E.inn r i
 base:E'.base=E.base
 oM:E'.oM=E.oM
 par:E'.par=E.par
theorem Ext.fix {E E':Env} {ρ ρ':Nat->Res} {w w':World} (h:Ext E ρ w E' ρ' w'):E'.fix=E.fix:=by
 unfold Env.fix
 rw[h.base,h.oM,h.par]
theorem Ext.wf0 {E E':Env} {ρ ρ':Nat->Res} {w w':World} (h:Ext E ρ w E' ρ' w'):(k:K0)->IK ρ k->IK ρ' k
 | .val _ _,_=>trivial
 | .own r v,hk=>h.ver r v hk
 | .ptr r _,hk=>(h.ptr r hk).1
 | .lQ r,hk=>(h.kp r hk).1
theorem Ext.wf {E E':Env} {ρ ρ':Nat->Res} {w w':World} (h:Ext E ρ w E' ρ' w'):(k:K)->k.wf ρ->k.wf ρ'
 | .any,_=>trivial
 | .val _ _,_=>trivial
 | .nil,_=>trivial
 | .ptr r _,hk=>(h.ptr r hk).1
 | .own r v,hk=>h.ver r v hk
 | .when _ k,hk=>fun hb=>h.wf k (hk hb)
 | .tup _ _,_=>trivial
 | .cell r v _,hk=>h.ver r v hk
 | .mrow r v i,hk=>⟨h.ver r v hk.1,fun hm=>by
  obtain⟨a,_,b,_⟩:=h.mat r v hk.1 hm
  exact qg (hk.2 a) b⟩
 | .mpos r v i _,hk=>⟨h.ver r v hk.1,fun hm=>by
  obtain⟨a,_,b,_⟩:=h.mat r v hk.1 hm
  exact qg (hk.2 a) b⟩
 | .lQ r,hk=>(h.kp r hk).1
 | .mix ks,hk=>fun k hm=>h.wf0 k (hk k hm)
 | .fn _ ks,hk=>fun k hm=>h.wf0 k (hk k hm)
 | .sng r v,hk=>h.ver r v hk
 | .pls ks,hk=>fun k hm=>h.wf0 k (hk k hm)
 | .pcl ks _,hk=>fun k hm=>h.wf0 k (hk k hm)
theorem Ext.mix {E E':Env} {ρ ρ':Nat->Res} {w w':World} (h:Ext E ρ w E' ρ' w'):∀ (ks:List K0) (vs:List Value),(∀ k ∈ ks,IK ρ k)->kW (Go.Proofs.YtbkocjmmbkifjaaGreat.fz w E) E ρ w ks vs->kW (Go.Proofs.YtbkocjmmbkifjaaGreat.fz w' E') E' ρ' w' ks vs
 | [],_,_,hh=>hh
 | k::ks,_,hw,⟨v,vs',h1,h2,h3⟩=>by
  refine⟨v,vs',h1,?_,h.mix ks vs' (fun k hk=>hw k (ku _ hk)) h3⟩
  have hk:=hw k (mg ..)
  cases k with
  | val t x=>exact fJ h.fz h.stay h2
  | own r ver =>
   intro hb
   obtain⟨a,b,_⟩:=h.own r ver hk hb
   rw[b];exact h2 a
  | ptr r o =>
   obtain⟨b,h3,h4⟩:=h2
   exact⟨b,(h.ptr r hk).2.trans h3,h4⟩
  | lQ r =>
   intro hb
   obtain⟨a1,a2⟩:=(h.kp r hk).2 hb
   obtain⟨b,h3,h4⟩:=h2 a1
   grind
theorem Ext.holds {E E':Env} {ρ ρ':Nat->Res} {w w':World} (h:Ext E ρ w E' ρ' w'):(k:K)->(v:Value)->k.wf ρ->k.holds E ρ w v->k.holds E' ρ' w' v
 | .any,_,_,_=>trivial
 | .val _ _,_,_,hh=>fJ h.fz h.stay hh
 | .nil,_,_,hh=>hh
 | .ptr r _,v,hk,⟨b,h3,h4⟩=>⟨b,(h.ptr r hk).2.trans h3,h4⟩
 | .own r ver,v,hk,hh=>fun hb=>by
  obtain⟨h1,h2,_⟩:=h.own r ver hk hb
  rw[h2];exact hh h1
 | .when _ k,v,hk,hh=>⟨fun hb=>h.holds k v (hk hb) (hh.1 hb),hh.2⟩
 | .tup ts x,v,_,⟨vs,h1,h2⟩=>⟨vs,h1,jM h.fz h.stay ts vs x h2⟩
 | .cell r ver i,v,hk,hh=>fun hb=>by
  obtain⟨h1,h2,h3⟩:=h.own r ver hk hb
  obtain⟨b,h4,h5⟩:=hh h1
  exact⟨b,by rw[h2];exact h4,by rw[h3];exact h5⟩
 | .mrow r ver i,v,hk,hh=>fun hb=>by
  obtain⟨h1,h2,h3,h4⟩:=h.mat r ver hk.1 hb
  rw[h4 i (hk.2 h1)];exact hh h1
 | .mpos r ver i j,v,hk,hh=>fun hb=>by
  obtain⟨h1,h2,h3,h4⟩:=h.mat r ver hk.1 hb
  obtain⟨b,h5,h6⟩:=hh h1
  exact⟨b,by rw[h4 i (hk.2 h1)];exact h5,by rw[h2];exact h6⟩
 | .lQ r,v,hk,hh=>fun hb=>by
  obtain⟨h1,h2⟩:=(h.kp r hk).2 hb
  obtain⟨b,h3,h4⟩:=hh h1
  exact⟨b,h2.trans h3,h4⟩
 | .mix ks,v,hk,⟨vs,h1,h2⟩=>⟨vs,h1,h.mix ks vs hk h2⟩
 | .fn _ ks,v,hk,⟨vs,h1,h2⟩=>⟨vs,h1,h.mix ks vs hk h2⟩
 | .sng r ver,v,hk,hh=>fun hb=>by
  obtain⟨a1,a2,_⟩:=h.own r ver hk hb
  obtain⟨b,h3,h4,h5⟩:=hh a1
  exact⟨b,h3,h.fz b h4,by rw[a2];exact kZ h.stay h4 h5⟩
 | .pls ks,v,hk,⟨b,vs,h1,h2,h3,h4⟩=>⟨b,vs,h1,h.fz b h2,kZ h.stay h2 h3,h.mix ks vs hk h4⟩
 | .pcl ks i,v,hk,⟨b,vs,h1,h2,h3,h4⟩=>⟨b,vs,h1,h.fz b h2,kZ h.stay h2 h3,h.mix ks vs hk h4⟩
theorem Ext.refl (E:Env) (ρ:Nat->Res) (w:World):Ext E ρ w E ρ w:=⟨fun _ h=>h,iP.refl _ _,fun _ h=>⟨h,rfl⟩,fun _ h=>⟨h,fun h=>⟨h,rfl⟩⟩,fun _ _ h=>h,fun _ _ _ h=>⟨h,rfl,rfl⟩,fun _ _ _ h=>⟨h,rfl,ay _,fun _ _=>rfl⟩,rfl,rfl,rfl⟩
theorem Ext.trans {E E' E'':Env} {ρ ρ' c3F:Nat->Res} {w w' w'':World} (h:Ext E ρ w E' ρ' w') (k:Ext E' ρ' w' E'' c3F w''):Ext E ρ w E'' c3F w'' :=
 ⟨fun b hb=>k.fz b (h.fz b hb),h.stay.trans (k.stay.less h.fz),
  fun r hr=>⟨(k.ptr r (h.ptr r hr).1).1,(k.ptr r (h.ptr r hr).1).2.trans (h.ptr r hr).2⟩,
  fun r hr=>⟨(k.kp r (h.kp r hr).1).1,fun hb=>by
    obtain⟨a,b⟩:=(k.kp r (h.kp r hr).1).2 hb
    obtain⟨c,d⟩:=(h.kp r hr).2 a
    exact⟨c,b.trans d⟩⟩,
  fun r v hr=>k.ver r v (h.ver r v hr),
  fun r v hr hb=>by
   obtain⟨h1,h2,h5⟩:=k.own r v (h.ver r v hr) hb
   obtain⟨h3,h4,h6⟩:=h.own r v hr h1
   exact⟨h3,h2.trans h4,h5.trans h6⟩,
  fun r v hr hb=>by
   obtain⟨h1,h2,h3,h4⟩:=k.mat r v (h.ver r v hr) hb
   obtain⟨g1,g2,g3,g4⟩:=h.mat r v hr h1
   exact⟨g1,h2.trans g2,iq g3 h3,fun i hi=>(h4 i (qg hi g3)).trans (g4 i hi)⟩,
  k.base.trans h.base,k.oM.trans h.oM,k.par.trans h.par⟩
theorem Mem.lt {E:Env} {ρ:Nat->Res} {W w:World} (h:Mem E ρ W w) {r j b:Nat} (hr:E.has r j b):b<w.heap.size:=by
 have h1:=h.res r
 have b1u:∀ {e n v m cs},w.ownsRow 0 e n v m cs->bI v=some b->b<w.heap.size:=fun {e n v m cs} hw hv=>by
  rcases hw.2 with⟨j2,_⟩|⟨g,cap,cur,e1,e2,e3,_⟩
  ·rw[j2] at hv;cases hv
  ·rw[e1] at hv;cases hv
   grind
 cases j with
 | zero =>
  have hr:E.blk r=some b:=hr
  cases hx:ρ r with
  | none=>rw[hx] at h1;rw[show E.blk r=none from h1] at hr;cases hr
  | gone=>rw[hx] at h1;rw[show E.blk r=none from h1] at hr;cases hr
  | kF k =>
   obtain⟨_,_,b',v,e,k1,k2,_⟩:=h.kbx r k hx
   grind
  | box ps =>
   rw[hx] at h1
   obtain⟨b',cs,e,k1,k3,k4⟩:=h1
   grind
  | row e t xs v =>
   rw[hx] at h1
   obtain⟨k1,k2,cs,k3,k4,k5⟩:=h1
   grind
  | fro t xs v=>rw[hx] at h1;rw[h1.1] at hr;cases hr
  | mat e e2 t ids xss v =>
   rw[hx] at h1
   obtain⟨k1,k2,⟨cs,k3,_⟩,_⟩:=h1
   grind
 | succ i =>
  have hr:bI (E.inn r i)=some b:=hr
  by_cases hc:i<(ρ r).cnt
  ·cases hx:ρ r with
   | mat e e2 t ids xss v =>
    rw[hx] at h1 hc
    obtain⟨k1,k2,_,_,_,k8⟩:=h1
    obtain⟨cs,q1,_⟩:=k8 i (xss[i]'hc) (jc hc)
    grind
   | _=>rw[hx] at hc;simp[Res.cnt] at hc
  ·rw[h.inner r i (by omega)] at hr;cases hr
theorem sZ {E E':Env} {w w':World} {S:Nat->Prop} (hsz:w.heap.size<=w'.heap.size) (hb:E'.base=E.base)
  (hE:∀ r,¬ S r->E'.blk r=E.blk r/\E'.inn r=E.inn r)
  (hown:∀ r j b,S r->E'.has r j b->(∃ r0 j0,E.has r0 j0 b)\/w.heap.size<=b):∀ q,fz w E q->fz w' E' q:=fun q hq=>by
 refine qW (qg hq.1.1 hsz) (by rw[hb];exact hq.1.2) (fun r j hr=>?_)
 by_cases hs:S r
 ·rcases hown r j q hs hr with⟨r0,j0,h0⟩|h0
  ·exact rJ hq r0 j0 h0
  ·have:=hq.1.1;omega
 ·obtain⟨e1,e2⟩:=hE r hs
  cases j with
  | zero=>exact rJ hq r 0 (by show E.blk r=some q;rw[<-e1];exact hr)
  | succ i=>exact rJ hq r (i+1) (by show bI (E.inn r i)=some q;rw[<-e2];exact hr)
theorem Mem.turns {E E':Env} {ρ ρ':Nat->Res} {W w w':World} (h:Mem E ρ W w) (S:Nat->Prop) (hg:jI E w w' S)
  (hE:∀ r,¬ S r->E'.blk r=E.blk r/\E'.sl r=E.sl r/\E'.inn r=E.inn r/\ρ' r=ρ r) (hb:E'.base=E.base) (hm:E'.oM=E.oM) (hpa:E'.par=E.par)
  (hown:∀ r j b,S r->E'.has r j b->(∃ r0 j0,S r0/\E.has r0 j0 b)\/w.heap.size<=b)
  (hinj:∀ r j r' j' b,S r->S r'->E'.has r j b->E'.has r' j' b->r=r'/\j=j')
  (b0c:∀ r i,S r->(ρ' r).cnt<=i->bI (E'.inn r i)=none)
  (c5z:∀ r,S r->(ρ r).nN->(ρ' r).nN/\E'.blk r=E.blk r)
  (hkp:∀ r,S r->(ρ r).DX->(ρ' r).DX/\((ρ' r).lU->(ρ r).lU/\E'.blk r=E.blk r))
  (b7o:∀ r v,S r->Res.dW v (ρ r)->Res.dW v (ρ' r))
  (hrow:∀ r v,S r->Res.dW v (ρ r)->Res.isRow v (ρ' r)->Res.isRow v (ρ r)/\E'.sl r=E.sl r/\(ρ' r).esz=(ρ r).esz)
  (IE:∀ r v,S r->Res.dW v (ρ r)->Res.mF v (ρ' r)->Res.mF v (ρ r)/\(ρ' r).msz=(ρ r).msz/\(ρ r).cnt<=(ρ' r).cnt/\∀ i,i<(ρ r).cnt->E'.inn r i=E.inn r i)
  (hx:∀ r,S r->lT E' w' r (ρ' r)) (hk:Ext E ρ w E' ρ' w'->∀ r k,S r->ρ' r=.kF k->a3k E' ρ' w' r k) :
  Mem E' ρ' W w'/\Ext E ρ w E' ρ' w':=by
 have hs:=hg.stay
 have hF:=sZ (S:=S) hg.size hb (fun r hr=>⟨(hE r hr).1,(hE r hr).2.2.1⟩) (fun r j b hr hh=>(hown r j b hr hh).imp (fun⟨r0,j0,_,h0⟩=>⟨r0,j0,h0⟩) id)
 have hhas:∀ r j b,¬ S r->(E'.has r j b↔E.has r j b):=fun r j b hr=>by
  obtain⟨e1,_,e3,_⟩:=hE r hr
  cases j with
  | zero=>show E'.blk r=some b↔E.blk r=some b;rw[e1]
  | succ i=>show bI (E'.inn r i)=some b↔bI (E.inn r i)=some b;rw[e3]
 have hX:Ext E ρ w E' ρ' w':=by
  refine⟨hF,hs,fun r hr=>?_,fun r hr=>?_,fun r v hr=>?_,fun r v hr hr'=>?_,fun r v hr hr'=>?_,hb,hm,hpa⟩
  all_goals by_cases e:S r
  ·grind
  ·grind
  ·grind
  ·grind
  ·grind
  ·grind
  ·grind
  ·grind
  ·grind
  ·grind
 have c4J:∀ r j r' j' b,S r->¬ S r'->E'.has r j b->E'.has r' j' b->False:=fun r j r' j' b h1 h2 h3 h4=>by
  have h5:=(hhas r' j' b h2).1 h4
  rcases hown r j b h1 h3 with⟨r0,j0,k1,k2⟩|k1
  ·have:=(h.inj _ _ _ _ _ k2 h5).1
   grind
  ·have:=h.lt h5;omega
 refine⟨⟨?_,fun r=>?_,fun r j r' j' b h1 h2=>?_,fun r j b h1=>?_,?_,fun r i hi=>?_,fun r k hk'=>?_,fun b o n hc=>hg.dig b o n (h.dig b o n hc)⟩,hX⟩
 ·refine⟨hg.os.trans h.below.os,hg.tape.trans h.below.tape,hg.output.trans h.below.output,iq h.below.size hg.size,fun k hk hmk=>?_⟩
  rw[hm] at hmk
  refine(hg.blk k (qg hk h.below.size) (fun r j _ e=>?_)).trans (h.below.blk k hk hmk)
  rcases h.mine r j k e with e|e
  ·grind
  ·omega
 ·by_cases e:S r
  ·grind
  ·obtain⟨e1,e2,e3,e4⟩:=hE r e
   rw[e4]
   refine(h.res r).keep hF hs e1 e2 e3 (fun j b hb'=>hg.blk b (h.lt hb') (fun r' j' hr' e'=>?_))
   have:=(h.inj _ _ _ _ _ hb' e').1
   grind
 ·by_cases e1:S r
  ·grind
  ·by_cases e2:S r'
   ·grind
   ·exact h.inj r j r' j' b ((hhas r j b e1).1 h1) ((hhas r' j' b e2).1 h2)
 ·rw[hm]
  by_cases e:S r
  ·rcases hown r j b e h1 with⟨r0,j0,_,k2⟩|k
   ·exact h.mine r0 j0 b k2
   ·exact .inr (iq h.below.size k)
  ·exact h.mine r j b ((hhas r j b e).1 h1)
 ·rw[hb,hm];exact h.base
 ·by_cases e:S r
  ·grind
  ·obtain⟨e1,e2,e3,e4⟩:=hE r e
   rw[e4] at hi;rw[e3];exact h.inner r i hi
 ·by_cases e:S r
  ·grind
  ·obtain⟨e1,e2,e3,e4⟩:=hE r e
   rw[e4] at hk'
   obtain⟨q1,q2,b,v,t,q3,q4,q5,q6⟩:=h.kbx r k hk'
   refine⟨hX.wf k q1,q2,b,v,t,e1.trans q3,?_,q5,hX.holds k v q1 q6⟩
   refine(hg.blk b (h.lt (j:=0) q3) (fun r' j' hr' e'=>?_)).trans q4
   have:=(h.inj _ 0 _ _ _ q3 e').1
   grind
theorem Mem.grows {E:Env} {ρ:Nat->Res} {W w w':World} (h:Mem E ρ W w) (hb:Below w.heap.size w w'):Mem E ρ W w'/\Ext E ρ w E ρ w' :=
 h.turns (fun _=>False) (jI.below hb _) (fun _ _=>⟨rfl,rfl,rfl,rfl⟩) rfl rfl rfl (fun _ _ _ h=>h.elim) (fun _ _ _ _ _ h=>h.elim) (fun _ _ h=>h.elim) (fun _ h=>h.elim) (fun _ h=>h.elim) (fun _ _ h=>h.elim) (fun _ _ h=>h.elim) (fun _ _ h=>h.elim) (fun _ h=>h.elim) (fun _ _ _ h=>h.elim)
theorem mD {E:Env} {r:Nat} {b:Option Nat} {s:Value} {I:Nat->Value} {r' j q:Nat}:(E.rC r b s I).has r' j q↔(if r'=r then (match j with|0=>b=some q|i+1=>bI (I i)=some q) else E.has r' j q):=by
 cases j with
 | zero =>
  show bH E.blk r b r'=some q↔_
  unfold bH
  split<;>exact Iff.rfl
 | succ i =>
  show bI (bH E.inn r I r' i)=some q↔_
  unfold bH
  split<;>exact Iff.rfl
theorem Mem.EM {E:Env} {ρ:Nat->Res} {W w w':World} (h:Mem E ρ W w) (r:Nat) (hg:jI E w w' (fun q=>q=r)) (b:Option Nat) (s:Value) (I:Nat->Value) (x:Res) (hx:lT (E.rC r b s I) w' r x)
  (hown:∀ q,(b=some q\/∃ i,bI (I i)=some q)->(∃ j0,E.has r j0 q)\/w.heap.size<=q)
  (b6b:∀ q i,b=some q->bI (I i)≠some q) (c2R:∀ i i' q,bI (I i)=some q->bI (I i')=some q->i=i')
  (b0c:∀ i,x.cnt<=i->bI (I i)=none)
  (hp:(ρ r).nN->x.nN/\b=E.blk r) (hkp:(ρ r).DX->x.DX/\(x.lU->(ρ r).lU/\b=E.blk r)) (hv:∀ v,Res.dW v (ρ r)->Res.dW v x)
  (ho:∀ v,Res.dW v (ρ r)->Res.isRow v x->Res.isRow v (ρ r)/\s=E.sl r/\x.esz=(ρ r).esz)
  (IE:∀ v,Res.dW v (ρ r)->Res.mF v x->Res.mF v (ρ r)/\x.msz=(ρ r).msz/\(ρ r).cnt<=x.cnt/\∀ i,i<(ρ r).cnt->I i=E.inn r i)
  (hk:Ext E ρ w (E.rC r b s I) (bH ρ r x) w'->∀ k,x=.kF k->a3k (E.rC r b s I) (bH ρ r x) w' r k) :
  Mem (E.rC r b s I) (bH ρ r x) W w'/\Ext E ρ w (E.rC r b s I) (bH ρ r x) w':=by
 refine h.turns (fun q=>q=r) hg (fun q hq=>⟨aQ _ _ hq,aQ _ _ hq,aQ _ _ hq,aQ _ _ hq⟩) rfl rfl rfl (fun r' j q e hh=>?_) (fun r1 j r2 j' q e1 e2 h1 h2=>?_) (fun r' i e hi=>?_) (fun r' e hr=>?_) (fun r' e hr=>?_) (fun r' v e hr=>?_) (fun r' v e hr hr'=>?_) (fun r' v e hr hr'=>?_) (fun r' e=>?_) (fun hX r' k e hr=>?_)
 ·subst e
  rw[mD,jm rfl] at hh
  rcases hown q (by cases j with|zero=>exact .inl hh|succ i=>exact .inr ⟨i,hh⟩) with⟨j0,h0⟩|h0
  ·grind
  ·grind
 ·subst e1 e2
  rw[mD,jm rfl] at h1 h2
  refine⟨rfl,?_⟩
  cases j with
  | zero=>cases j' with
   | zero=>rfl
   | succ i=>exact(b6b q i h1 h2).elim
  | succ i=>cases j' with
   | zero=>exact(b6b q i h2 h1).elim
   | succ i'=>rw[c2R i i' q h1 h2]
 ·subst e;rw[aG] at hi;show bI (bH E.inn r' I r' i)=none;rw[aG];exact b0c i hi
 ·subst e;rw[aG];obtain⟨a,c⟩:=hp hr;exact⟨a,by show bH E.blk r' b r'=_;rw[aG];exact c⟩
 ·subst e;rw[aG];obtain⟨a,c⟩:=hkp hr;exact⟨a,fun hh=>⟨(c hh).1,by show bH E.blk r' b r'=_;rw[aG];exact(c hh).2⟩⟩
 ·subst e;rw[aG];exact hv v hr
 ·subst e;rw[aG] at hr' ⊢;obtain⟨a,c,d⟩:=ho v hr hr';exact⟨a,by show bH E.sl r' s r'=_;rw[aG];exact c,d⟩
 ·subst e;rw[aG] at hr' ⊢;obtain⟨a,c,d,f⟩:=IE v hr hr';exact⟨a,c,d,fun i hi=>by show bH E.inn r' I r' i=_;rw[aG];exact f i hi⟩
 ·subst e;rw[aG];exact hx
 ·subst e;rw[aG] at hr;exact hk hX k hr
theorem Mem.turn {E:Env} {ρ:Nat->Res} {W w w':World} (h:Mem E ρ W w) (r:Nat) (hg:jI E w w' (fun q=>q=r)) (b:Option Nat) (s:Value) (x:Res) (hx:lT (E.put r b s) w' r x)
  (hb:b=none\/b=E.blk r\/b=some w.heap.size) (hc:x.cnt=0) (hkb:∀ k,x≠.kF k) (hkg:¬ (ρ r).DX)
  (hp:(ρ r).nN->x.nN/\b=E.blk r) (hv:∀ v,Res.dW v (ρ r)->Res.dW v x)
  (ho:∀ v,Res.dW v (ρ r)->Res.isRow v x->Res.isRow v (ρ r)/\s=E.sl r/\x.esz=(ρ r).esz) (hnm:∀ v,¬ Res.mF v x) :
  Mem (E.put r b s) (bH ρ r x) W w'/\Ext E ρ w (E.put r b s) (bH ρ r x) w' :=
 h.EM r hg b s (fun _=>undef) x hx (fun q hq=>by
  rcases hq with hq|⟨i,hq⟩
  ·rcases hb with e|e|e
   ·grind
   ·exact .inl ⟨0,by show E.blk r=some q;rw[<-e];exact hq⟩
   ·grind
  ·cases hq) (fun q i _ hq=>by cases hq) (fun i i' q hq=>by cases hq) (fun i _=>rfl) hp (fun hh=>(hkg hh).elim) hv ho (fun v _ hh=>(hnm v hh).elim) (fun _ k e=>(hkb k e).elim)
theorem zG {E:Env} {ρ:Nat->Res} {w w':World} {r:Nat} {b:Option Nat} {s:Value} (hsz:w.heap.size<=w'.heap.size) (hb:b=none\/b=E.blk r\/b=some w.heap.size):∀ q,fz w E q->fz w' (E.put r b s) q :=
 sZ (S:=fun q=>q=r) hsz rfl (fun q hq=>⟨aQ _ _ hq,aQ _ _ hq⟩) (fun r' j q e hh=>by
  subst e
  unfold Env.put at hh
  rw[mD,jm rfl] at hh
  cases j with
  | zero =>
   rcases hb with e|e|e
   ·grind
   ·exact .inl ⟨r',0,by show E.blk r'=some q;rw[<-e];exact hh⟩
   ·grind
  | succ i=>cases hh)
end Go.Proofs.YtbkocjmmbkifjaaGreat
