/-
  Lemmas for the theorem vofmatrices_holds, part 21 of 32.
-/
import Derived.Orders
import Derived.Test.YtidfgdchcpmnfaaGreatOm02
import Derived.Test.YtidfgdchcpmnfaaGreatOm05
import Derived.Test.YtidfgdchcpmnfaaGreatOm06
import Derived.Test.YtidfgdchcpmnfaaGreatOm07
import Derived.Test.YtidfgdchcpmnfaaGreatOm11
namespace Go.Proofs.YtidfgdchcpmnfaaGreat
open Go Go.RowKit
set_option linter.unusedSimpArgs false
set_option linter.unusedVariables false
set_option maxRecDepth 20000
theorem a6x {P:Program} {md:Region.Mode} {ops:Array Oper} {Q:Exit->Act->World->Prop} (I:Array Bool->Act->World->Prop) (hd:lG md ops=true)
  (hend:∀ L a w,I L a w->(∀ i,i<ops.size->L.getD i true=true)->Q .normal a w)
  (hstep:∀ L a w i o,I L a w->ops[i]?=some o->L.getD i true=false->(∀ e ∈ o.after,Region.binds md e=true->L.getD e.on false=true)->wpOp P ops Q i (I (L.setIfInBounds i true)) a w) :
  ∀ fuel L a w,zN L<=fuel->I L a w->wpAny P md ops Q fuel L a w:=by
 intro fuel
 induction fuel with
 | zero =>
  intro L a w hu hI
  have hn:Region.ready md ops L=[]:=by
   cases hr:Region.ready md ops L with
   | nil=>rfl
   | cons i r =>
    exfalso
    obtain⟨o,_,h2,_⟩:=rH (by rw[hr];exact List.mem_cons_self)
    have:=oZ h2
    omega
  exact⟨hn,hend L a w hI (jO hd hn)⟩
 | succ fuel ih =>
  intro L a w hu hI
  refine⟨fun hn=>hend L a w hI (jO hd hn),fun i hi=>?_⟩
  obtain⟨o,h1,h2,h3⟩:=rH hi
  refine wpOp_mono (fun a' w' h'=>ih _ _ _ ?_ h') (hstep L a w i o hI h1 h2 h3)
  have:=oZ h2
  omega
inductive FK where
 | any
 | eq (v:Value)
 | raw (x:Int)
 | b0D (x:Int)
 | rq (q:Rat)
 | div (x y:Int)
 | qc (q:Rat) (c:Int)
 | xY
 | WH
 | a4W (x:Int)
 | a4X (q:Rat)
 | st (p:Value->World->Prop) (h:∀ v w w',p v w->Below w.heap.size w w'->p v w')
def FK.holds (R:World):FK->Value->World->Prop
 | .any,_,_=>True
 | .eq u,v,_=>v=u
 | .raw x,v,w=>Raw w v x
 | .b0D x,v,w=>bU w v x
 | .rq q,v,w=>RQ w v q
 | .div x y,v,w=>∃ u u',v=.tuple #[u,u',.int .i64 0]/\bU w u x/\bU w u' y
 | .qc q c,v,w=>∃ u,v=.tuple #[u,.int .i64 c]/\RQ w u q
 | .xY,v,w=>∃ B u0 u1,v=.pointer (some ⟨B,0,none⟩)/\R.heap.size<=B/\aS u0=true/\aS u1=true/\Bx w B [u0,u1]
 | .WH,v,w=>∃ B u0 u1 u2 u3,v=.pointer (some ⟨B,0,none⟩)/\R.heap.size<=B/\aS u0=true/\aS u1=true/\aS u2=true/\aS u3=true/\Bx w B [u0,u1,u2,u3]
 | .a4W x,v,w=>∃ B g p n c,v=.pointer (some ⟨B,0,none⟩)/\R.heap.size<=B/\Bx w B [.bool g,.slice p n c]/\bU w (.agg #[.bool g,.slice p n c]) x
 | .a4X q,v,w=>∃ B g p n c h o m e,v=.pointer (some ⟨B,0,none⟩)/\R.heap.size<=B/\Bx w B [.bool g,.slice p n c,.bool h,.slice o m e]/\RQ w (.agg #[.bool g,.slice p n c,.bool h,.slice o m e]) q
 | .st p _,v,w=>p v w
def FK.a8a:FK->Bool
 | .st _ _=>true
 | _=>false
def FK.fQ:FK->Bool
 | .xY=>true
 | .WH=>true
 | _=>false
def FK.isFull:FK->Bool
 | .a4W _=>true
 | .a4X _=>true
 | _=>false
theorem FK.below {R w w':World} (hb:Below w.heap.size w w') {k:FK} {v:Value} (h:k.holds R v w):k.holds R v w':=by
 cases k with
 | any=>trivial
 | eq u=>exact h
 | raw x=>exact Raw.below h hb
 | b0D x=>exact bU.below h hb
 | rq q=>exact RQ.below h hb
 | div x y=>obtain⟨u,u',h1,h2,h3⟩:=h;exact⟨u,u',h1,h2.below hb,h3.below hb⟩
 | qc q c=>obtain⟨u,h1,h2⟩:=h;exact⟨u,h1,h2.below hb⟩
 | xY=>obtain⟨B,u0,u1,h1,h2,h3,h4,h5⟩:=h;exact⟨B,u0,u1,h1,h2,h3,h4,h5.to hb⟩
 | WH=>obtain⟨B,u0,u1,u2,u3,h1,h2,h3,h4,h5,h6,h7⟩:=h;exact⟨B,u0,u1,u2,u3,h1,h2,h3,h4,h5,h6,h7.to hb⟩
 | a4W x=>obtain⟨B,g,p,n,c,h1,h2,h3,h4⟩:=h;exact⟨B,g,p,n,c,h1,h2,h3.to hb,h4.below hb⟩
 | a4X q=>obtain⟨B,g,p,n,c,h',o,m,e,h1,h2,h3,h4⟩:=h;exact⟨B,g,p,n,c,h',o,m,e,h1,h2,h3.to hb,h4.below hb⟩
 | st p hp=>exact hp v w w' h hb
def set2 (w:World) (B:Nat) (x0 x1:Value):World:=(w.setCell ⟨B,0,none⟩ x0).setCell ⟨B,1,none⟩ x1
def QX (w:World) (B:Nat) (x0 x1 x2 x3:Value):World:=(((w.setCell ⟨B,0,none⟩ x0).setCell ⟨B,1,none⟩ x1).setCell ⟨B,2,none⟩ x2).setCell ⟨B,3,none⟩ x3
theorem ZH {w:World} {B:Nat} {v0 v1 v2 v3:Value} (h':Bx w B [v0,v1,v2,v3]) (x0 x1:Value):Bx (set2 w B x0 x1) B [x0,x1,v2,v3]:=(h'.setAt 0 x0).setAt 1 x1
theorem ZI {w:World} {B:Nat} {u0 u1 v0 v1 v2 v3:Value} (h:Bx w B [u0,u1]) (h':Bx w B [v0,v1,v2,v3]) (x0 x1 x2 x3:Value):Bx (QX w B x0 x1 x2 x3) B [x0,x1]:=by
 have:=h'.jS x0 x1 x2 x3
 exact⟨this.1,fun i u hu=>this.2 i u (by
  match i,hu with
  | 0,hu=>exact hu
  | 1,hu=>exact hu
  | (n+2),hu=>simp at hu)⟩
theorem FK.set2 {R w:World} {B:Nat} {u0 u1 x0 x1:Value} (q:Bx w B [u0,u1]) (n0:aS u0=true) (n1:aS u1=true) (m0:aS x0=true) (m1:aS x1=true) {k:FK} {v:Value} (hns:k.a8a=false) (hne:k.isFull=true->v≠.pointer (some ⟨B,0,none⟩)) (h:k.holds R v w):k.holds R v (Go.Proofs.YtidfgdchcpmnfaaGreat.set2 w B x0 x1):=by
 cases k with
 | any=>trivial
 | eq u=>exact h
 | raw x=>exact Raw.aF h q n0 n1 _ _
 | b0D x=>exact bU.aF h q n0 n1 _ _
 | rq q'=>exact RQ.aF h q n0 n1 _ _
 | div x y=>obtain⟨u,u',h1,h2,h3⟩:=h;exact⟨u,u',h1,h2.aF q n0 n1 _ _,h3.aF q n0 n1 _ _⟩
 | qc q' c=>obtain⟨u,h1,h2⟩:=h;exact⟨u,h1,h2.aF q n0 n1 _ _⟩
 | xY =>
  obtain⟨B',v0,v1,h1,h2,h3,h4,h5⟩:=h
  by_cases e:B'=B
  ·subst e;exact⟨B',x0,x1,h1,h2,m0,m1,q.store2 _ _⟩
  ·exact⟨B',v0,v1,h1,h2,h3,h4,h5.aJ e _ _⟩
 | WH =>
  obtain⟨B',v0,v1,v2,v3,h1,h2,h3,h4,h5,h6,h7⟩:=h
  by_cases e:B'=B
  ·subst e;exact⟨B',x0,x1,v2,v3,h1,h2,m0,m1,h5,h6,ZH h7 _ _⟩
  ·exact⟨B',v0,v1,v2,v3,h1,h2,h3,h4,h5,h6,h7.aJ e _ _⟩
 | a4W x =>
  obtain⟨B',g,p,n,c,h1,h2,h3,h4⟩:=h
  have e:B'≠B:=fun e=>hne rfl (by rw[h1,e])
  exact⟨B',g,p,n,c,h1,h2,h3.aJ e _ _,h4.aF q n0 n1 _ _⟩
 | a4X q' =>
  obtain⟨B',g,p,n,c,h',o,m,e',h1,h2,h3,h4⟩:=h
  have e:B'≠B:=fun e=>hne rfl (by rw[h1,e])
  exact⟨B',g,p,n,c,h',o,m,e',h1,h2,h3.aJ e _ _,h4.aF q n0 n1 _ _⟩
 | st p hp=>cases hns
theorem FK.QX {R w:World} {B:Nat} {u0 u1 u2 u3 x0 x1 x2 x3:Value} (q:Bx w B [u0,u1,u2,u3]) (n0:aS u0=true) (n1:aS u1=true) (n2:aS u2=true) (n3:aS u3=true) (m0:aS x0=true) (m1:aS x1=true) (m2:aS x2=true) (m3:aS x3=true) {k:FK} {v:Value} (hns:k.a8a=false) (hne:k.isFull=true->v≠.pointer (some ⟨B,0,none⟩)) (h:k.holds R v w):k.holds R v (Go.Proofs.YtidfgdchcpmnfaaGreat.QX w B x0 x1 x2 x3):=by
 cases k with
 | any=>trivial
 | eq u=>exact h
 | raw x=>exact Raw.aT h q n0 n1 n2 n3 _ _ _ _
 | b0D x=>exact bU.aT h q n0 n1 n2 n3 _ _ _ _
 | rq q'=>exact RQ.aT h q n0 n1 n2 n3 _ _ _ _
 | div x y=>obtain⟨u,u',h1,h2,h3⟩:=h;exact⟨u,u',h1,h2.aT q n0 n1 n2 n3 _ _ _ _,h3.aT q n0 n1 n2 n3 _ _ _ _⟩
 | qc q' c=>obtain⟨u,h1,h2⟩:=h;exact⟨u,h1,h2.aT q n0 n1 n2 n3 _ _ _ _⟩
 | xY =>
  obtain⟨B',v0,v1,h1,h2,h3,h4,h5⟩:=h
  by_cases e:B'=B
  ·subst e;exact⟨B',x0,x1,h1,h2,m0,m1,ZI h5 q _ _ _ _⟩
  ·exact⟨B',v0,v1,h1,h2,h3,h4,h5.dI e _ _ _ _⟩
 | WH =>
  obtain⟨B',v0,v1,v2,v3,h1,h2,h3,h4,h5,h6,h7⟩:=h
  by_cases e:B'=B
  ·subst e;exact⟨B',x0,x1,x2,x3,h1,h2,m0,m1,m2,m3,q.jS _ _ _ _⟩
  ·exact⟨B',v0,v1,v2,v3,h1,h2,h3,h4,h5,h6,h7.dI e _ _ _ _⟩
 | a4W x =>
  obtain⟨B',g,p,n,c,h1,h2,h3,h4⟩:=h
  have e:B'≠B:=fun e=>hne rfl (by rw[h1,e])
  exact⟨B',g,p,n,c,h1,h2,h3.dI e _ _ _ _,h4.aT q n0 n1 n2 n3 _ _ _ _⟩
 | a4X q' =>
  obtain⟨B',g,p,n,c,h',o,m,e',h1,h2,h3,h4⟩:=h
  have e:B'≠B:=fun e=>hne rfl (by rw[h1,e])
  exact⟨B',g,p,n,c,h',o,m,e',h1,h2,h3.dI e _ _ _ _,h4.aT q n0 n1 n2 n3 _ _ _ _⟩
 | st p hp=>cases hns
def fV (sl:Nat->Option Nat) (t:Nat->Value) (a:Act):Nat->Act
 | 0=>a
 | n+1=>(fV sl t a n).put (sl n) (t n)
def upv (t:Nat->Value) (i:Nat) (v:Value):Nat->Value:=fun j=>if j=i then v else t j
theorem KG (sl:Nat->Option Nat) (t:Nat->Value) (a:Act):∀ n,(fV sl t a n).tmps.size=a.tmps.size
 | 0=>rfl
 | n+1=>by
  show ((fV sl t a n).put (sl n) (t n)).tmps.size=_
  cases h:sl n<;>simp[Act.put,KG sl t a n]
theorem QD (sl:Nat->Option Nat) {t t':Nat->Value} (a:Act):∀ n,(∀ i,i<n->t i=t' i)->fV sl t a n=fV sl t' a n
 | 0,_=>rfl
 | n+1,h=>by
  show (fV sl t a n).put (sl n) (t n)=(fV sl t' a n).put (sl n) (t' n)
  rw[QD sl a n (fun i hi=>h i (by omega)),h n (by omega)]
theorem b0v (a:Act) (s:Option Nat) (v v':Value):(a.put s v').put s v=a.put s v:=by
 cases s with
 | none=>rfl
 | some s=>simp[Act.put]
theorem put_comm (a:Act) {s s':Nat} (h:s≠s') (v v':Value):(a.put (some s') v').put (some s) v=(a.put (some s) v).put (some s') v':=by
 simp only[Act.put,Act.mk.injEq,and_true]
 apply Array.ext_getElem?
 intro j
 simp only[Array.getElem?_setIfInBounds,Array.size_setIfInBounds]
 by_cases h1:s=j
 ·by_cases h2:s'=j
  ·exact absurd (h1.trans h2.symm) h
  ·simp[h1,h2]
 ·by_cases h2:s'=j
  ·simp[h1,h2]
  ·simp[h1,h2]
theorem QE (sl:Nat->Option Nat) (t:Nat->Value) (a:Act) (v:Value) {i s:Nat} (hs:sl i=some s):∀ n,i<n->(∀ j,j<n->j≠i->sl j≠some s)->(fV sl t a n).put (some s) v=fV sl (upv t i v) a n
 | 0,h,_=>by omega
 | n+1,h,hd=>by
  show ((fV sl t a n).put (sl n) (t n)).put (some s) v=(fV sl (upv t i v) a n).put (sl n) (upv t i v n)
  by_cases e:i=n
  ·subst e
   rw[hs,b0v,QD sl (t':=upv t i v) a i (fun j hj=>(if_neg (show ¬ j=i by omega)).symm),show upv t i v i=v from if_pos rfl]
  ·have hv:upv t i v n=t n:=if_neg (fun e'=>e e'.symm)
   rw[hv,<-QE sl t a v hs n (by omega) (fun j hj=>hd j (by omega))]
   cases hn:sl n with
   | none=>rfl
   | some s'=>exact put_comm _ (fun e'=>hd n (by omega) (fun e2=>e e2.symm) (by rw[hn,e'])) _ _
theorem eval_put_same (a:Act) (s:Nat) (v:Value) (h:s<a.tmps.size):(a.put (some s) v).eval (.tmp s)=v:=by
 simp[Act.put,Act.eval,Array.getD_eq_getD_getElem?,h]
theorem yH (a:Act) (s:Nat) (s':Option Nat) (v:Value) (h:s'≠some s):(a.put s' v).eval (.tmp s)=a.eval (.tmp s):=by
 cases s' with
 | none=>rfl
 | some s' =>
  have:s'≠s:=fun e=>h (by rw[e])
  simp[Act.put,Act.eval,Array.getD_eq_getD_getElem?,Array.getElem?_setIfInBounds,this]
theorem ZW (sl:Nat->Option Nat) (t:Nat->Value) (a:Act) {s:Nat}:∀ n,(∀ j,j<n->sl j≠some s)->(fV sl t a n).eval (.tmp s)=a.eval (.tmp s)
 | 0,_=>rfl
 | n+1,h=>by
  show ((fV sl t a n).put (sl n) (t n)).eval (.tmp s)=_
  rw[yH _ _ _ _ (h n (by omega))]
  exact ZW sl t a n (fun j hj=>h j (by omega))
theorem a3S (sl:Nat->Option Nat) (t:Nat->Value) (a:Act) {i s:Nat} (hs:sl i=some s) (hlt:s<a.tmps.size):∀ n,i<n->(∀ j,j<n->j≠i->sl j≠some s)->(fV sl t a n).eval (.tmp s)=t i
 | 0,h,_=>by omega
 | n+1,h,hd=>by
  show ((fV sl t a n).put (sl n) (t n)).eval (.tmp s)=_
  by_cases e:i=n
  ·subst e
   rw[hs,eval_put_same _ _ _ (by rw[KG];exact hlt)]
  ·rw[yH _ _ _ _ (hd n (by omega) (fun e'=>e e'.symm))]
   exact a3S sl t a hs hlt n (by omega) (fun j hj=>hd j (by omega))
theorem evq {A:Act} {s:Nat} {v:Value} (h:A.eval (.tmp s)=v):A.tmps[s]?.getD undef=v:=by rw[<-Array.getD_eq_getD_getElem?];exact h
def FU (sl:Nat->Option Nat) (n size:Nat):Bool:=(List.range n).all fun i=>match sl i with
 | none=>true
 | some s=>decide (s<size)&&(List.range n).all fun j=>decide (j=i) || !decide (sl j=some s)
theorem qZ {sl:Nat->Option Nat} {n size:Nat} (h:FU sl n size=true) {i s:Nat} (hi:i<n) (hs:sl i=some s):s<size/\∀ j,j<n->j≠i->sl j≠some s:=by
 unfold FU at h
 rw[List.all_eq_true] at h
 have h1:=h i (List.mem_range.2 hi)
 rw[hs] at h1
 simp only[Bool.and_eq_true,decide_eq_true_eq,List.all_eq_true] at h1
 refine⟨h1.1,fun j hj hne=>?_⟩
 have h2:=h1.2 j (List.mem_range.2 hj)
 simpa [hne] using h2
theorem KF (sl:Nat->Option Nat) (a:Act):∀ n,(∀ i s,i<n->sl i=some s->s<a.tmps.size)->fV sl (fun i=>a.tmps.getD ((sl i).getD 0) undef) a n=a
 | 0,_=>rfl
 | n+1,h=>by
  show (fV sl _ a n).put (sl n) _=a
  rw[KF sl a n (fun i s hi=>h i s (by omega))]
  cases hs:sl n with
  | none=>rfl
  | some s =>
   have:=h n s (by omega) hs
   cases a with
   | mk tmps defers =>
    simp only[Act.put,Option.getD_some,Act.mk.injEq,and_true]
    apply Array.ext_getElem?
    intro j
    rw[Array.getElem?_setIfInBounds]
    by_cases e:s=j
    ·subst e
     have h2:s<tmps.size:=this
     rw[if_pos rfl,if_pos h2,hs,Option.getD_some,Array.getD_eq_getD_getElem?,Array.getElem?_eq_getElem h2];rfl
    ·rw[if_neg e]
inductive a6E (P:Program) (R:World) (ops:Array Oper) (fk:Nat->FK) (al:Nat->Nat) (t:Nat->Value) (L:Array Bool) (i:Nat) (o:Oper) (a:Act) (w:World):Prop
 | val (v:Value) (hr:(execOp a.eval o).run P w=.ok (.value v) w) (hf:(fk i).holds R v w) (hw:Region.wanted o (yielded ops a.tmps)=true:=by rfl) (ha:al i=i:=by rfl) (hb:(fk i).fQ=false:=by rfl)
 | call (f:FuncId) (args:Array Value) (hr:(execOp a.eval o).run P w=.ok (.enter f args) w) (hc:Calls P f args w fun e w'=>∃ v,e=.returned v/\(fk i).holds R v w'/\Below w.heap.size w w') (hw:Region.wanted o (yielded ops a.tmps)=true:=by rfl) (ha:al i=i:=by rfl) (hb:(fk i).fQ=false:=by rfl)
 | alloc2 (u0 u1:Value) (T:TypeId) (hr:(execOp a.eval o).run P w=.ok (.value (.pointer (some ⟨w.heap.size,0,none⟩))) (w.alloc (.cells #[u0,u1] T))) (h0:aS u0=true:=by rfl) (h1:aS u1=true:=by rfl) (hw:Region.wanted o (yielded ops a.tmps)=true:=by rfl) (ha:al i=i:=by rfl) (hk:fk i=.xY:=by rfl)
 | b1w (u0 u1 u2 u3:Value) (T:TypeId) (hr:(execOp a.eval o).run P w=.ok (.value (.pointer (some ⟨w.heap.size,0,none⟩))) (w.alloc (.cells #[u0,u1,u2,u3] T))) (h0:aS u0=true:=by rfl) (h1:aS u1=true:=by rfl) (h2:aS u2=true:=by rfl) (h3:aS u3=true:=by rfl) (hw:Region.wanted o (yielded ops a.tmps)=true:=by rfl) (ha:al i=i:=by rfl) (hk:fk i=.WH:=by rfl)
 | store2 (x:Int) (hd:L.getD (al i) false=true)
  (hr:∀ B u0 u1,t (al i)=.pointer (some ⟨B,0,none⟩)->Bx w B [u0,u1]->∃ g p n c,(execOp a.eval o).run P w=.ok .skip (set2 w B (.bool g) (.slice p n c))/\bU w (.agg #[.bool g,.slice p n c]) x) (hw:Region.wanted o (yielded ops a.tmps)=true:=by rfl) (ho:o.dst=none:=by rfl) (hal:fk (al i)=.xY:=by rfl) (hk:fk i=.a4W x:=by rfl) (hne:al i≠i:=by decide)
 | jS (x:Rat) (hd:L.getD (al i) false=true)
  (hr:∀ B u0 u1 u2 u3,t (al i)=.pointer (some ⟨B,0,none⟩)->Bx w B [u0,u1,u2,u3]->∃ g p n c h q m e,(execOp a.eval o).run P w=.ok .skip (QX w B (.bool g) (.slice p n c) (.bool h) (.slice q m e))/\RQ w (.agg #[.bool g,.slice p n c,.bool h,.slice q m e]) x) (hw:Region.wanted o (yielded ops a.tmps)=true:=by rfl) (ho:o.dst=none:=by rfl) (hal:fk (al i)=.WH:=by rfl) (hk:fk i=.a4X x:=by rfl) (hne:al i≠i:=by decide)
 | make (v:Value) (ob:Obj) (hr:(execOp a.eval o).run P w=.ok (.value v) (w.alloc ob)) (hf:(fk i).holds R v (w.alloc ob)) (hw:Region.wanted o (yielded ops a.tmps)=true:=by rfl) (ha:al i=i:=by rfl) (hb:(fk i).fQ=false:=by rfl)
 | no (hw:Region.wanted o (yielded ops a.tmps)=false) (hf:(fk i).holds R undef w) (ha:al i=i:=by rfl) (hb:(fk i).fQ=false:=by rfl)
def DU (R:World) (N:Nat) (sl:Nat->Option Nat) (fk:Nat->FK) (al:Nat->Nat) (a0:Act) (L:Array Bool) (a:Act) (w:World):Prop :=
 L.size=N/\∃ t:Nat->Value,a=fV sl t a0 N/\Below R.heap.size R w/\(∀ j,j<N->L.getD j false=true->(fk j).holds R (t (al j)) w)/\(∀ j,j<N->L.getD j false=true->L.getD (al j) false=true) /\
  (∀ j k,j<N->k<N->j≠k->(fk j).fQ=true->(fk k).fQ=true->L.getD j false=true->L.getD k false=true->t j≠t k)
theorem a5A {R w:World} {k:FK} {v:Value} (hk:k.fQ=true) (h:k.holds R v w):∃ B,v=.pointer (some ⟨B,0,none⟩)/\B<w.heap.size:=by
 cases k<;>simp[FK.fQ] at hk
 ·obtain⟨B,_,_,h1,_,_,_,h5⟩:=h;exact⟨B,h1,h5.1⟩
 ·obtain⟨B,_,_,_,_,h1,_,_,_,_,_,h5⟩:=h;exact⟨B,h1,h5.1⟩
theorem lD {L:Array Bool} {i j:Nat} (h:(L.setIfInBounds i true).getD j false=true) (hne:j≠i):L.getD j false=true:=by rwa [gX (fun e=>hne e.symm)] at h
theorem rW {L:Array Bool} {i j:Nat} (hl:L.getD i true=false) (h:L.getD j false=true):(L.setIfInBounds i true).getD j false=true:=by
 by_cases e:i=j
 ·subst e;exact jI hl
 ·rw[gX e];exact h
theorem a0G {L:Array Bool} {i:Nat} (hl:L.getD i true=false) (h:L.getD i false=true):False:=by rw[uO hl] at h;cases h
def xA (fk:Nat->FK) (al:Nat->Nat) (n:Nat):Bool:=(List.range n).all fun j=>(!(fk j).fQ || decide (al j=j))&&(!(fk j).isFull || ((fk (al j)).fQ&&decide (al j<n)))&&(List.range n).all fun k=>(decide (k=j) || !(fk j).isFull || !(fk k).isFull || !decide (al j=al k))&&(!(fk j).isFull || !(fk k).a8a)
theorem GR {fk:Nat->FK} {al:Nat->Nat} {n:Nat} (h:xA fk al n=true) {j:Nat} (hj:j<n) (hb:(fk j).fQ=true):al j=j:=by
 unfold xA at h
 have h1:=(List.all_eq_true.1 h) j (List.mem_range.2 hj)
 simp only[Bool.and_eq_true] at h1
 have h2:=h1.1.1
 simpa [hb] using h2
theorem vW {fk:Nat->FK} {al:Nat->Nat} {n:Nat} (h:xA fk al n=true) {j:Nat} (hj:j<n) (hb:(fk j).isFull=true):(fk (al j)).fQ=true/\al j<n:=by
 unfold xA at h
 have h1:=(List.all_eq_true.1 h) j (List.mem_range.2 hj)
 simp only[Bool.and_eq_true] at h1
 have h2:=h1.1.2
 simpa [hb] using h2
theorem a4S {fk:Nat->FK} {al:Nat->Nat} {n:Nat} (h:xA fk al n=true) {j k:Nat} (hj:j<n) (hk:k<n) (hne:k≠j) (hb:(fk j).isFull=true) (hb':(fk k).isFull=true):al j≠al k:=by
 unfold xA at h
 have h1:=(List.all_eq_true.1 h) j (List.mem_range.2 hj)
 simp only[Bool.and_eq_true] at h1
 have h2:=(List.all_eq_true.1 h1.2) k (List.mem_range.2 hk)
 rw[Bool.and_eq_true] at h2
 have h3:=h2.1
 simpa [hb,hb',hne] using h3
theorem a6K {fk:Nat->FK} {al:Nat->Nat} {n:Nat} (h:xA fk al n=true) {j k:Nat} (hj:j<n) (hk:k<n) (hb:(fk j).isFull=true):(fk k).a8a=false:=by
 unfold xA at h
 have h1:=(List.all_eq_true.1 h) j (List.mem_range.2 hj)
 simp only[Bool.and_eq_true] at h1
 have h2:=(List.all_eq_true.1 h1.2) k (List.mem_range.2 hk)
 rw[Bool.and_eq_true] at h2
 have h3:=h2.2
 simpa [hb] using h3
section
variable {P:Program} {R:World} {N:Nat} {sl:Nat->Option Nat} {fk:Nat->FK} {al:Nat->Nat} {a0:Act} {L:Array Bool} {w:World} {t:Nat->Value}
theorem DU.value {i:Nat} {s:Option Nat} (hN:i<N) (hsl:FU sl N a0.tmps.size=true) (hao:xA fk al N=true) (hs:sl i=s) (hl:L.getD i true=false) (hL:L.size=N) (hB:Below R.heap.size R w) (hf:∀ j,j<N->L.getD j false=true->(fk j).holds R (t (al j)) w) (ha:∀ j,j<N->L.getD j false=true->L.getD (al j) false=true)
  (hx:∀ j k,j<N->k<N->j≠k->(fk j).fQ=true->(fk k).fQ=true->L.getD j false=true->L.getD k false=true->t j≠t k)
  {v:Value} {w':World} (hb:Below w.heap.size w w') (hv:(fk i).holds R v w') (hai:al i=i) (hbox:(fk i).fQ=true->∀ B,B<w.heap.size->v≠.pointer (some ⟨B,0,none⟩)) :
  DU R N sl fk al a0 (L.setIfInBounds i true) ((fV sl t a0 N).put s v) w':=by
 have hal:∀ j,j<N->L.getD j false=true->al j≠i:=fun j hj h e=>a0G hl (e ▸ ha j hj h)
 have hput:(fV sl t a0 N).put s v=fV sl (upv t i v) a0 N:=by
  cases hsi:s with
  | none =>
   show fV sl t a0 N=_
   rw[hsi] at hs
   clear hsl hao hf ha hx hal hv hN hL hbox
   have:∀ n,fV sl t a0 n=fV sl (upv t i v) a0 n:=by
    intro n
    induction n with
    | zero=>rfl
    | succ n ih =>
     show (fV sl t a0 n).put (sl n) (t n)=(fV sl (upv t i v) a0 n).put (sl n) (upv t i v n)
     rw[ih]
     by_cases e:n=i
     ·subst e;rw[hs];rfl
     ·rw[show upv t i v n=t n from if_neg e]
   exact this N
  | some s' =>
   rw[hsi] at hs
   exact QE sl t a0 v hs N hN (qZ hsl hN hs).2
 have hnew:∀ k,k<N->k≠i->(fk i).fQ=true->(fk k).fQ=true->L.getD k false=true->v≠t k:=fun k hk e b1 b2 h2=>by
  have hk':=hf k hk h2
  rw[GR hao hk b2] at hk'
  obtain⟨B,e1,e2⟩:=a5A b2 hk'
  rw[e1];exact hbox b1 B e2
 refine⟨by simpa using hL,upv t i v,hput,Below.tr hB hb,fun j hj h=>?_,fun j hj h=>?_,fun j k hj hk hne b1 b2 h1 h2=>?_⟩
 ·by_cases e:j=i
  ·subst e;rw[hai,show upv t j v j=v from if_pos rfl];exact hv
  ·have h':=lD h e
   rw[show upv t i v (al j)=t (al j) from if_neg (hal j hj h')]
   exact FK.below hb (hf j hj h')
 ·by_cases e:j=i
  ·subst e;rw[hai];exact jI hl
  ·exact rW hl (ha j hj (lD h e))
 ·by_cases e1:j=i
  ·subst e1
   have e2:k≠j:=fun e=>hne e.symm
   rw[show upv t j v j=v from if_pos rfl,show upv t j v k=t k from if_neg e2]
   exact hnew k hk e2 b1 b2 (lD h2 e2)
  ·by_cases e2:k=i
   ·subst e2
    rw[show upv t k v k=v from if_pos rfl,show upv t k v j=t j from if_neg e1]
    exact fun e=>hnew j hj e1 b2 b1 (lD h1 e1) e.symm
   ·rw[show upv t i v j=t j from if_neg e1,show upv t i v k=t k from if_neg e2]
    exact hx j k hj hk hne b1 b2 (lD h1 e1) (lD h2 e2)
theorem DU.stored {i:Nat} (hN:i<N) (hao:xA fk al N=true) (hl:L.getD i true=false) (hL:L.size=N) (hf:∀ j,j<N->L.getD j false=true->(fk j).holds R (t (al j)) w) (ha:∀ j,j<N->L.getD j false=true->L.getD (al j) false=true)
  (hx:∀ j k,j<N->k<N->j≠k->(fk j).fQ=true->(fk k).fQ=true->L.getD j false=true->L.getD k false=true->t j≠t k)
  {w':World} (hd:L.getD (al i) false=true) (hfu:(fk i).isFull=true) (hB:Below R.heap.size R w') (hv:(fk i).holds R (t (al i)) w')
  (hst:∀ k v,k.a8a=false->(k.isFull=true->v≠t (al i))->FK.holds R k v w->FK.holds R k v w') :
  DU R N sl fk al a0 (L.setIfInBounds i true) (fV sl t a0 N) w':=by
 refine⟨by simpa using hL,t,rfl,hB,fun j hj h=>?_,fun j hj h=>?_,fun j k hj hk hne b1 b2 h1 h2=>?_⟩
 ·by_cases e:j=i
  ·subst e;exact hv
  ·have h':=lD h e
   refine hst _ _ (a6K hao hN hj hfu) (fun hfj=>?_) (hf j hj h')
   have f1:=vW hao hj hfj
   have f2:=vW hao hN hfu
   exact hx _ _ f1.2 f2.2 (a4S hao hj hN (fun e'=>e e'.symm) hfj hfu) f1.1 f2.1 (ha j hj h') hd
 ·by_cases e:j=i
  ·subst e;exact rW hl hd
  ·exact rW hl (ha j hj (lD h e))
 ·have e1:j≠i:=fun e=>by subst e;cases hk1:fk j<;>simp[hk1,FK.fQ,FK.isFull] at b1 hfu
  have e2:k≠i:=fun e=>by subst e;cases hk1:fk k<;>simp[hk1,FK.fQ,FK.isFull] at b2 hfu
  exact hx j k hj hk hne b1 b2 (lD h1 e1) (lD h2 e2)
end
theorem b1H {ops:Array Oper} {N:Nat} {sl:Nat->Option Nat} (h:ops.toList.map (·.dst)=(List.range N).map sl) {i:Nat} {o:Oper} (hi:i<N) (ho:ops[i]?=some o):o.dst=sl i:=by
 have h1:=congrArg (·[i]?) h
 simp only[List.getElem?_map,Array.getElem?_toList,ho,Option.map_some] at h1
 rw[List.getElem?_range hi] at h1
 simpa using h1
section
variable {R:World} {ops:Array Oper} {fk:Nat->FK} {al:Nat->Nat} {t:Nat->Value} {L:Array Bool} {i:Nat} {o:Oper} {a:Act} {w:World}
end
theorem getD_eq {α:Type} {l:List α} {i:Nat} {k d:α} (h:l[i]?=some k):i<l.length/\l.getD i d=k:=by
 obtain⟨h1,h2⟩:=List.getElem?_eq_some_iff.1 h
 exact⟨h1,by rw[List.getD_eq_getElem?_getD,h];rfl⟩
def QZ (ops:Array Oper) (n:Nat):Bool:=(List.range n).all fun j=>(List.range (n+1)).any fun k=>decide (j<k)&&match ops[k]? with
 | none=>false
 | some o=>o.after.toList.any fun e=>Region.binds .any e&&decide (e.on=j)
theorem a1p {ops:Array Oper} {n:Nat} (h:QZ ops n=true) {j:Nat} (hj:j<n):∃ k o,j<k/\k<=n/\ops[k]?=some o/\∃ e ∈ o.after,Region.binds .any e=true/\e.on=j:=by
 unfold QZ at h
 have h1:=(List.all_eq_true.1 h) j (List.mem_range.2 hj)
 obtain⟨k,hk,h2⟩:=List.any_eq_true.1 h1
 simp only[Bool.and_eq_true,decide_eq_true_eq] at h2
 obtain⟨h3,h4⟩:=h2
 cases ho:ops[k]? with
 | none=>rw[ho] at h4;simp at h4
 | some o =>
  rw[ho] at h4
  obtain⟨e,he,h5⟩:=List.any_eq_true.1 h4
  simp only[Bool.and_eq_true,decide_eq_true_eq] at h5
  have:=List.mem_range.1 hk
  exact⟨k,o,h3,by omega,ho,e,by simpa using he,h5.1,h5.2⟩
def Closed (ops:Array Oper) (L:Array Bool):Prop:=∀ j o,ops[j]?=some o->L.getD j false=true->∀ e ∈ o.after,Region.binds .any e=true->L.getD e.on false=true
theorem a6J {ops:Array Oper} {L:Array Bool} {n:Nat} (h:QZ ops n=true) (hc:Closed ops L) {o:Oper} (ho:ops[n]?=some o) (hd:∀ e ∈ o.after,Region.binds .any e=true->L.getD e.on false=true):∀ m j,n-j=m->j<n->L.getD j false=true:=by
 intro m
 induction m using Nat.strongRecOn with
 | _ m ih =>
  intro j hm hj
  obtain⟨k,o',h1,h2,h3,e,h4,h5,h6⟩:=a1p h hj
  rw[<-h6]
  by_cases hk:k=n
  ·subst hk
   rw[ho] at h3
   cases h3
   exact hd e h4 h5
  ·exact hc k o' h3 (ih (n-k) (by omega) k rfl (by omega)) e h4 h5
theorem Closed.set {ops:Array Oper} {L:Array Bool} {i:Nat} {o:Oper} (hc:Closed ops L) (ho:ops[i]?=some o) (hl:L.getD i true=false) (hd:∀ e ∈ o.after,Region.binds .any e=true->L.getD e.on false=true):Closed ops (L.setIfInBounds i true):=by
 intro j o' ho' hj e he hb
 by_cases e1:j=i
 ·subst e1
  rw[ho] at ho'
  cases ho'
  exact rW hl (hd e he hb)
 ·exact rW hl (hc j o' ho' (lD hj e1) e he hb)
def WR (ops:Array Oper) (N m:Nat):Bool:=(List.range m).all fun i=>decide (i<=N) || match ops[i]? with
 | none=>false
 | some o=>o.after.toList.any fun e=>Region.binds .any e&&decide (e.on+1=i)
theorem DY {ops:Array Oper} {N m:Nat} (h:WR ops N m=true) {i:Nat} {o:Oper} (hi:i<m) (hN:N<i) (ho:ops[i]?=some o):∃ e ∈ o.after,Region.binds .any e=true/\e.on+1=i:=by
 have h1:=(List.all_eq_true.1 h) i (List.mem_range.2 hi)
 rw[Bool.or_eq_true,ho] at h1
 rcases h1 with h1|h1
 ·simp at h1;omega
 ·obtain⟨e,he,h2⟩:=List.any_eq_true.1 h1
  simp only[Bool.and_eq_true,decide_eq_true_eq] at h2
  exact⟨e,by simpa using he,h2.1,h2.2⟩
theorem KT {P:Program} {ops:Array Oper} {Q:Exit->Act->World->Prop} {a:Act} {w:World} {k:Nat} {o:Oper} (ho:ops[k]?=some o) (h:wpList P ops Q (ops.toList.drop k) a w):wpOp P ops Q k (wpList P ops Q (ops.toList.drop (k+1))) a w:=by
 have hk:=(Array.getElem?_eq_some_iff.1 ho).1
 have h1:ops.toList.drop k=o::ops.toList.drop (k+1):=by
  rw[List.drop_eq_getElem_cons (by simpa using hk)]
  congr 1
  have:=(Array.getElem?_eq_some_iff.1 ho).2
  simpa using this
 rw[h1] at h
 unfold wpOp
 rw[ho]
 exact h
theorem a0U {P:Program} {id:Nat} {ops:Array Oper} {Q:Exit->Act->World->Prop} {a0:Act} {w0:World} (N m:Nat) (hm':ops.size=m) (hNm:N<m) (hm:P.follows .mixedOrders=true) (hd:lG .any ops=true) (R:World) (sl:Nat->Option Nat) (fk:Nat->FK) (al:Nat->Nat)
  (E:Act->Prop) (hdst:ops.toList.map (·.dst)=(List.range m).map sl) (hsl:FU sl m a0.tmps.size=true) (hao:xA fk al m=true) (hsu:QZ ops N=true) (hch:WR ops N m=true) (hR:Below R.heap.size R w0.drew)
  (hE:∀ A:Act,(∀ s,(∀ j,j<m->sl j≠some s)->A.eval (.tmp s)=a0.eval (.tmp s))->E A)
  (hlast:∀ t w,Below R.heap.size R w->(∀ j,j<N->(fk j).holds R (t (al j)) w)->wpList P ops Q (ops.toList.drop N) (fV sl t a0 m) w)
  (hstep:∀ t w L i o A,i<N->E A->(∀ j s,j<m->sl j=some s->A.eval (.tmp s)=t j)->Below R.heap.size R w->(∀ j,j<m->L.getD j false=true->(fk j).holds R (t (al j)) w)->ops[i]?=some o->(∀ e ∈ o.after,Region.binds .any e=true->L.getD e.on false=true)->a6E P R ops fk al t L i o A w) :
  (Code.region id ops true).wp P Q a0 w0:=by
 refine wp_region_any hm ?_
 refine a6x (fun L a w=>((∀ j,N<=j->L.getD j false=false)/\Closed ops L/\DU R m sl fk al a0 L a w)\/(∃ k,N<k/\k<=m/\L.size=m/\(∀ j,j<k->L.getD j false=true)/\(∀ j,k<=j->L.getD j false=false)/\wpList P ops Q (ops.toList.drop k) a w)) hd ?_ ?_ _ _ _ _ (by rw[DN];exact Nat.le_refl _) ?_
 ·rintro L a w (⟨h1,_,h2⟩|⟨k,_,hk,hL,_,h3,h⟩) hall
  ·have:=nM h2.1 (by omega) (hall N (by omega))
   rw[h1 N (Nat.le_refl _)] at this;cases this
  ·by_cases e:k=m
   ·subst e
    rw[List.drop_of_length_le (by simp;omega)] at h
    exact h
   ·have:=nM hL (by omega) (hall k (by omega))
    rw[h3 k (Nat.le_refl _)] at this;cases this
 ·rintro L a w i o (⟨hn,hc,hL,t,rfl,hB,hf,ha,hx⟩|⟨k,hNk,hkm,hL,hdone,a4a,hl9⟩) ho hl gY
  ·have hi:i<m:=by rw[<-hm'];exact(Array.getElem?_eq_some_iff.1 ho).1
   have hs:=(b1H hdst hi ho).symm
   rcases Nat.lt_trichotomy i N with hlt|rfl|hgt
   ·refine wpOp_mono (K:=DU R m sl fk al a0 (L.setIfInBounds i true)) (fun a' w' h=>.inl ⟨fun j hj=>by rw[gX (by omega)];exact hn j hj,hc.set ho hl gY,h⟩) ?_
    unfold wpOp
    rw[ho]
    cases hstep t w L i o (fV sl t a0 m) hlt (hE _ (fun s h=>ZW sl t a0 m h)) (fun j s hj hs=>a3S sl t a0 hs (qZ hsl hj hs).1 m hj (qZ hsl hj hs).2) hB hf ho gY with
    | val v hr hv hw hai hb =>
     simp only[hw,if_true]
     refine .inl ?_
     unfold Oper.wp
     rw[hr,Oper.upon_value]
     exact DU.value hi hsl hao hs hl hL hB hf ha hx (Below.refl _ _) hv hai (fun e=>by rw[hb] at e;cases e)
    | call f args hr hcl hw hai hb =>
     simp only[hw,if_true]
     refine .inl ?_
     unfold Oper.wp
     rw[hr,Oper.upon_enter]
     refine hcl.mono ?_
     rintro e w' ⟨v,rfl,hv,hbw⟩
     exact DU.value hi hsl hao hs hl hL hB hf ha hx hbw hv hai (fun e=>by rw[hb] at e;cases e)
    | make v ob hr hv hw hai hb =>
     simp only[hw,if_true]
     refine .inl ?_
     unfold Oper.wp
     rw[hr,Oper.upon_value]
     exact DU.value hi hsl hao hs hl hL hB hf ha hx ((Below.refl _ _).alloc (Nat.le_refl _) _) hv hai (fun e=>by rw[hb] at e;cases e)
    | no hw hv hai hb =>
     simp only[hw]
     exact DU.value hi hsl hao hs hl hL hB hf ha hx (Below.refl _ _) hv hai (fun e=>by rw[hb] at e;cases e)
    | alloc2 u0 u1 T hr h0 h1 hw hai hk =>
     simp only[hw,if_true]
     refine .inl ?_
     unfold Oper.wp
     rw[hr,Oper.upon_value]
     refine DU.value hi hsl hao hs hl hL hB hf ha hx ((Below.refl _ _).alloc (Nat.le_refl _) _) ?_ hai (fun _ B hlt e=>?_)
     ·rw[hk];exact⟨w.heap.size,u0,u1,rfl,hB.size,h0,h1,Bx.new w [u0,u1] T⟩
     ·simp only[Value.pointer.injEq,Option.some.injEq,Addr.mk.injEq] at e;omega
    | b1w u0 u1 u2 u3 T hr h0 h1 h2 h3 hw hai hk =>
     simp only[hw,if_true]
     refine .inl ?_
     unfold Oper.wp
     rw[hr,Oper.upon_value]
     refine DU.value hi hsl hao hs hl hL hB hf ha hx ((Below.refl _ _).alloc (Nat.le_refl _) _) ?_ hai (fun _ B hlt e=>?_)
     ·rw[hk];exact⟨w.heap.size,u0,u1,u2,u3,rfl,hB.size,h0,h1,h2,h3,Bx.new w [u0,u1,u2,u3] T⟩
     ·simp only[Value.pointer.injEq,Option.some.injEq,Addr.mk.injEq] at e;omega
    | store2 x hda hr hw hod hal hk hne =>
     simp only[hw,if_true]
     refine .inl ?_
     have haN:al i<m:=(vW hao hi (by rw[hk];rfl)).2
     have hbx:=hf (al i) haN hda
     rw[GR hao haN (by rw[hal];rfl),hal] at hbx
     obtain⟨B,u0,u1,hp,hBR,n0,n1,hq⟩:=hbx
     obtain⟨g,p,n,c,hr',hi'⟩:=hr B u0 u1 hp hq
     unfold Oper.wp
     rw[hr',Oper.upon_skip,hod]
     refine DU.stored hi hao hl hL hf ha hx hda (by rw[hk];rfl) (Below.aF hB (b:=B) hBR _ _) ?_ (fun k v hns hv hh=>FK.set2 hq n0 n1 rfl rfl hns (fun e=>by rw[<-hp];exact hv e) hh)
     rw[hk]
     exact⟨B,g,p,n,c,hp,hBR,hq.store2 _ _,bU.aF hi' hq n0 n1 _ _⟩
    | jS x hda hr hw hod hal hk hne =>
     simp only[hw,if_true]
     refine .inl ?_
     have haN:al i<m:=(vW hao hi (by rw[hk];rfl)).2
     have hbx:=hf (al i) haN hda
     rw[GR hao haN (by rw[hal];rfl),hal] at hbx
     obtain⟨B,u0,u1,u2,u3,hp,hBR,n0,n1,n2,n3,hq⟩:=hbx
     obtain⟨g,p,n,c,h,q,m,e,hr',hi'⟩:=hr B u0 u1 u2 u3 hp hq
     unfold Oper.wp
     rw[hr',Oper.upon_skip,hod]
     refine DU.stored hi hao hl hL hf ha hx hda (by rw[hk];rfl) (Below.aT hB (b:=B) hBR _ _ _ _) ?_ (fun k v hns hv hh=>FK.QX hq n0 n1 n2 n3 rfl rfl rfl rfl hns (fun e=>by rw[<-hp];exact hv e) hh)
     rw[hk]
     exact⟨B,g,p,n,c,h,q,m,e,hp,hBR,hq.jS _ _ _ _,RQ.aT hi' hq n0 n1 n2 n3 _ _ _ _⟩
   ·have hd':=a6J hsu hc ho gY
    have h1:=hlast t w hB (fun j hj=>hf j (by omega) (hd' _ j rfl hj))
    refine wpOp_mono (fun a' w' h=>.inr ⟨i+1,by omega,by omega,by simpa using hL,fun j hj=>?_,fun j hj=>?_,h⟩) (KT ho h1)
    ·by_cases e:j=i
     ·subst e;exact jI hl
     ·exact rW hl (hd' _ j rfl (by omega))
    ·rw[gX (by omega)];exact hn j (by omega)
   ·obtain⟨e,he,hb,h1⟩:=DY hch hi hgt ho
    have:=gY e he hb
    rw[hn e.on (by omega)] at this;cases this
  ·have hi:i<m:=by rw[<-hm'];exact(Array.getElem?_eq_some_iff.1 ho).1
   have hik:k<=i:=Nat.le_of_not_lt (fun h=>a0G hl (hdone i h))
   rcases Nat.lt_or_eq_of_le hik with hgt|rfl
   ·obtain⟨e,he,hb,h1⟩:=DY hch hi (by omega) ho
    have:=gY e he hb
    rw[a4a e.on (by omega)] at this;cases this
   ·refine wpOp_mono (fun a' w' h=>.inr ⟨k+1,by omega,by omega,by simpa using hL,fun j hj=>?_,fun j hj=>?_,h⟩) (KT ho hl9)
    ·by_cases e:j=k
     ·subst e;exact jI hl
     ·exact rW hl (hdone j (by omega))
    ·rw[gX (by omega)];exact a4a j (by omega)
 ·have h0:∀ j,(Array.replicate ops.size false).getD j false=false:=fun j=>yM _ j
  have hcl:Closed ops (Array.replicate ops.size false):=fun j o ho hj=>by rw[h0] at hj;cases hj
  refine .inl ⟨fun j _=>h0 j,hcl,by simp[hm'],_,(KF sl a0 m (fun i s hi hs=>(qZ hsl hi hs).1)).symm,hR,fun j hj h=>?_,fun j hj h=>?_,fun j k hj hk hne b1 b2 h1 h2=>?_⟩
  ·rw[h0] at h;cases h
  ·rw[h0] at h;cases h
  ·rw[h0] at h1;cases h1
theorem YB {P:Program} {id:Nat} {ops:Array Oper} {Q:Exit->Act->World->Prop} {a0:Act} {w0:World} (N m:Nat) (hm':ops.size=m) (hNm:N<m) (hm:P.follows .mixedOrders=true) (R:World) (sl:List (Option Nat)) (fk:List FK) (al:List Nat) (E:Act->Prop)
  (hd:lG .any ops=true) (hdst:ops.toList.map (·.dst)=(List.range m).map (fun j=>sl.getD j none)) (hlen:fk.length=m/\sl.length=m) (hsl:FU (fun j=>sl.getD j none) m a0.tmps.size=true) (hao:xA (fun j=>fk.getD j .any) (fun j=>al.getD j 0) m=true) (hsu:QZ ops N=true) (hch:WR ops N m=true)
  (hR:Below R.heap.size R w0.drew) (hE:∀ A:Act,(∀ s,(∀ j,j<m->sl.getD j none≠some s)->A.tmps[s]?.getD undef=a0.tmps[s]?.getD undef)->E A)
  (hend:∀ t w,Below R.heap.size R w->(∀ (i:Nat) {k:FK} {a:Nat},i<N->fk[i]?=some k->al[i]?=some a->k.holds R (t a) w)->wpList P ops Q (ops.toList.drop N) (fV (fun j=>sl.getD j none) t a0 m) w)
  (hstep:∀ t w L i o A,E A->(∀ (i:Nat) {s:Nat},sl[i]?=some (some s)->A.tmps[s]?.getD undef=t i)->Below R.heap.size R w->(∀ (i:Nat) {k:FK} {a:Nat},fk[i]?=some k->al[i]?=some a->L.getD i false=true->k.holds R (t a) w)->i<N->ops[i]?=some o->(∀ e ∈ o.after,Region.binds .any e=true->L.getD e.on false=true)->a6E P R ops (fun j=>fk.getD j .any) (fun j=>al.getD j 0) t L i o A w) :
  (Code.region id ops true).wp P Q a0 w0:=by
 refine a0U N m hm' hNm hm hd R (fun j=>sl.getD j none) (fun j=>fk.getD j .any) (fun j=>al.getD j 0) E hdst hsl hao hsu hch hR ?_ ?_ ?_
 ·intro A hA
  refine hE A (fun s h=>?_)
  have:=hA s h
  simp only[Act.eval,Array.getD_eq_getD_getElem?] at this
  exact this
 ·intro t w hb hf
  refine hend t w hb (fun i k a hi h1 h2=>?_)
  have h3:=getD_eq (d:=FK.any) h1
  have h4:=(getD_eq (d:=0) h2).2
  have:=hf i hi
  rw[h3.2,h4] at this
  exact this
 ·intro t w L i o A hi hEA hin hb hf ho gY
  refine hstep t w L i o A hEA (fun i s h=>?_) hb (fun i k a h1 h2 hl=>?_) hi ho gY
  ·have h3:=getD_eq (d:=none) h
   exact evq (hin i s (by rw[<-hlen.2];exact h3.1) h3.2)
  ·have h3:=getD_eq (d:=FK.any) h1
   have h4:=(getD_eq (d:=0) h2).2
   have:=hf i (by rw[<-hlen.1];exact h3.1) hl
   rw[h3.2,h4] at this
   exact this
def find (p:Nat->Bool):Nat->Nat->Nat
 | 0,k=>k
 | f+1,k=>if p k then k else find p f (k+1)
def pv (n:Nat) (e:Nat->Nat->Rat) (j:Nat):Nat:=find (fun k=>decide (e k j≠0)) (n-j) j
def swp (e:Nat->Nat->Rat) (a b:Nat):Nat->Nat->Rat:=fun r c=>if r=a then e b c else if r=b then e a c else e r c
def clr (e:Nat->Nat->Rat) (j:Nat):Nat->Nat->Rat:=fun r c=>if j<r/\j<=c then e r c-e r j / e j j*e j c else e r c
def pR (n:Nat):Nat->Nat->(Nat->Nat->Rat)->Rat->Rat
 | 0,_,_,d=>d
 | f+1,j,e,d=>if pv n e j=n then 0 else pR n f (j+1) (clr (swp e j (pv n e j)) j) ((if pv n e j=j then d else -d)*swp e j (pv n e j) j j)
def det (n:Nat) (e:Nat->Nat->Rat):Rat:=pR n n 0 e 1
theorem b6V (e:Nat->Nat->Rat):pv 3 e 0=if e 0 0≠0 then 0 else if e 1 0≠0 then 1 else if e 2 0≠0 then 2 else 3:=by
 simp[pv,find]
theorem b6W (e:Nat->Nat->Rat):pv 3 e 1=if e 1 1≠0 then 1 else if e 2 1≠0 then 2 else 3:=by
 simp[pv,find]
theorem b6X (e:Nat->Nat->Rat):pv 3 e 2=if e 2 2≠0 then 2 else 3:=by
 simp[pv,find]
theorem TM (e:Nat->Nat->Rat) (d:Rat):pR 3 1 2 e d=d*e 2 2:=by
 unfold pR pR
 rw[b6X]
 by_cases h:e 2 2=0
 ·simp[h]
 ·simp[h,swp]
theorem NM (e:Nat->Nat->Rat) (d:Rat):pR 3 2 1 e d=d*(e 1 1*e 2 2-e 1 2*e 2 1):=by
 unfold pR
 rw[b6W]
 by_cases h:e 1 1=0
 ·by_cases h2:e 2 1=0
  ·simp[h,h2]
   try grind
  ·simp only[h,h2,ne_eq,not_true_eq_false,not_false_eq_true,if_true,if_false]
   rw[if_neg (by omega),TM]
   simp[swp,clr,h]
   grind
 ·simp only[h,ne_eq,not_true_eq_false,not_false_eq_true,if_true,if_false]
  rw[if_neg (by omega),TM]
  simp[swp,clr]
  grind
theorem b1G (e:Nat->Nat->Rat):det 3 e=e 0 0*(e 1 1*e 2 2-e 1 2*e 2 1)+e 0 1*(e 1 2*e 2 0-e 1 0*e 2 2)+e 0 2*(e 1 0*e 2 1-e 1 1*e 2 0):=by
 unfold det pR
 rw[b6V]
 by_cases h:e 0 0=0
 ·by_cases h1:e 1 0=0
  ·by_cases h2:e 2 0=0
   ·simp[h,h1,h2]
    try grind
   ·simp only[h,h1,h2,ne_eq,not_true_eq_false,not_false_eq_true,if_true,if_false]
    rw[if_neg (by omega),NM]
    simp[swp,clr,h,h1]
    grind
  ·simp only[h,h1,ne_eq,not_true_eq_false,not_false_eq_true,if_true,if_false]
   rw[if_neg (by omega),NM]
   simp[swp,clr,h]
   grind
 ·simp only[h,ne_eq,not_true_eq_false,not_false_eq_true,if_true,if_false]
  rw[if_neg (by omega),NM]
  simp[swp,clr]
  grind
theorem a7q {p:Nat->Bool} {f k:Nat} (h:p k=true) (hf:0<f):find p f k=k:=by
 cases f with
 | zero=>omega
 | succ f=>unfold find;rw[if_pos h]
theorem a9I {p:Nat->Bool} {n k:Nat} (h:p k=false) (hk:k<n):find p (n-k) k=find p (n-(k+1)) (k+1):=by
 obtain⟨f,hf⟩:∃ f,n-k=f+1:=⟨n-k-1,by omega⟩
 rw[hf,show n-(k+1)=f by omega]
 conv=>lhs;unfold find
 rw[h];rfl
theorem a9g (e:Nat->Nat->Rat) (j:Nat):swp e j j=e:=by
 funext r c;unfold swp;by_cases h:r=j
 ·rw[if_pos h,h]
 ·rw[if_neg h,if_neg h]
def pO (e:Nat->Nat->Rat) (j i:Nat):Nat->Nat->Rat:=fun r c=>if j<r/\r<i/\j<=c then e r c-e r j / e j j*e j c else e r c
theorem ZP (e:Nat->Nat->Rat) (j:Nat):pO e j (j+1)=e:=by
 funext r c;unfold pO;rw[if_neg (by omega)]
theorem a5g (e:Nat->Nat->Rat) (j n r c:Nat) (hr:r<n):pO e j n r c=clr e j r c:=by
 unfold pO clr
 by_cases h:j<r/\j<=c
 ·rw[if_pos ⟨h.1,hr,h.2⟩,if_pos h]
 ·rw[if_neg (by omega),if_neg h]
theorem DZ (e:Nat->Nat->Rat) (j i c:Nat):pO e j i i c=e i c:=by unfold pO;rw[if_neg (by omega)]
theorem GX (e:Nat->Nat->Rat) (j i c:Nat):pO e j i j c=e j c:=by unfold pO;rw[if_neg (by omega)]
theorem a1T {e:Nat->Nat->Rat} {j i:Nat} (h:e i j=0):pO e j (i+1)=pO e j i:=by
 funext r c;unfold pO
 by_cases h1:r=i
 ·subst h1
  rw[if_neg (show ¬ (j<r/\r<r/\j<=c) by omega),h]
  split
  ·grind
  ·rfl
 ·by_cases h2:j<r/\r<i/\j<=c
  ·rw[if_pos h2,if_pos ⟨h2.1,by omega,h2.2.2⟩]
  ·rw[if_neg h2,if_neg (by omega)]
theorem a7m {n j:Nat} {e:Nat->Nat->Rat} {d:Rat} (hj:j<n) (h:pv n e j=n):pR n (n-j) j e d=0:=by
 obtain⟨f,hf⟩:∃ f,n-j=f+1:=⟨n-j-1,by omega⟩
 rw[hf];unfold pR;rw[if_pos h]
theorem TN {n j k:Nat} {e:Nat->Nat->Rat} {d:Rat} (hj:j<n) (hk:k<n) (h:pv n e j=k):pR n (n-j) j e d=pR n (n-(j+1)) (j+1) (clr (swp e j k) j) ((if k=j then d else -d)*swp e j k j j):=by
 obtain⟨f,hf⟩:∃ f,n-j=f+1:=⟨n-j-1,by omega⟩
 rw[hf,show n-(j+1)=f by omega]
 conv=>lhs;unfold pR
 rw[h,if_neg (by omega)]
theorem b0K {e:Nat->Nat->Rat} {n B:Nat} (h:∀ r c,r<n->c<n->rsz (e r c)<=B) {j k:Nat} (hj:j<n) (hk:k<n):∀ r c,r<n->c<n->rsz (swp e j k r c)<=B:=by
 intro r c hr hc
 unfold swp
 split
 ·exact h k c hk hc
 ·split
  ·exact h j c hj hc
  ·exact h r c hr hc
theorem b0I {e:Nat->Nat->Rat} {n B:Nat} (h:∀ r c,r<n->c<n->rsz (e r c)<=B) (hB:1<=B) {j:Nat} (hj:j<n) (hp:e j j≠0):∀ r c,r<n->c<n->rsz (clr e j r c)<=5*B:=by
 intro r c hr hc
 have a1:=h r c hr hc
 have a2:=h r j hr hj
 have a3:=h j j hj hj
 have a4:=h j c hj hc
 unfold clr
 split
 ·have b1:=a4H (e r j) (e j j) hp
  have b2:=fP (e r j / e j j) (e j c)
  have b3:=uG (e r c) (e r j / e j j*e j c)
  omega
 ·omega
end Go.Proofs.YtidfgdchcpmnfaaGreat
namespace Go.Proofs.YtidfgdchcpmnfaaGreat
open Go.RowKit
set_option linter.unusedSimpArgs false
set_option linter.unusedVariables false
set_option maxRecDepth 20000
theorem jW.congr {w:World} {base b R C K m:Nat} {rb:Nat->Nat} {e e':Nat->Nat->Rat} (h:jW w base b R C K m rb e) (he:∀ r c,r<m->c<C->e r c=e' r c):jW w base b R C K m rb e' :=
 ⟨h.outer,h.hb,fun i hi=>(h.rows i hi).congr (fun _ _=>rfl) (fun c hc=>he i c hi hc),h.hrb,h.inj⟩
theorem jW.box {w:World} {base b R C K m:Nat} {rb:Nat->Nat} {e:Nat->Nat->Rat} (h:jW w base b R C K m rb e) {D o:Nat} (h1:b≠D) (h2:∀ i,i<m->rb i≠D) {u:Value} (hc:w.cell? ⟨D,o,none⟩=some u) (hu:aS u=true) (x:Value):jW (w.setCell ⟨D,o,none⟩ x) base b R C K m rb e :=
 ⟨h.outer.setOther (by simpa using h1) x,h.hb,fun i hi=>(h.rows i hi).other (h2 i hi) hc hu x,h.hrb,h.inj⟩
theorem jW.WH {w:World} {base b R C K m:Nat} {rb:Nat->Nat} {e:Nat->Nat->Rat} (h:jW w base b R C K m rb e) {D:Nat} (h1:b≠D) (h2:∀ i,i<m->rb i≠D) {u0 u1 u2 u3:Value} (q:Bx w D [u0,u1,u2,u3])
  (n0:aS u0=true) (n1:aS u1=true) (n2:aS u2=true) (n3:aS u3=true) (x0 x1 x2 x3:Value) :
  jW ((((w.setCell ⟨D,0,none⟩ x0).setCell ⟨D,1,none⟩ x1).setCell ⟨D,2,none⟩ x2).setCell ⟨D,3,none⟩ x3) base b R C K m rb e:=by
 refine(((h.box h1 h2 q.c0 n0 x0).box h1 h2 (o:=1) (u:=u1) ?_ n1 x1).box h1 h2 (o:=2) (u:=u2) ?_ n2 x2).box h1 h2 (o:=3) (u:=u3) ?_ n3 x3
 ·rw[World.cell?_setCell_other _ _ _ _ (by simp)];exact q.c1
 ·rw[World.cell?_setCell_other _ _ _ _ (by simp),World.cell?_setCell_other _ _ _ _ (by simp)];exact q.c2
 ·rw[World.cell?_setCell_other _ _ _ _ (by simp),World.cell?_setCell_other _ _ _ _ (by simp),World.cell?_setCell_other _ _ _ _ (by simp)];exact q.c3
def hdr (C r:Nat):Value:=.slice (some ⟨r,0,none⟩) C C
theorem jW.swap {w w':World} {base b R C K:Nat} {rb:Nat->Nat} {e:Nat->Nat->Rat} (h:jW w base b R C K R rb e) {j k:Nat} (hj:j<R) (hk:k<R)
  (hw:w'=(w.setCell ⟨b,k,none⟩ (hdr C (rb j))).setCell ⟨b,j,none⟩ (hdr C (rb k))\/(j≠k/\w'=(w.setCell ⟨b,j,none⟩ (hdr C (rb k))).setCell ⟨b,k,none⟩ (hdr C (rb j)))) :
  jW w' base b R C K R (fun i=>if i=j then rb k else if i=k then rb j else rb i) (swp e j k):=by
 have hck:∀ i,i<R->w.cell? ⟨b,i,none⟩=some (hdr C (rb i)):=fun i hi=>by have:=h.outer.cell hi;rw[if_pos hi] at this;exact this
 have hrow:∀ i,i<R->jE w' (rb i) C K (fun _=>true) (e i):=fun i hi=>by
  rcases hw with rfl|⟨hne,rfl⟩
  ·refine((h.rows i hi).other (h.hrb i hi).2 (hck k hk) rfl _).other (h.hrb i hi).2 (u:=hdr C (rb j)) ?_ rfl _
   by_cases e1:j=k
   ·subst e1;simp[go_sem,hck j hj,h.outer.frozen j]
   ·rw[World.cell?_setCell_other _ _ _ _ (by simp;try omega)];exact hck j hj
  ·refine((h.rows i hi).other (h.hrb i hi).2 (hck j hj) rfl _).other (h.hrb i hi).2 (u:=hdr C (rb k)) ?_ rfl _
   rw[World.cell?_setCell_other _ _ _ _ (by simp;try omega)];exact hck k hk
 refine⟨?_,h.hb,fun i hi=>?_,fun i hi=>?_,fun x y hx hy=>?_⟩
 ·rcases hw with rfl|⟨hne,rfl⟩
  ·refine((h.outer.set k _).set j _).congr (fun i hi=>?_)
   simp only[hdr]
   by_cases e1:i=j
   ·subst e1;simp[hi]
   ·by_cases e2:i=k
    ·subst e2;simp[e1,hi]
    ·simp[e1,e2,hi]
  ·refine((h.outer.set j _).set k _).congr (fun i hi=>?_)
   simp only[hdr]
   by_cases e1:i=j
   ·subst e1;simp[hi,hne]
   ·by_cases e2:i=k
    ·subst e2;simp[e1,hi]
    ·simp[e1,e2,hi]
 ·have hsw:swp e j k i=if i=j then e k else if i=k then e j else e i:=by
   funext c;unfold swp;split<;>(try split)<;>rfl
  rw[hsw]
  by_cases e1:i=j
  ·rw[if_pos e1,if_pos e1];exact hrow k hk
  ·by_cases e2:i=k
   ·rw[if_neg e1,if_pos e2,if_neg e1,if_pos e2];exact hrow j hj
   ·rw[if_neg e1,if_neg e2,if_neg e1,if_neg e2];exact hrow i hi
 ·by_cases e1:i=j
  ·simpa [e1] using h.hrb k hk
  ·by_cases e2:i=k
   ·rw[if_neg e1,if_pos e2];exact h.hrb j hj
   ·rw[if_neg e1,if_neg e2];exact h.hrb i hi
 ·have:=h.inj
  intro e1
  have i1:=fun a ha=>h.inj x a hx ha
  split at e1<;>split at e1<;>(try split at e1)<;>(try split at e1)<;>first
   | omega
   | (have a1:=h.inj _ _ hk hk e1;omega)
   | (have a1:=h.inj _ _ hk hj e1;omega)
   | (have a1:=h.inj _ _ hj hk e1;omega)
   | (have a1:=h.inj _ _ hj hj e1;omega)
   | (have a1:=h.inj _ _ hk hy e1;omega)
   | (have a1:=h.inj _ _ hj hy e1;omega)
   | (have a1:=h.inj _ _ hx hk e1;omega)
   | (have a1:=h.inj _ _ hx hj e1;omega)
   | (have a1:=h.inj _ _ hx hy e1;omega)
theorem Bx.grown {w w':World} {b:Nat} {cs:List Value} (h:Bx w b cs) {g:Nat} (hne:b≠g) (hg:w.grownBy w' (some g)):Bx w' b cs:=by
 have e:=hg.block b h.1 (by simpa using hne)
 exact⟨Nat.lt_of_lt_of_le h.1 hg.size,fun i u hu=>⟨(World.cell?_of_block (w:=w) (a:=⟨b,i,none⟩) e).trans (h.2 i u hu).1,(World.frozen?_of_block (w:=w) (a:=⟨b,i,none⟩) e).trans (h.2 i u hu).2⟩⟩
theorem jW.hd {w:World} {base b R C K:Nat} {rb:Nat->Nat} {e:Nat->Nat->Rat} (h:jW w base b R C K R rb e) {i:Nat} (hi:i<R):w.cell? ⟨b,i,none⟩=some (.slice (some ⟨rb i,0,none⟩) C C)/\rb i<w.heap.size:=by
 have:=h.outer.cell hi
 rw[if_pos hi] at this
 exact⟨this,(h.rows i hi).lt⟩
end Go.Proofs.YtidfgdchcpmnfaaGreat
