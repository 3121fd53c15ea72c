/-
  Lemmas for the theorem vcayley_holds, part 22 of 33.
-/
import Derived.Test.YtidfgdchcpmnfaaGreatCy05
import Derived.Test.YtidfgdchcpmnfaaGreatCy06
import Derived.Test.YtidfgdchcpmnfaaGreatCy11
import Derived.Test.YtidfgdchcpmnfaaGreatCy21
namespace Go.Proofs.YtidfgdchcpmnfaaGreat
open Go Go.RowKit
set_option linter.unusedSimpArgs false
set_option linter.unusedVariables false
set_option maxRecDepth 20000
def QI (ops:Array Oper) (n:Nat):Bool:=(List.range n).all fun j=>(List.range (n+1)).any fun k=>decide (j < k) && match ops[k]? with
 | none=>false
 | some o=>o.after.toList.any fun e=>Region.binds .any e && decide (e.on=j)
theorem a1a {ops:Array Oper} {n:Nat} (h:QI ops n=true) {j:Nat} (hj:j < n):∃ k o,j < k∧k≤n∧ops[k]?=some o∧∃ e ∈ o.after,Region.binds .any e=true∧e.on=j:=by
 unfold QI at h
 have h1:=(List.all_eq_true.1 h) j (List.mem_range.2 hj)
 obtain ⟨k,hk,h2⟩:=List.any_eq_true.1 h1
 simp only [Bool.and_eq_true,decide_eq_true_eq] at h2
 obtain ⟨h3,h4⟩:=h2
 cases ho:ops[k]? with
 | none=>rw [ho] at h4;simp at h4
 | some o =>
  rw [ho] at h4
  obtain ⟨e,he,h5⟩:=List.any_eq_true.1 h4
  simp only [Bool.and_eq_true,decide_eq_true_eq] at h5
  have:=List.mem_range.1 hk
  exact ⟨k,o,h3,by omega,ho,e,by simpa using he,h5.1,h5.2⟩
def Closed (ops:Array Oper) (L:Array Bool):Prop:=∀ j o,ops[j]?=some o→L.getD j false=true→∀ e ∈ o.after,Region.binds .any e=true→L.getD e.on false=true
theorem a6r {ops:Array Oper} {L:Array Bool} {n:Nat} (h:QI ops n=true) (hc:Closed ops L) {o:Oper} (ho:ops[n]?=some o) (hd:∀ e ∈ o.after,Region.binds .any e=true→L.getD e.on false=true):∀ m j,n - j=m→j < n→L.getD j false=true:=by
 intro m
 induction m using Nat.strongRecOn with
 | _ m ih =>
  intro j hm hj
  obtain ⟨k,o',h1,h2,h3,e,h4,h5,h6⟩:=a1a h hj
  rw [← h6]
  by_cases hk:k=n
  ·subst hk
   rw [ho] at h3
   cases h3
   exact hd e h4 h5
  ·exact hc k o' h3 (ih (n - k) (by omega) k rfl (by omega)) e h4 h5
theorem Closed.set {ops:Array Oper} {L:Array Bool} {i:Nat} {o:Oper} (hc:Closed ops L) (ho:ops[i]?=some o) (hl:L.getD i true=false) (hd:∀ e ∈ o.after,Region.binds .any e=true→L.getD e.on false=true):Closed ops (L.setIfInBounds i true):=by
 intro j o' ho' hj e he hb
 by_cases e1:j=i
 ·subst e1
  rw [ho] at ho'
  cases ho'
  exact rO hl (hd e he hb)
 ·exact rO hl (hc j o' ho' (kW hj e1) e he hb)
def WB (ops:Array Oper) (N m:Nat):Bool:=(List.range m).all fun i=>decide (i≤N) || match ops[i]? with
 | none=>false
 | some o=>o.after.toList.any fun e=>Region.binds .any e && decide (e.on+1=i)
theorem DR {ops:Array Oper} {N m:Nat} (h:WB ops N m=true) {i:Nat} {o:Oper} (hi:i < m) (hN:N < i) (ho:ops[i]?=some o):∃ e ∈ o.after,Region.binds .any e=true∧e.on+1=i:=by
 have h1:=(List.all_eq_true.1 h) i (List.mem_range.2 hi)
 rw [Bool.or_eq_true,ho] at h1
 rcases h1 with h1 | h1
 ·simp at h1;omega
 ·obtain ⟨e,he,h2⟩:=List.any_eq_true.1 h1
  simp only [Bool.and_eq_true,decide_eq_true_eq] at h2
  exact ⟨e,by simpa using he,h2.1,h2.2⟩
theorem KH {P:Program} {ops:Array Oper} {Q:Exit→Act→World→Prop} {a:Act} {w:World} {k:Nat} {o:Oper} (ho:ops[k]?=some o) (h:wpList P ops Q (ops.toList.drop k) a w):wpOp P ops Q k (wpList P ops Q (ops.toList.drop (k+1))) a w:=by
 have hk:=(Array.getElem?_eq_some_iff.1 ho).1
 have h1:ops.toList.drop k=o :: ops.toList.drop (k+1):=by
  rw [List.drop_eq_getElem_cons (by simpa using hk)]
  congr 1
  have:=(Array.getElem?_eq_some_iff.1 ho).2
  simpa using this
 rw [h1] at h
 unfold wpOp
 rw [ho]
 exact h
theorem a0H {P:Program} {id:Nat} {ops:Array Oper} {Q:Exit→Act→World→Prop} {a0:Act} {w0:World} (N m:Nat) (hm':ops.size=m) (hNm:N < m) (hm:P.follows .mixedOrders=true) (hd:kY .any ops=true) (R:World) (sl:Nat→Option Nat) (fk:Nat→FK) (al:Nat→Nat)
  (E:Act→Prop) (hdst:ops.toList.map (·.dst)=(List.range m).map sl) (hsl:FH sl m a0.tmps.size=true) (hao:wW fk al m=true) (hsu:QI ops N=true) (hch:WB ops N m=true) (hR:Below R.heap.size R w0.drew)
  (hE:∀ A:Act,(∀ s,(∀ j,j < m→sl j ≠ some s)→A.eval (.tmp s)=a0.eval (.tmp s))→E A)
  (hlast:∀ t w,Below R.heap.size R w→(∀ j,j < N→(fk j).holds R (t (al j)) w)→wpList P ops Q (ops.toList.drop N) (fQ sl t a0 m) w)
  (hstep:∀ t w L i o A,i < N→E A→(∀ j s,j < m→sl j=some s→A.eval (.tmp s)=t j)→Below R.heap.size R w→(∀ j,j < m→L.getD j false=true→(fk j).holds R (t (al j)) w)→ops[i]?=some o→(∀ e ∈ o.after,Region.binds .any e=true→L.getD e.on false=true)→a6m P R ops fk al t L i o A w) :
  (Code.region id ops true).wp P Q a0 w0:=by
 refine wp_region_any hm ?_
 refine a6f (fun L a w=>((∀ j,N≤j→L.getD j false=false)∧Closed ops L∧DJ R m sl fk al a0 L a w) ∨ (∃ k,N < k∧k≤m∧L.size=m∧(∀ j,j < k→L.getD j false=true)∧(∀ j,k≤j→L.getD j false=false)∧wpList P ops Q (ops.toList.drop k) a w)) hd ?_ ?_ _ _ _ _ (by rw [DC];exact Nat.le_refl _) ?_
 ·rintro L a w (⟨h1,_,h2⟩ | ⟨k,_,hk,hL,_,h3,h⟩) hall
  ·have:=nK h2.1 (by omega) (hall N (by omega))
   rw [h1 N (Nat.le_refl _)] at this;cases this
  ·by_cases e:k=m
   ·subst e
    rw [List.drop_of_length_le (by simp;omega)] at h
    exact h
   ·have:=nK hL (by omega) (hall k (by omega))
    rw [h3 k (Nat.le_refl _)] at this;cases this
 ·rintro L a w i o (⟨hn,hc,hL,t,rfl,hB,hf,ha,hx⟩ | ⟨k,hNk,hkm,hL,hdone,a3I,hl9⟩) ho hl gU
  ·have hi:i < m:=by rw [← hm'];exact (Array.getElem?_eq_some_iff.1 ho).1
   have hs:=(b1o hdst hi ho).symm
   rcases Nat.lt_trichotomy i N with hlt | rfl | hgt
   ·refine wpOp_mono (K:=DJ R m sl fk al a0 (L.setIfInBounds i true)) (fun a' w' h=>.inl ⟨fun j hj=>by rw [gQ (by omega)];exact hn j hj,hc.set ho hl gU,h⟩) ?_
    unfold wpOp
    rw [ho]
    cases hstep t w L i o (fQ sl t a0 m) hlt (hE _ (fun s h=>ZI sl t a0 m h)) (fun j s hj hs=>a3B sl t a0 hs (qV hsl hj hs).1 m hj (qV hsl hj hs).2) hB hf ho gU with
    | val v hr hv hw hai hb =>
     simp only [hw,if_true]
     refine .inl ?_
     unfold Oper.wp
     rw [hr,Oper.upon_value]
     exact DJ.value hi hsl hao hs hl hL hB hf ha hx (Below.refl _ _) hv hai (fun e=>by rw [hb] at e;cases e)
    | call f args hr hcl hw hai hb =>
     simp only [hw,if_true]
     refine .inl ?_
     unfold Oper.wp
     rw [hr,Oper.upon_enter]
     refine hcl.mono ?_
     rintro e w' ⟨v,rfl,hv,hbw⟩
     exact DJ.value hi hsl hao hs hl hL hB hf ha hx hbw hv hai (fun e=>by rw [hb] at e;cases e)
    | make v ob hr hv hw hai hb =>
     simp only [hw,if_true]
     refine .inl ?_
     unfold Oper.wp
     rw [hr,Oper.upon_value]
     exact DJ.value hi hsl hao hs hl hL hB hf ha hx ((Below.refl _ _).alloc (Nat.le_refl _) _) hv hai (fun e=>by rw [hb] at e;cases e)
    | no hw hv hai hb =>
     simp only [hw]
     exact DJ.value hi hsl hao hs hl hL hB hf ha hx (Below.refl _ _) hv hai (fun e=>by rw [hb] at e;cases e)
    | alloc2 u0 u1 T hr h0 h1 hw hai hk =>
     simp only [hw,if_true]
     refine .inl ?_
     unfold Oper.wp
     rw [hr,Oper.upon_value]
     refine DJ.value hi hsl hao hs hl hL hB hf ha hx ((Below.refl _ _).alloc (Nat.le_refl _) _) ?_ hai (fun _ B hlt e=>?_)
     ·rw [hk];exact ⟨w.heap.size,u0,u1,rfl,hB.size,h0,h1,Bx.new w [u0,u1] T⟩
     ·simp only [Value.pointer.injEq,Option.some.injEq,Addr.mk.injEq] at e;omega
    | b1f u0 u1 u2 u3 T hr h0 h1 h2 h3 hw hai hk =>
     simp only [hw,if_true]
     refine .inl ?_
     unfold Oper.wp
     rw [hr,Oper.upon_value]
     refine DJ.value hi hsl hao hs hl hL hB hf ha hx ((Below.refl _ _).alloc (Nat.le_refl _) _) ?_ hai (fun _ B hlt e=>?_)
     ·rw [hk];exact ⟨w.heap.size,u0,u1,u2,u3,rfl,hB.size,h0,h1,h2,h3,Bx.new w [u0,u1,u2,u3] T⟩
     ·simp only [Value.pointer.injEq,Option.some.injEq,Addr.mk.injEq] at e;omega
    | store2 x hda hr hw hod hal hk hne =>
     simp only [hw,if_true]
     refine .inl ?_
     have haN:al i < m:=(vO hao hi (by rw [hk];rfl)).2
     have hbx:=hf (al i) haN hda
     rw [FX hao haN (by rw [hal];rfl),hal] at hbx
     obtain ⟨B,u0,u1,hp,hBR,n0,n1,hq⟩:=hbx
     obtain ⟨g,p,n,c,hr',hi'⟩:=hr B u0 u1 hp hq
     unfold Oper.wp
     rw [hr',Oper.upon_skip,hod]
     refine DJ.stored hi hao hl hL hf ha hx hda (by rw [hk];rfl) (Below.aC hB (b:=B) hBR _ _) ?_ (fun k v hns hv hh=>FK.set2 hq n0 n1 rfl rfl hns (fun e=>by rw [← hp];exact hv e) hh)
     rw [hk]
     exact ⟨B,g,p,n,c,hp,hBR,hq.store2 _ _,bU.aC hi' hq n0 n1 _ _⟩
    | jM x hda hr hw hod hal hk hne =>
     simp only [hw,if_true]
     refine .inl ?_
     have haN:al i < m:=(vO hao hi (by rw [hk];rfl)).2
     have hbx:=hf (al i) haN hda
     rw [FX hao haN (by rw [hal];rfl),hal] at hbx
     obtain ⟨B,u0,u1,u2,u3,hp,hBR,n0,n1,n2,n3,hq⟩:=hbx
     obtain ⟨g,p,n,c,h,q,m,e,hr',hi'⟩:=hr B u0 u1 u2 u3 hp hq
     unfold Oper.wp
     rw [hr',Oper.upon_skip,hod]
     refine DJ.stored hi hao hl hL hf ha hx hda (by rw [hk];rfl) (Below.aQ hB (b:=B) hBR _ _ _ _) ?_ (fun k v hns hv hh=>FK.QG hq n0 n1 n2 n3 rfl rfl rfl rfl hns (fun e=>by rw [← hp];exact hv e) hh)
     rw [hk]
     exact ⟨B,g,p,n,c,h,q,m,e,hp,hBR,hq.jM _ _ _ _,RQ.aQ hi' hq n0 n1 n2 n3 _ _ _ _⟩
   ·have hd':=a6r hsu hc ho gU
    have h1:=hlast t w hB (fun j hj=>hf j (by omega) (hd' _ j rfl hj))
    refine wpOp_mono (fun a' w' h=>.inr ⟨i+1,by omega,by omega,by simpa using hL,fun j hj=>?_,fun j hj=>?_,h⟩) (KH ho h1)
    ·by_cases e:j=i
     ·subst e;exact jD hl
     ·exact rO hl (hd' _ j rfl (by omega))
    ·rw [gQ (by omega)];exact hn j (by omega)
   ·obtain ⟨e,he,hb,h1⟩:=DR hch hi hgt ho
    have:=gU e he hb
    rw [hn e.on (by omega)] at this;cases this
  ·have hi:i < m:=by rw [← hm'];exact (Array.getElem?_eq_some_iff.1 ho).1
   have hik:k≤i:=Nat.le_of_not_lt (fun h=>a0t hl (hdone i h))
   rcases Nat.lt_or_eq_of_le hik with hgt | rfl
   ·obtain ⟨e,he,hb,h1⟩:=DR hch hi (by omega) ho
    have:=gU e he hb
    rw [a3I e.on (by omega)] at this;cases this
   ·refine wpOp_mono (fun a' w' h=>.inr ⟨k+1,by omega,by omega,by simpa using hL,fun j hj=>?_,fun j hj=>?_,h⟩) (KH ho hl9)
    ·by_cases e:j=k
     ·subst e;exact jD hl
     ·exact rO hl (hdone j (by omega))
    ·rw [gQ (by omega)];exact a3I j (by omega)
 ·have h0:∀ j,(Array.replicate ops.size false).getD j false=false:=fun j=>yG _ j
  have hcl:Closed ops (Array.replicate ops.size false):=fun j o ho hj=>by rw [h0] at hj;cases hj
  refine .inl ⟨fun j _=>h0 j,hcl,by simp [hm'],_,(JU sl a0 m (fun i s hi hs=>(qV hsl hi hs).1)).symm,hR,fun j hj h=>?_,fun j hj h=>?_,fun j k hj hk hne b1 b2 h1 h2=>?_⟩
  ·rw [h0] at h;cases h
  ·rw [h0] at h;cases h
  ·rw [h0] at h1;cases h1
theorem XM {P:Program} {id:Nat} {ops:Array Oper} {Q:Exit→Act→World→Prop} {a0:Act} {w0:World} (N m:Nat) (hm':ops.size=m) (hNm:N < m) (hm:P.follows .mixedOrders=true) (R:World) (sl:List (Option Nat)) (fk:List FK) (al:List Nat) (E:Act→Prop)
  (hd:kY .any ops=true) (hdst:ops.toList.map (·.dst)=(List.range m).map (fun j=>sl.getD j none)) (hlen:fk.length=m∧sl.length=m) (hsl:FH (fun j=>sl.getD j none) m a0.tmps.size=true) (hao:wW (fun j=>fk.getD j .any) (fun j=>al.getD j 0) m=true) (hsu:QI ops N=true) (hch:WB ops N m=true)
  (hR:Below R.heap.size R w0.drew) (hE:∀ A:Act,(∀ s,(∀ j,j < m→sl.getD j none ≠ some s)→A.tmps[s]?.getD undef=a0.tmps[s]?.getD undef)→E A)
  (hend:∀ t w,Below R.heap.size R w→(∀ (i:Nat) {k:FK} {a:Nat},i < N→fk[i]?=some k→al[i]?=some a→k.holds R (t a) w)→wpList P ops Q (ops.toList.drop N) (fQ (fun j=>sl.getD j none) t a0 m) w)
  (hstep:∀ t w L i o A,E A→(∀ (i:Nat) {s:Nat},sl[i]?=some (some s)→A.tmps[s]?.getD undef=t i)→Below R.heap.size R w→(∀ (i:Nat) {k:FK} {a:Nat},fk[i]?=some k→al[i]?=some a→L.getD i false=true→k.holds R (t a) w)→i < N→ops[i]?=some o→(∀ e ∈ o.after,Region.binds .any e=true→L.getD e.on false=true)→a6m P R ops (fun j=>fk.getD j .any) (fun j=>al.getD j 0) t L i o A w) :
  (Code.region id ops true).wp P Q a0 w0:=by
 refine a0H N m hm' hNm hm hd R (fun j=>sl.getD j none) (fun j=>fk.getD j .any) (fun j=>al.getD j 0) E hdst hsl hao hsu hch hR ?_ ?_ ?_
 ·intro A hA
  refine hE A (fun s h=>?_)
  have:=hA s h
  simp only [Act.eval,Array.getD_eq_getD_getElem?] at this
  exact this
 ·intro t w hb hf
  refine hend t w hb (fun i k a hi h1 h2=>?_)
  have h3:=getD_eq (d:=FK.any) h1
  have h4:=(getD_eq (d:=0) h2).2
  have:=hf i hi
  rw [h3.2,h4] at this
  exact this
 ·intro t w L i o A hi hEA hin hb hf ho gU
  refine hstep t w L i o A hEA (fun i s h=>?_) hb (fun i k a h1 h2 hl=>?_) hi ho gU
  ·have h3:=getD_eq (d:=none) h
   exact evq (hin i s (by rw [← hlen.2];exact h3.1) h3.2)
  ·have h3:=getD_eq (d:=FK.any) h1
   have h4:=(getD_eq (d:=0) h2).2
   have:=hf i (by rw [← hlen.1];exact h3.1) hl
   rw [h3.2,h4] at this
   exact this
end Go.Proofs.YtidfgdchcpmnfaaGreat
namespace Go.Proofs.YtidfgdchcpmnfaaGreat
set_option linter.unusedSimpArgs false
set_option linter.unusedVariables false
def find (p:Nat→Bool):Nat→Nat→Nat
 | 0,k=>k
 | f+1,k=>if p k then k else find p f (k+1)
def pv (n:Nat) (e:Nat→Nat→Rat) (j:Nat):Nat:=find (fun k=>decide (e k j ≠ 0)) (n - j) j
def swp (e:Nat→Nat→Rat) (a b:Nat):Nat→Nat→Rat:=fun r c=>if r=a then e b c else if r=b then e a c else e r c
def clr (e:Nat→Nat→Rat) (j:Nat):Nat→Nat→Rat:=fun r c=>if j < r∧j≤c then e r c - e r j / e j j * e j c else e r c
def pK (n:Nat):Nat→Nat→(Nat→Nat→Rat)→Rat→Rat
 | 0,_,_,d=>d
 | f+1,j,e,d=>if pv n e j=n then 0 else pK n f (j+1) (clr (swp e j (pv n e j)) j) ((if pv n e j=j then d else -d) * swp e j (pv n e j) j j)
def det (n:Nat) (e:Nat→Nat→Rat):Rat:=pK n n 0 e 1
theorem b6B (e:Nat→Nat→Rat):pv 3 e 0=if e 0 0 ≠ 0 then 0 else if e 1 0 ≠ 0 then 1 else if e 2 0 ≠ 0 then 2 else 3:=by
 simp [pv,find]
theorem b6C (e:Nat→Nat→Rat):pv 3 e 1=if e 1 1 ≠ 0 then 1 else if e 2 1 ≠ 0 then 2 else 3:=by
 simp [pv,find]
theorem b6D (e:Nat→Nat→Rat):pv 3 e 2=if e 2 2 ≠ 0 then 2 else 3:=by
 simp [pv,find]
theorem SX (e:Nat→Nat→Rat) (d:Rat):pK 3 1 2 e d=d * e 2 2:=by
 unfold pK pK
 rw [b6D]
 by_cases h:e 2 2=0
 ·simp [h]
 ·simp [h,swp]
theorem MZ (e:Nat→Nat→Rat) (d:Rat):pK 3 2 1 e d=d * (e 1 1 * e 2 2 - e 1 2 * e 2 1):=by
 unfold pK
 rw [b6C]
 by_cases h:e 1 1=0
 ·by_cases h2:e 2 1=0
  ·simp [h,h2]
   try grind
  ·simp only [h,h2,ne_eq,not_true_eq_false,not_false_eq_true,if_true,if_false]
   rw [if_neg (by omega),SX]
   simp [swp,clr,h]
   grind
 ·simp only [h,ne_eq,not_true_eq_false,not_false_eq_true,if_true,if_false]
  rw [if_neg (by omega),SX]
  simp [swp,clr]
  grind
theorem b7a (e:Nat→Nat→Rat):det 3 e=e 0 0 * (e 1 1 * e 2 2 - e 1 2 * e 2 1)+e 0 1 * (e 1 2 * e 2 0 - e 1 0 * e 2 2)+e 0 2 * (e 1 0 * e 2 1 - e 1 1 * e 2 0):=by
 unfold det pK
 rw [b6B]
 by_cases h:e 0 0=0
 ·by_cases h1:e 1 0=0
  ·by_cases h2:e 2 0=0
   ·simp [h,h1,h2]
    try grind
   ·simp only [h,h1,h2,ne_eq,not_true_eq_false,not_false_eq_true,if_true,if_false]
    rw [if_neg (by omega),MZ]
    simp [swp,clr,h,h1]
    grind
  ·simp only [h,h1,ne_eq,not_true_eq_false,not_false_eq_true,if_true,if_false]
   rw [if_neg (by omega),MZ]
   simp [swp,clr,h]
   grind
 ·simp only [h,ne_eq,not_true_eq_false,not_false_eq_true,if_true,if_false]
  rw [if_neg (by omega),MZ]
  simp [swp,clr]
  grind
theorem a6Z {p:Nat→Bool} {f k:Nat} (h:p k=true) (hf:0 < f):find p f k=k:=by
 cases f with
 | zero=>omega
 | succ f=>unfold find;rw [if_pos h]
theorem a9r {p:Nat→Bool} {n k:Nat} (h:p k=false) (hk:k < n):find p (n - k) k=find p (n - (k+1)) (k+1):=by
 obtain ⟨f,hf⟩:∃ f,n - k=f+1:=⟨n - k - 1,by omega⟩
 rw [hf,show n - (k+1)=f by omega]
 conv=>lhs;unfold find
 rw [h];rfl
theorem a8N (e:Nat→Nat→Rat) (j:Nat):swp e j j=e:=by
 funext r c;unfold swp;by_cases h:r=j
 ·rw [if_pos h,h]
 ·rw [if_neg h,if_neg h]
def pJ (e:Nat→Nat→Rat) (j i:Nat):Nat→Nat→Rat:=fun r c=>if j < r∧r < i∧j≤c then e r c - e r j / e j j * e j c else e r c
theorem ZB (e:Nat→Nat→Rat) (j:Nat):pJ e j (j+1)=e:=by
 funext r c;unfold pJ;rw [if_neg (by omega)]
theorem a4O (e:Nat→Nat→Rat) (j n r c:Nat) (hr:r < n):pJ e j n r c=clr e j r c:=by
 unfold pJ clr
 by_cases h:j < r∧j≤c
 ·rw [if_pos ⟨h.1,hr,h.2⟩,if_pos h]
 ·rw [if_neg (by omega),if_neg h]
theorem DT (e:Nat→Nat→Rat) (j i c:Nat):pJ e j i i c=e i c:=by unfold pJ;rw [if_neg (by omega)]
theorem FZ (e:Nat→Nat→Rat) (j i c:Nat):pJ e j i j c=e j c:=by unfold pJ;rw [if_neg (by omega)]
theorem a1D {e:Nat→Nat→Rat} {j i:Nat} (h:e i j=0):pJ e j (i+1)=pJ e j i:=by
 funext r c;unfold pJ
 by_cases h1:r=i
 ·subst h1
  rw [if_neg (show ¬ (j < r∧r < r∧j≤c) by omega),h]
  split
  ·grind
  ·rfl
 ·by_cases h2:j < r∧r < i∧j≤c
  ·rw [if_pos h2,if_pos ⟨h2.1,by omega,h2.2.2⟩]
  ·rw [if_neg h2,if_neg (by omega)]
theorem a6V {n j:Nat} {e:Nat→Nat→Rat} {d:Rat} (hj:j < n) (h:pv n e j=n):pK n (n - j) j e d=0:=by
 obtain ⟨f,hf⟩:∃ f,n - j=f+1:=⟨n - j - 1,by omega⟩
 rw [hf];unfold pK;rw [if_pos h]
theorem SY {n j k:Nat} {e:Nat→Nat→Rat} {d:Rat} (hj:j < n) (hk:k < n) (h:pv n e j=k):pK n (n - j) j e d=pK n (n - (j+1)) (j+1) (clr (swp e j k) j) ((if k=j then d else -d) * swp e j k j j):=by
 obtain ⟨f,hf⟩:∃ f,n - j=f+1:=⟨n - j - 1,by omega⟩
 rw [hf,show n - (j+1)=f by omega]
 conv=>lhs;unfold pK
 rw [h,if_neg (by omega)]
theorem b0t {e:Nat→Nat→Rat} {n B:Nat} (h:∀ r c,r < n→c < n→rsz (e r c)≤B) {j k:Nat} (hj:j < n) (hk:k < n):∀ r c,r < n→c < n→rsz (swp e j k r c)≤B:=by
 intro r c hr hc
 unfold swp
 split
 ·exact h k c hk hc
 ·split
  ·exact h j c hj hc
  ·exact h r c hr hc
theorem b0r {e:Nat→Nat→Rat} {n B:Nat} (h:∀ r c,r < n→c < n→rsz (e r c)≤B) (hB:1≤B) {j:Nat} (hj:j < n) (hp:e j j ≠ 0):∀ r c,r < n→c < n→rsz (clr e j r c)≤5 * B:=by
 intro r c hr hc
 have a1:=h r c hr hc
 have a2:=h r j hr hj
 have a3:=h j j hj hj
 have a4:=h j c hj hc
 unfold clr
 split
 ·have b1:=a4p (e r j) (e j j) hp
  have b2:=iW (e r j / e j j) (e j c)
  have b3:=wI (e r c) (e r j / e j j * e j c)
  omega
 ·omega
end Go.Proofs.YtidfgdchcpmnfaaGreat
namespace Go.Proofs.YtidfgdchcpmnfaaGreat
open Go.RowKit
set_option linter.unusedSimpArgs false
set_option linter.unusedVariables false
set_option maxRecDepth 20000
theorem jQ.congr {w:World} {base b R C K m:Nat} {rb:Nat→Nat} {e e':Nat→Nat→Rat} (h:jQ w base b R C K m rb e) (he:∀ r c,r < m→c < C→e r c=e' r c):jQ w base b R C K m rb e' :=
 ⟨h.outer,h.hb,fun i hi=>(h.rows i hi).congr (fun _ _=>rfl) (fun c hc=>he i c hi hc),h.hrb,h.inj⟩
theorem jQ.box {w:World} {base b R C K m:Nat} {rb:Nat→Nat} {e:Nat→Nat→Rat} (h:jQ w base b R C K m rb e) {D o:Nat} (h1:b ≠ D) (h2:∀ i,i < m→rb i ≠ D) {u:Value} (hc:w.cell? ⟨D,o,none⟩=some u) (hu:aP u=true) (x:Value):jQ (w.setCell ⟨D,o,none⟩ x) base b R C K m rb e :=
 ⟨h.outer.setOther (by simpa using h1) x,h.hb,fun i hi=>(h.rows i hi).other (h2 i hi) hc hu x,h.hrb,h.inj⟩
theorem jQ.VT {w:World} {base b R C K m:Nat} {rb:Nat→Nat} {e:Nat→Nat→Rat} (h:jQ w base b R C K m rb e) {D:Nat} (h1:b ≠ D) (h2:∀ i,i < m→rb i ≠ D) {u0 u1 u2 u3:Value} (q:Bx w D [u0,u1,u2,u3])
  (n0:aP u0=true) (n1:aP u1=true) (n2:aP u2=true) (n3:aP u3=true) (x0 x1 x2 x3:Value) :
  jQ ((((w.setCell ⟨D,0,none⟩ x0).setCell ⟨D,1,none⟩ x1).setCell ⟨D,2,none⟩ x2).setCell ⟨D,3,none⟩ x3) base b R C K m rb e:=by
 refine (((h.box h1 h2 q.c0 n0 x0).box h1 h2 (o:=1) (u:=u1) ?_ n1 x1).box h1 h2 (o:=2) (u:=u2) ?_ n2 x2).box h1 h2 (o:=3) (u:=u3) ?_ n3 x3
 ·rw [World.cell?_setCell_other _ _ _ _ (by simp)];exact q.c1
 ·rw [World.cell?_setCell_other _ _ _ _ (by simp),World.cell?_setCell_other _ _ _ _ (by simp)];exact q.c2
 ·rw [World.cell?_setCell_other _ _ _ _ (by simp),World.cell?_setCell_other _ _ _ _ (by simp),World.cell?_setCell_other _ _ _ _ (by simp)];exact q.c3
def hdr (C r:Nat):Value:=.slice (some ⟨r,0,none⟩) C C
theorem jQ.swap {w w':World} {base b R C K:Nat} {rb:Nat→Nat} {e:Nat→Nat→Rat} (h:jQ w base b R C K R rb e) {j k:Nat} (hj:j < R) (hk:k < R)
  (hw:w'=(w.setCell ⟨b,k,none⟩ (hdr C (rb j))).setCell ⟨b,j,none⟩ (hdr C (rb k)) ∨ (j ≠ k∧w'=(w.setCell ⟨b,j,none⟩ (hdr C (rb k))).setCell ⟨b,k,none⟩ (hdr C (rb j)))) :
  jQ w' base b R C K R (fun i=>if i=j then rb k else if i=k then rb j else rb i) (swp e j k):=by
 have hck:∀ i,i < R→w.cell? ⟨b,i,none⟩=some (hdr C (rb i)):=fun i hi=>by have:=h.outer.cell hi;rw [if_pos hi] at this;exact this
 have hrow:∀ i,i < R→iY w' (rb i) C K (fun _=>true) (e i):=fun i hi=>by
  rcases hw with rfl | ⟨hne,rfl⟩
  ·refine ((h.rows i hi).other (h.hrb i hi).2 (hck k hk) rfl _).other (h.hrb i hi).2 (u:=hdr C (rb j)) ?_ rfl _
   by_cases e1:j=k
   ·subst e1;simp [go_sem,hck j hj,h.outer.frozen j]
   ·rw [World.cell?_setCell_other _ _ _ _ (by simp;try omega)];exact hck j hj
  ·refine ((h.rows i hi).other (h.hrb i hi).2 (hck j hj) rfl _).other (h.hrb i hi).2 (u:=hdr C (rb k)) ?_ rfl _
   rw [World.cell?_setCell_other _ _ _ _ (by simp;try omega)];exact hck k hk
 refine ⟨?_,h.hb,fun i hi=>?_,fun i hi=>?_,fun x y hx hy=>?_⟩
 ·rcases hw with rfl | ⟨hne,rfl⟩
  ·refine ((h.outer.set k _).set j _).congr (fun i hi=>?_)
   simp only [hdr]
   by_cases e1:i=j
   ·subst e1;simp [hi]
   ·by_cases e2:i=k
    ·subst e2;simp [e1,hi]
    ·simp [e1,e2,hi]
  ·refine ((h.outer.set j _).set k _).congr (fun i hi=>?_)
   simp only [hdr]
   by_cases e1:i=j
   ·subst e1;simp [hi,hne]
   ·by_cases e2:i=k
    ·subst e2;simp [e1,hi]
    ·simp [e1,e2,hi]
 ·have hsw:swp e j k i=if i=j then e k else if i=k then e j else e i:=by
   funext c;unfold swp;split <;> (try split) <;> rfl
  rw [hsw]
  by_cases e1:i=j
  ·rw [if_pos e1,if_pos e1];exact hrow k hk
  ·by_cases e2:i=k
   ·rw [if_neg e1,if_pos e2,if_neg e1,if_pos e2];exact hrow j hj
   ·rw [if_neg e1,if_neg e2,if_neg e1,if_neg e2];exact hrow i hi
 ·by_cases e1:i=j
  ·simpa [e1] using h.hrb k hk
  ·by_cases e2:i=k
   ·rw [if_neg e1,if_pos e2];exact h.hrb j hj
   ·rw [if_neg e1,if_neg e2];exact h.hrb i hi
 ·have:=h.inj
  intro e1
  have i1:=fun a ha=>h.inj x a hx ha
  split at e1 <;> split at e1 <;> (try split at e1) <;> (try split at e1) <;> first
   | omega
   | (have a1:=h.inj _ _ hk hk e1;omega)
   | (have a1:=h.inj _ _ hk hj e1;omega)
   | (have a1:=h.inj _ _ hj hk e1;omega)
   | (have a1:=h.inj _ _ hj hj e1;omega)
   | (have a1:=h.inj _ _ hk hy e1;omega)
   | (have a1:=h.inj _ _ hj hy e1;omega)
   | (have a1:=h.inj _ _ hx hk e1;omega)
   | (have a1:=h.inj _ _ hx hj e1;omega)
   | (have a1:=h.inj _ _ hx hy e1;omega)
theorem Bx.grown {w w':World} {b:Nat} {cs:List Value} (h:Bx w b cs) {g:Nat} (hne:b ≠ g) (hg:w.grownBy w' (some g)):Bx w' b cs:=by
 have e:=hg.block b h.1 (by simpa using hne)
 exact ⟨Nat.lt_of_lt_of_le h.1 hg.size,fun i u hu=>⟨(World.cell?_of_block (w:=w) (a:=⟨b,i,none⟩) e).trans (h.2 i u hu).1,(World.frozen?_of_block (w:=w) (a:=⟨b,i,none⟩) e).trans (h.2 i u hu).2⟩⟩
theorem jQ.hd {w:World} {base b R C K:Nat} {rb:Nat→Nat} {e:Nat→Nat→Rat} (h:jQ w base b R C K R rb e) {i:Nat} (hi:i < R):w.cell? ⟨b,i,none⟩=some (.slice (some ⟨rb i,0,none⟩) C C)∧rb i < w.heap.size:=by
 have:=h.outer.cell hi
 rw [if_pos hi] at this
 exact ⟨this,(h.rows i hi).lt⟩
end Go.Proofs.YtidfgdchcpmnfaaGreat
namespace Go.Proofs.YtidfgdchcpmnfaaGreat
open Go.RowKit
set_option maxRecDepth 100000
set_option maxHeartbeats 8000000
set_option linter.unusedSimpArgs false
set_option linter.unusedVariables false
theorem a9T {R C:Nat} (h1:1≤R) (h2:R≤64) (h3:1≤C) (h4:C≤64):yS R (fun _=>C) (fun _ _=>true)=0:=by
 unfold yS
 rw [if_pos ⟨h1,h2,h3,h4,jX.2 (fun i hi=>by simp [rowOk,jX.2 (fun j hj=>rfl:∀ j,j < C→(fun _=>true) j=true)])⟩]
theorem yR (v:Value) (R C K:Nat) (e:Nat→Nat→Rat) (w:World) (h:qI w v R C K e) (hK:K≤1000000000) (h1:1≤R) (h2:R≤64) (h3:1≤C) (h4:C≤64) :
  Calls Tryz.prog 48 #[v] w (GI 0 w):=by
 have:=OY v R K _ _ e w h hK
 rw [a9T h1 h2 h3 h4] at this
 exact this
theorem a0p (b o n c:Nat) (w:World) (hn:n≤c) (hc:c≤9223372036854775807) (hb:b < w.heap.size)
  (hall:∀ k,k < n→∃ p R C cc K e,w.cell? ⟨b,o+k,none⟩=some (.slice p R cc)∧qI w (.slice p R cc) R C K e∧K≤1000000000∧1≤R∧R≤64∧1≤C∧C≤64) :
  Calls Tryz.prog 141 #[.slice (some ⟨b,o,none⟩) n c] w (GI 0 w):=by
 have HA:=Lib.hid hall
 have hB0:Below w.heap.size w w:=Below.refl _ _
 clear hall
 go_enter Tryz.func141,Tryz.ntmps141
 go_wp2_with fail
 go_loopw [8,4,5,9,10,11,12,13,14,15,16,17] (fun i _ _ _ _ _ _ _ _ _ _ _ wr=>∃ k:Nat,k≤n∧i=.int .i64 (k:Nat)∧Below w.heap.size w wr) (fun i _ _ _ _ _ _ _ _ _ _ _ _=>n - (intOf i).toNat)
 case atStart=>exact ⟨0,by omega,rfl,hB0⟩
 case round =>
  obtain ⟨k,hk,rfl,hB⟩:=hrel
  by_cases hlt:k < n
  ·obtain ⟨p,R,C,cc,K,e,c0,hM,hK,h1,h2,h3,h4⟩:=HA.out k hlt
   have c1:=dP hB hb c0
   have hkd:decide (k < n)=true:=by simpa using hlt
   go_wp2_with fail
   refine (yR _ R C K e _ (hM.below hB) hK h1 h2 h3 h4).mono ?_
   rintro e w1 ⟨rfl,hb1⟩
   go_wp2_with fail
   go_roundw
   case rel=>exact ⟨k+1,by omega,by go_num,Below.tr hB hb1⟩
   case measure=>simp [intOf];omega
  ·have he:k=n:=by omega
   subst he
   have hkd:decide (k < k)=false:=by simp
   go_wp2_with fail
   go_ret
   exact ⟨rfl,hB⟩
def a6j (base R C K:Nat) (e:Nat→Nat→Rat) (w:World) (x:Ending) (w':World):Prop:=∃ b rb,x=.returned (.tuple #[.slice (some ⟨b,0,none⟩) R R,.int .i64 0])∧jQ w' base b R C K R rb e∧Below base w w'
theorem SK (v:Value) (R C K:Nat) (e:Nat→Nat→Rat) (w:World) (h:qI w v R C K e) (hK:K≤1000000000) (h1:1≤R) (h2:R≤64) (h3:1≤C) (h4:C≤64) :
  Calls Tryz.prog 102 #[v] w (a6j w.heap.size C R K (fun i j=>e j i) w):=by
 obtain ⟨p,c,rfl,hl1,hl2⟩:=h.form
 go_enter Tryz.func102,Tryz.ntmps102
 go_wp2_with fail
 refine (yR _ R C K e _ h hK h1 h2 h3 h4).mono ?_
 rintro x w1 ⟨rfl,hb1⟩
 go_wp2_with fail
 refine (QO _ R C K e _ (h.below hb1) (by omega) (by omega) (by omega)).mono ?_
 rintro x w2 ⟨b2,rb2,rfl,hM2,hb2⟩
 go_wp2_with fail
 go_ret2
 exact ⟨_,_,rfl,hM2.base hb1.size,Below.tr hb1 hb2⟩
theorem a2O (v:Value) (R K:Nat) (e:Nat→Nat→Rat) (w:World) (h:qI w v R R K e) (hK:K≤1000000000) (h1:1≤R) (h2:R≤64) :
  Calls Tryz.prog 145 #[v] w (GI 0 w):=by
 obtain ⟨p,c,rfl,hl1,hl2⟩:=h.form
 obtain ⟨b,o,q,d,rfl,hbl,c0,hr⟩:=h.at_ h1
 rw [Nat.add_zero] at c0
 go_enter Tryz.func145,Tryz.ntmps145
 go_wp2_with fail
 refine (yR _ R R K e _ h hK h1 h2 h1 h2).mono ?_
 rintro x w1 ⟨rfl,hb1⟩
 have c1:=dP hb1 hbl c0
 go_wp2_with fail
 go_ret
 exact ⟨rfl,hb1⟩
theorem a7W (B1 B2 b1 o1 b2 o2 R C M c1 c2 K i j:Nat) (e f:Nat→Nat→Rat) (w:World) (hB1:w.cell? ⟨B1,0,none⟩=some (.slice (some ⟨b1,o1,none⟩) R c1)) (b5M:B1 < w.heap.size) (ha:qI w (.slice (some ⟨b1,o1,none⟩) R c1) R M K e) (hi:i < R)
  (hB2:w.cell? ⟨B2,0,none⟩=some (.slice (some ⟨b2,o2,none⟩) C c2)) (b5N:B2 < w.heap.size) (hb:qI w (.slice (some ⟨b2,o2,none⟩) C c2) C M K f) (hj:j < C) (hK:M * (2 * K+1)+K≤99999999) :
  Calls Tryz.prog 143 #[.int .i64 (i:Nat),.int .i64 (j:Nat),.pointer (some ⟨B1,0,none⟩),.pointer (some ⟨B2,0,none⟩)] w (GQ (qN (e i) (f j) M) w):=by
 obtain ⟨_,_,he,hl1,hl2⟩:=ha.form
 cases he
 obtain ⟨_,_,he,hl3,hl4⟩:=hb.form
 cases he
 obtain ⟨_,_,qa,da,he,hal,ca,hra⟩:=ha.at_ hi
 cases he
 obtain ⟨_,_,qb,db,he,hbl,cb,hrb⟩:=hb.at_ hj
 cases he
 have hW:Below w.heap.size w (w.alloc (.cells #[.bool false,.slice none 0 0,.bool false,.slice none 0 0] 30)):=(Below.refl _ _).alloc (Nat.le_refl _) _
 have hsz:w.heap.size < (w.alloc (.cells #[.bool false,.slice none 0 0,.bool false,.slice none 0 0] 30)).heap.size:=by simp
 have S0:(fun w':World=>w'.cell? ⟨B1,0,none⟩=some (.slice (some ⟨b1,o1,none⟩) R c1)∧w'.cell? ⟨B2,0,none⟩=some (.slice (some ⟨b2,o2,none⟩) C c2)∧w'.cell? ⟨b1,o1+i,none⟩=some (.slice qa M da)∧w'.cell? ⟨b2,o2+j,none⟩=some (.slice qb M db)∧w.heap.size < w'.heap.size) (w.alloc (.cells #[.bool false,.slice none 0 0,.bool false,.slice none 0 0] 30)).drew:=⟨dP hW.drew b5M hB1,dP hW.drew b5N hB2,dP hW.drew hal ca,dP hW.drew hbl cb,hsz⟩
 have KK:∀ A B:World,(fun w':World=>w'.cell? ⟨B1,0,none⟩=some (.slice (some ⟨b1,o1,none⟩) R c1)∧w'.cell? ⟨B2,0,none⟩=some (.slice (some ⟨b2,o2,none⟩) C c2)∧w'.cell? ⟨b1,o1+i,none⟩=some (.slice qa M da)∧w'.cell? ⟨b2,o2+j,none⟩=some (.slice qb M db)∧w.heap.size < w'.heap.size) A→Below A.heap.size A B→(fun w':World=>w'.cell? ⟨B1,0,none⟩=some (.slice (some ⟨b1,o1,none⟩) R c1)∧w'.cell? ⟨B2,0,none⟩=some (.slice (some ⟨b2,o2,none⟩) C c2)∧w'.cell? ⟨b1,o1+i,none⟩=some (.slice qa M da)∧w'.cell? ⟨b2,o2+j,none⟩=some (.slice qb M db)∧w.heap.size < w'.heap.size) B:=by
  rintro A B ⟨k0,k1,k2,k3,k4⟩ hb
  have hs:=hb.size
  exact ⟨dP hb (by omega) k0,dP hb (by omega) k1,dP hb (by omega) k2,dP hb (by omega) k3,by omega⟩
 have KS:∀ (A:World) (x0 x1 x2 x3:Value),(fun w':World=>w'.cell? ⟨B1,0,none⟩=some (.slice (some ⟨b1,o1,none⟩) R c1)∧w'.cell? ⟨B2,0,none⟩=some (.slice (some ⟨b2,o2,none⟩) C c2)∧w'.cell? ⟨b1,o1+i,none⟩=some (.slice qa M da)∧w'.cell? ⟨b2,o2+j,none⟩=some (.slice qb M db)∧w.heap.size < w'.heap.size) A→(fun w':World=>w'.cell? ⟨B1,0,none⟩=some (.slice (some ⟨b1,o1,none⟩) R c1)∧w'.cell? ⟨B2,0,none⟩=some (.slice (some ⟨b2,o2,none⟩) C c2)∧w'.cell? ⟨b1,o1+i,none⟩=some (.slice qa M da)∧w'.cell? ⟨b2,o2+j,none⟩=some (.slice qb M db)∧w.heap.size < w'.heap.size) ((((A.setCell ⟨w.heap.size,0,none⟩ x0).setCell ⟨w.heap.size,1,none⟩ x1).setCell ⟨w.heap.size,2,none⟩ x2).setCell ⟨w.heap.size,3,none⟩ x3):=by
  rintro A x0 x1 x2 x3 ⟨k0,k1,k2,k3,k4⟩
  have far:∀ (b o:Nat) (v:Value),b < w.heap.size→A.cell? ⟨b,o,none⟩=some v→((((A.setCell ⟨w.heap.size,0,none⟩ x0).setCell ⟨w.heap.size,1,none⟩ x1).setCell ⟨w.heap.size,2,none⟩ x2).setCell ⟨w.heap.size,3,none⟩ x3).cell? ⟨b,o,none⟩=some v:=by
   intro b o v hb hc
   have hne:w.heap.size ≠ b:=by omega
   rw [World.cell?_setCell_far _ _ _ _ (by simpa using hne),World.cell?_setCell_far _ _ _ _ (by simpa using hne),World.cell?_setCell_far _ _ _ _ (by simpa using hne),World.cell?_setCell_far _ _ _ _ (by simpa using hne)]
   exact hc
  exact ⟨far _ _ _ b5M k0,far _ _ _ b5N k1,far _ _ _ hal k2,far _ _ _ hbl k3,by simpa using k4⟩
 have hx0:Bx (w.alloc (.cells #[.bool false,.slice none 0 0,.bool false,.slice none 0 0] 30)) w.heap.size [.bool false,.slice none 0 0,.bool false,.slice none 0 0]:=by have:=Bx.new w [.bool false,.slice none 0 0,.bool false,.slice none 0 0] 30;simpa using this
 have hD:=a9m qa qb M da db K (e i) (f j) (w.alloc (.cells #[.bool false,.slice none 0 0,.bool false,.slice none 0 0] 30)).drew ((hra.below hW).below (Below.refl _ _).drew) ((hrb.below hW).below (Below.refl _ _).drew) hK
 have HD:=Lib.hid hD
 have hB0:=hW.drew
 clear hD ca cb hB1 hB2 hK
 go_enter Tryz.func143,Tryz.ntmps143
 go_wp2_with fail
 have tk1:True:=trivial
 go_region_held3 (fun w':World=>w'.cell? ⟨B1,0,none⟩=some (.slice (some ⟨b1,o1,none⟩) R c1)∧w'.cell? ⟨B2,0,none⟩=some (.slice (some ⟨b2,o2,none⟩) C c2)∧w'.cell? ⟨b1,o1+i,none⟩=some (.slice qa M da)∧w'.cell? ⟨b2,o2+j,none⟩=some (.slice qb M db)∧w.heap.size < w'.heap.size) (first | with_reducible exact S0 | with_reducible exact KK _ _ (by assumption) (by assumption) | with_reducible exact KS _ _ _ _ _ (by assumption) | (simp;done))
  (first
   | (((have:=tk1;clear tk1;(with_reducible refine HD.out.mono ?_);rintro e w1 ⟨v1,rfl,hi1,hb1⟩;obtain ⟨g1,p1,n1,c1,h1,o1,m1,e1,rfl⟩:=hi1.form;have hx1:=hx0.drew.to hb1;have d0:=hx1.c0;have d1:=hx1.c1;have d2:=hx1.c2;have d3:=hx1.c3;have f0:=hx1.f0;have f1:=hx1.f1;have f2:=hx1.f2;have f3:=hx1.f3)))
  )
 go_wp2_with fail
 exact bodyPost_ret (v:=.agg #[.bool g1,.slice p1 n1 c1,.bool h1,.slice o1 m1 e1]) (by simp [results,Tryz.results143,go_sem,d0,d1,d2,d3,f0,f1,f2,f3]) rfl ⟨_,rfl,hi1.aQ hx1 rfl rfl rfl rfl _ _ _ _,Below.aQ (Below.tr hB0 hb1) (b:=w.heap.size) (Nat.le_refl _) _ _ _ _⟩
end Go.Proofs.YtidfgdchcpmnfaaGreat
namespace Go.Proofs.YtidfgdchcpmnfaaGreat
open Go.RowKit
set_option maxRecDepth 100000
set_option maxHeartbeats 8000000
set_option linter.unusedSimpArgs false
set_option linter.unusedVariables false
theorem a7V (v u:Value) (R M C K:Nat) (e f:Nat→Nat→Rat) (w:World) (ha:qI w v R M K e) (hb:qI w u M C K f) (hK:M * (2 * K+1)+K≤99999999) (h1:1≤R) (h2:R≤64) (h3:1≤M) (h4:M≤64) (h5:1≤C) (h6:C≤64) :
  Calls Tryz.prog 103 #[v,u] w (a6j w.heap.size R C (M * (2 * K+1)+1) (fun i j=>qN (e i) (fun k=>f k j) M) w):=by
 obtain ⟨p1,c1,rfl,hl1,hl2⟩:=ha.form
 obtain ⟨p2,c2,rfl,hl3,hl4⟩:=hb.form
 obtain ⟨b1,o1,qa,da,rfl,hal,ca,hra⟩:=ha.at_ h1
 obtain ⟨b2,o2,qb,db,rfl,hbl,cb,hrb⟩:=hb.at_ h3
 rw [Nat.add_zero] at ca cb
 have h1':0 < R:=h1
 have h3':0 < M:=h3
 have h5':0 < C:=h5
 have hBw1:Below w.heap.size w (w.alloc (.cells #[.slice (some ⟨b1,o1,none⟩) R c1] 23)):=(Below.refl _ _).alloc (Nat.le_refl _) _
 have hBw2:Below w.heap.size w ((w.alloc (.cells #[.slice (some ⟨b1,o1,none⟩) R c1] 23)).alloc (.cells #[.slice (some ⟨b1,o1,none⟩) R c1,.slice (some ⟨b2,o2,none⟩) M c2] 23)):=Below.al hBw1 _
 have x0:Bx (w.alloc (.cells #[.slice (some ⟨b1,o1,none⟩) R c1] 23)) w.heap.size [.slice (some ⟨b1,o1,none⟩) R c1]:=by have:=Bx.new w [.slice (some ⟨b1,o1,none⟩) R c1] 23;simpa using this
 have x1:Bx ((w.alloc (.cells #[.slice (some ⟨b1,o1,none⟩) R c1] 23)).alloc (.cells #[.slice (some ⟨b1,o1,none⟩) R c1,.slice (some ⟨b2,o2,none⟩) M c2] 23)) w.heap.size [.slice (some ⟨b1,o1,none⟩) R c1]:=x0.alloc _
 have y1:Bx ((w.alloc (.cells #[.slice (some ⟨b1,o1,none⟩) R c1] 23)).alloc (.cells #[.slice (some ⟨b1,o1,none⟩) R c1,.slice (some ⟨b2,o2,none⟩) M c2] 23)) (w.heap.size+1) [.slice (some ⟨b1,o1,none⟩) R c1,.slice (some ⟨b2,o2,none⟩) M c2]:=by have:=Bx.new (w.alloc (.cells #[.slice (some ⟨b1,o1,none⟩) R c1] 23)) [.slice (some ⟨b1,o1,none⟩) R c1,.slice (some ⟨b2,o2,none⟩) M c2] 23;simpa using this
 have hCk:=a0p (w.heap.size+1) 0 2 2 ((w.alloc (.cells #[.slice (some ⟨b1,o1,none⟩) R c1] 23)).alloc (.cells #[.slice (some ⟨b1,o1,none⟩) R c1,.slice (some ⟨b2,o2,none⟩) M c2] 23)) (by omega) (by omega) (by simp) (fun k hk=>by
  obtain rfl | rfl:k=0 ∨ k=1:=by omega
  ·exact ⟨_,R,M,c1,K,e,y1.c0,ha.below hBw2,by omega,h1,h2,h3,h4⟩
  ·exact ⟨_,M,C,c2,K,f,y1.c1,hb.below hBw2,by omega,h3,h4,h5,h6⟩)
 have HCk:=Lib.hid hCk
 have HK:=Lib.hid hK
 have Hra:=Lib.hid ca
 have Hrb:=Lib.hid cb
 clear hCk hK ca cb
 go_enter Tryz.func103,Tryz.ntmps103
 go_wp2_with fail
 refine HCk.out.mono ?_
 rintro x w1 ⟨rfl,hb1⟩
 have x2:=x1.to hb1
 have d0:=x2.c0
 have hB1:=Below.tr hBw2 hb1
 have ca:=dP hB1 hal Hra.out
 go_wp2_with fail
 refine (QO _ M C K f _ (hb.below hB1) (by omega) (by omega) (by omega)).mono ?_
 rintro x w2 ⟨b3,rb3,rfl,hM3,hb2⟩
 have hB2:=Below.tr hB1 hb2
 have x3:=x2.to hb2
 have hc3:=hM3.toR (by omega) (by omega)
 have hlt2:=x3.1
 have a9s:Below w.heap.size w (w2.alloc (.cells #[.slice (some ⟨b3,0,none⟩) C C] 23)):=Below.al hB2 _
 have x5:=(x3.alloc (.cells #[.slice (some ⟨b3,0,none⟩) C C] 23))
 have y5:Bx (w2.alloc (.cells #[.slice (some ⟨b3,0,none⟩) C C] 23)) w2.heap.size [.slice (some ⟨b3,0,none⟩) C C]:=by have:=Bx.new w2 [.slice (some ⟨b3,0,none⟩) C C] 23;simpa using this
 have hc5:=hc3.below (w':=(w2.alloc (.cells #[.slice (some ⟨b3,0,none⟩) C C] 23))) ((Below.refl _ _).alloc (Nat.le_refl _) _)
 have S0:(fun w':World=>w'.cell? ⟨w.heap.size,0,none⟩=some (.slice (some ⟨b1,o1,none⟩) R c1)∧w'.cell? ⟨b2,o2,none⟩=some (.slice qb C db)∧w.heap.size < w'.heap.size) (w2.alloc (.cells #[.slice (some ⟨b3,0,none⟩) C C] 23)).drew:=⟨x5.c0,dP a9s.drew hbl Hrb.out,by simp;omega⟩
 have KK:∀ A B:World,(fun w':World=>w'.cell? ⟨w.heap.size,0,none⟩=some (.slice (some ⟨b1,o1,none⟩) R c1)∧w'.cell? ⟨b2,o2,none⟩=some (.slice qb C db)∧w.heap.size < w'.heap.size) A→Below A.heap.size A B→(fun w':World=>w'.cell? ⟨w.heap.size,0,none⟩=some (.slice (some ⟨b1,o1,none⟩) R c1)∧w'.cell? ⟨b2,o2,none⟩=some (.slice qb C db)∧w.heap.size < w'.heap.size) B:=by
  rintro A B ⟨k0,k1,k2⟩ hb
  have hs:=hb.size
  exact ⟨dP hb (by omega) k0,dP hb (by omega) k1,by omega⟩
 have hF:∀ (i j:Nat) (w':World),i < R→j < C→Below (w2.alloc (.cells #[.slice (some ⟨b3,0,none⟩) C C] 23)).drew.heap.size (w2.alloc (.cells #[.slice (some ⟨b3,0,none⟩) C C] 23)).drew w'→Calls Tryz.prog 143 #[.int .i64 (i:Nat),.int .i64 (j:Nat),.pointer (some ⟨w.heap.size,0,none⟩),.pointer (some ⟨w2.heap.size,0,none⟩)] w' (GQ ((fun i j=>qN (e i) (fun k=>f k j) M) i j) w'):=fun i j w' hi hj hb =>
  a7W w.heap.size w2.heap.size b1 o1 b3 0 R C M c1 C K i j e (fun i j=>f j i) w' (dP hb x5.1 x5.c0) (Nat.lt_of_lt_of_le x5.1 hb.size) ((ha.below a9s.drew).below hb) hi (dP hb y5.1 y5.c0) (Nat.lt_of_lt_of_le y5.1 hb.size) ((hc5.below (Below.refl _ _).drew).below hb) hj HK.out
 have hT:=a5m R C (M * (2 * K+1)+1) 143 (.pointer (some ⟨w.heap.size,0,none⟩)) (.pointer (some ⟨w2.heap.size,0,none⟩)) (fun i j=>qN (e i) (fun k=>f k j) M) (w2.alloc (.cells #[.slice (some ⟨b3,0,none⟩) C C] 23)).drew (by omega) (by omega) (fun i j hi hj=>NI M (fun k hk=>⟨ha.rsz hi hk,hb.rsz hk hj⟩)) (fun _ _ _ _ _=>rfl) hF
 have HT:=Lib.hid hT
 clear hF hT
 go_wp2_with fail
 have tk1:True:=trivial
 go_region_held3 (fun w':World=>w'.cell? ⟨w.heap.size,0,none⟩=some (.slice (some ⟨b1,o1,none⟩) R c1)∧w'.cell? ⟨b2,o2,none⟩=some (.slice qb C db)∧w.heap.size < w'.heap.size) (first | with_reducible exact S0 | with_reducible exact KK _ _ (by assumption) (by assumption) | (simp;done))
  (first
   | (((have:=tk1;clear tk1;(with_reducible refine HT.out.mono ?_);rintro x w6 ⟨b6,rb6,rfl,hM6,hb6⟩)))
  )
 go_wp2_with fail
 go_ret2
 exact ⟨_,_,rfl,hM6.base (by simpa using a9s.size),Below.tr a9s.drew (by simpa using hb6)⟩
end Go.Proofs.YtidfgdchcpmnfaaGreat
namespace Go.Proofs.YtidfgdchcpmnfaaGreat
open Go.RowKit
set_option maxRecDepth 100000
set_option maxHeartbeats 8000000
set_option linter.unusedSimpArgs false
set_option linter.unusedVariables false
theorem XH (v u:Value) (x y:Rat) (w:World) (fa:RQ w v x) (fb:RQ w u y) (hl:rsz x≤400000000) (hl2:rsz y≤400000000) (hy:y ≠ 0) :
  Calls Tryz.prog 148 #[v,u] w (GQ (x / y) w):=by
 obtain ⟨b,p,n,c,d,o,m,e,rfl⟩:=fa.form
 obtain ⟨f,i,j,k,g,r,t,a,rfl⟩:=fb.form
 have hb1:=dI x
 have hb2:=bZ x
 have hb3:=dI y
 have hb4:=bZ y
 have aX:Below w.heap.size w w:=Below.refl _ _
 go_enter Tryz.func148,Tryz.ntmps148
 go_wp2_with fail
 obtain ⟨hA1,m0,n0,o0⟩:=bx3 w rfl [.bool b,.slice p n c,.bool d,.slice o m e] 30 [.bool f,.slice i j k,.bool g,.slice r t a] 30 [.bool false,.slice none 0 0,.bool false,.slice none 0 0] 30
 have p0:=(fa.below hA1)
 have q0:=(fb.below hA1)
 (with_reducible refine (a3w _ _ (x) (y) _ p0 q0 hl hl2 hy).mono ?_)
 rintro e w1 ⟨v1,rfl,hi1,hb1⟩
 obtain ⟨g1,p1,n1,c1,h1,o1,m1,e1,rfl⟩:=hi1.form
 have CV:=(o0.to hb1)
 obtain ⟨a0,e0,b0,f0,c0,g0,d0,h0⟩:=CV.cf4
 have bF:=(m0.to hb1)
 have i0:=(bF).1
 have dD:=(n0.to hb1)
 have j0:=(dD).1
 have k0:=(CV).1
 obtain ⟨hA2,r0⟩:=bx1 w1 rfl [.bool g1,.slice p1 n1 c1,.bool h1,.slice o1 m1 e1] 30
 obtain ⟨hA3,s0⟩:=bx1 ((((w1.setCell ⟨w.heap.size+1+1,0,none⟩ (.bool g1)).setCell ⟨w.heap.size+1+1,1,none⟩ (.slice p1 n1 c1)).setCell ⟨w.heap.size+1+1,2,none⟩ (.bool h1)).setCell ⟨w.heap.size+1+1,3,none⟩ (.slice o1 m1 e1)) (by simp:_=w1.heap.size) [.bool g1,.slice p1 n1 c1,.bool h1,.slice o1 m1 e1] 30
 have l0:=(Below.tr (Below.tr aX hA1) hb1)
 go_wp2_with fail
 exact bodyPost_ret (v:=.agg #[.bool g1,.slice p1 n1 c1,.bool h1,.slice o1 m1 e1]) (by simp [results,Tryz.results148,go_sem,i0,j0,k0,a0,e0,b0,f0,c0,g0,d0,h0]) rfl ⟨_,rfl,((hi1.aQ CV rfl rfl rfl rfl (.bool g1) (.slice p1 n1 c1) (.bool h1) (.slice o1 m1 e1)).below hA3),(Below.tr (Below.aQ l0 (b:=w.heap.size+1+1) (by omega) (.bool g1) (.slice p1 n1 c1) (.bool h1) (.slice o1 m1 e1)) hA3)⟩
def CZ (e f:Nat→Rat) (k:Rat) (a j:Nat):Nat→Rat:=fun c=>if a≤c∧c < j then e c - k * f c else e c
theorem a5X (e f:Nat→Rat) (k:Rat) {a j:Nat} (ha:a≤j):(fun c=>if c=j then e j - k * f j else CZ e f k a j c)=CZ e f k a (j+1):=by
 funext c
 unfold CZ
 by_cases e1:c=j
 ·subst e1;rw [if_pos rfl,if_pos ⟨ha,by omega⟩]
 ·rw [if_neg e1]
  by_cases e2:a≤c∧c < j
  ·rw [if_pos e2,if_pos ⟨e2.1,by omega⟩]
  ·rw [if_neg e2,if_neg (by omega)]
theorem a5W (e f:Nat→Rat) (k:Rat) {a j:Nat} (h:f j=0):CZ e f k a j=CZ e f k a (j+1):=by
 funext c
 unfold CZ
 by_cases e1:c=j
 ·subst e1
  rw [if_neg (by omega),h]
  split
  ·grind
  ·rfl
 ·by_cases e2:a≤c∧c < j
  ·rw [if_pos e2,if_pos ⟨e2.1,by omega⟩]
  ·rw [if_neg e2,if_neg (by omega)]
theorem b0x (e f:Nat→Rat) (k:Rat) (a j:Nat):CZ e f k a j j=e j:=by unfold CZ;rw [if_neg (by omega)]
def KM:Nat:=99999999
def b6N (br n:Nat) (x:Nat→Rat) (w:World) (e:Ending) (w':World):Prop:=e=.returned (.tuple #[])∧iY w' br n KM (fun _=>true) x∧w.grownBy w' (some br)
theorem XZ (br bo n a KA:Nat) (e f:Nat→Rat) (kv:Value) (k:Rat) (w:World) (hr:iY w br n KM (fun _=>true) e) (ho:iY w bo n KM (fun _=>true) f) (hne:bo ≠ br) (hk:RQ w kv k)
  (hkK:rsz k≤2 * KA) (he:∀ c,c < n→rsz (e c)≤KA) (hf:∀ c,c < n→rsz (f c)≤KA) (hKA:4 * KA+1≤KM) (hn:n≤1000000) (ha:a≤n) :
  Calls Tryz.prog 147 #[.slice (some ⟨br,0,none⟩) n n,.slice (some ⟨bo,0,none⟩) n n,kv,.int .i64 (a:Nat)] w (b6N br n (CZ e f k a n) w):=by
 obtain ⟨kg,kp,kn,kc,kh,ko,km,ke,rfl⟩:=hk.form
 have hKM:KM≤99999999:=Nat.le_refl _
 have HE:=Lib.hid he
 have HF:=Lib.hid hf
 have hlr:=hr.lt
 have hlo:=ho.lt
 have hnu:=hr.nu
 have q0:Bx (w.alloc (.cells #[.bool kg,.slice kp kn kc,.bool kh,.slice ko km ke] 30)) w.heap.size [.bool kg,.slice kp kn kc,.bool kh,.slice ko km ke]:=by have:=Bx.new w [.bool kg,.slice kp kn kc,.bool kh,.slice ko km ke] 30;simpa using this
 have hB0:Below w.heap.size w (w.alloc (.cells #[.bool kg,.slice kp kn kc,.bool kh,.slice ko km ke] 30)):=(Below.refl _ _).alloc (Nat.le_refl _) _
 have hG0:w.grownBy (w.alloc (.cells #[.bool kg,.slice kp kn kc,.bool kh,.slice ko km ke] 30)) (some br):=grown_below (a1N w br) hB0
 have hr0:iY (w.alloc (.cells #[.bool kg,.slice kp kn kc,.bool kh,.slice ko km ke] 30)) br n KM (fun _=>true) (CZ e f k a a):=(hr.below (m:=0) hB0).congr (fun _ _=>rfl) (fun c _=>by unfold CZ;rw [if_neg (by omega)])
 clear he hf
 go_enter Tryz.func147,Tryz.ntmps147
 go_wp2_with fail
 go_loopw [8,10,11,12,13,14,15,16,17,18,19,20,21,22,23,24,25,26,27,28,29,30,31,32,33,34,35] (fun i _ _ _ _ _ _ _ _ _ _ _ _ _ _ _ _ _ _ _ _ _ _ _ _ _ _ wr=>∃ (j:Nat),a≤j∧j≤n∧i=.int .i64 (j:Nat)∧iY wr br n KM (fun _=>true) (CZ e f k a j)∧Bx wr w.heap.size [.bool kg,.slice kp kn kc,.bool kh,.slice ko km ke]∧w.grownBy wr (some br)) (fun i _ _ _ _ _ _ _ _ _ _ _ _ _ _ _ _ _ _ _ _ _ _ _ _ _ _ _=>n - (intOf i).toNat)
 case atStart=>exact ⟨a,by omega,ha,rfl,hr0,q0,hG0⟩
 case round =>
  obtain ⟨j,hj1,hj,rfl,hR,hq,hG⟩:=hrel
  have hzB:=hG.size
  have hlq:=hq.1
  by_cases hlt:j < n
  ·have hkd:decide (j < n)=true:=by simpa using hlt
   have hO:=ho.grown hne hG hnu
   obtain ⟨yg,yp,yn,yc,yh,yo,ym,ye,y0,y1,y2,y3,hyq,hyn⟩:=hO.cells hlt
   have hy:=hyq.rq
   have ly:=HF.out j hlt
   have hlo1:bo < wr.heap.size:=by omega
   have b7w:br < wr.heap.size:=by omega
   have hW:Below wr.heap.size wr wr:=Below.refl _ _
   go_wp2_with fail
   refine (lI _ _ _ hy (by omega)).mono ?_
   rintro x w1 ⟨rfl,hb1⟩
   by_cases hy0:f j=0
   ·have HD:Hid (CZ e f k a j=CZ e f k a (j+1)):=Lib.hid (a5W e f k hy0)
    have hsg:(sgn (f j).num == 0)=true:=by rw [hy0];rfl
    have KN:(sgn (f j).num != 0)=false:=by rw [hy0];rfl
    have HY0:=Lib.hid hy0
    clear hy0
    go_wp2_with fail
    go_roundw
    case rel=>exact ⟨j+1,by omega,by omega,by go_num,by rw [← HD.out];exact hR.below (m:=0) hb1,hq.to hb1,grown_below hG hb1⟩
    case measure=>simp [intOf];omega
   ·have hsg:=II hy0
    have KN:=ES hy0
    have HY0:=Lib.hid hy0
    clear hy0
    have hlo2:bo < w1.heap.size:=Nat.lt_of_lt_of_le hlo1 hb1.size
    have a9z:br < w1.heap.size:=Nat.lt_of_lt_of_le b7w hb1.size
    have z0:=dP hb1 hlo1 y0
    have z1:=dP hb1 hlo1 y1
    have z2:=dP hb1 hlo1 y2
    have z3:=dP hb1 hlo1 y3
    have hR1:=hR.below (m:=0) hb1
    obtain ⟨xg,xp,xn,xc,xh,xo,xm,xe,x0,x1,x2,x3,hxq,hxn⟩:=hR1.cells hlt
    have hx:=hxq.rq
    have hq1:=hq.to hb1
    have v0:=hq1.c0
    have v1:=hq1.c1
    have v2:=hq1.c2
    have v3:=hq1.c3
    have b8O:=hq1.1
    have hky:=((hk.grown hG hnu).below hb1).drew
    have hyd:=(hy.below hb1).drew
    have hxd:=hx.drew
    rw [b0x] at hxd
    have lx:=HE.out j hlt
    have l1:=iW k (f j)
    have l2:=wI (e j) (k * f j)
    have l3:rsz (k * f j)≤400000000:=by omega
    have l4:rsz (e j - k * f j)≤KM:=by omega
    have hM:=EP _ _ _ _ _ hky hyd (by omega) (by omega)
    have HM:=Lib.hid hM
    clear hM
    go_wp2_with fail
    have tk1:True:=trivial
    have tk2:True:=trivial
    go_region_with
     (first
      | (((have:=tk1;clear tk1;(with_reducible refine HM.out.mono ?_);rintro x w2 ⟨v2,rfl,hi2,hb2⟩;obtain ⟨g2,p2,n2,c2,h2,o2,m2,e2,rfl⟩:=hi2.form;have t0:=dP hb2 a9z x0;have t1:=dP hb2 a9z x1;have t2:=dP hb2 a9z x2;have t3:=dP hb2 a9z x3;have hxe:=hxd.below hb2)))
      | (((have:=tk2;clear tk2;(with_reducible refine (a0Z _ _ _ _ _ hxe hi2 (by omega) l3).mono ?_);rintro x w3 ⟨v3,rfl,hi3,hb3⟩;obtain ⟨g3,p3,n3,c3,h3,o3,m3,e3,rfl⟩:=hi3.form;have hR3:=((hR1.below (m:=0) (Below.refl _ _).drew).below (m:=0) hb2).below (m:=0) hb3;obtain ⟨_,_,_,_,_,_,_,_,s0,s1,s2,s3,_,_⟩:=hR3.cells hlt;have f0:=hR3.frozen (j * 4);have f1:=hR3.frozen (j * 4+1);have f2:=hR3.frozen (j * 4+2);have f3:=hR3.frozen (j * 4+3)))))
    all_goals
     go_wp2_with fail
     go_roundw
     case rel=>exact ⟨j+1,by omega,by omega,by go_num,by rw [← a5X e f k hj1];exact (hR3.QG hlt (QC.of hi3 l4)).congr (fun c _=>by simp) (fun c _=>rfl),(((hq1.drew.to hb2).to hb3).tK (b:=br) (by omega) (j * 4) _).tK (b:=br) (by omega) (j * 4+1) _ |>.tK (b:=br) (by omega) (j * 4+2) _ |>.tK (b:=br) (by omega) (j * 4+3) _,a1O (grown_below (grown_below (grown_below (grown_below hG hb1) (Below.refl _ _).drew) hb2) hb3) _ _ _ _ _⟩
     case measure=>simp [intOf];omega
  ·have he:j=n:=by omega
   subst he
   have hkd:decide (j < j)=false:=by simp
   go_wp2_with fail
   go_end0
   exact ⟨rfl,hR,hG⟩
end Go.Proofs.YtidfgdchcpmnfaaGreat
namespace Go.Proofs.YtidfgdchcpmnfaaGreat
open Go.RowKit
set_option linter.unusedSimpArgs false
set_option linter.unusedVariables false
set_option maxRecDepth 20000
structure nT (w0 w:World) (b D n:Nat) (rb:Nat→Nat) (e:Nat→Nat→Rat) (u0 u1 u2 u3:Value) (d:Rat):Prop where
 q2:Bx w w0.heap.size [.bool false,.slice none 0 0,.bool false,.slice none 0 0]
 qd:Bx w D [u0,u1,u2,u3]
 hd:RQ w (.agg #[u0,u1,u2,u3]) d
 hM:jQ w w0.heap.size b n n KM n rb e
 hbD:b ≠ D
 hrD:∀ i,i < n→rb i ≠ D
 hD:w0.heap.size < D
 hr2:∀ i,i < n→rb i ≠ w0.heap.size
 hB:Below w0.heap.size w0 w
section
variable {w0 w w':World} {b D n:Nat} {rb:Nat→Nat} {e:Nat→Nat→Rat} {u0 u1 u2 u3:Value} {d:Rat}
theorem nT.below (h:nT w0 w b D n rb e u0 u1 u2 u3 d) (hb:Below w.heap.size w w'):nT w0 w' b D n rb e u0 u1 u2 u3 d :=
 ⟨h.q2.to hb,h.qd.to hb,h.hd.below hb,h.hM.below hb,h.hbD,h.hrD,h.hD,h.hr2,Below.tr h.hB hb⟩
theorem nT.drew (h:nT w0 w b D n rb e u0 u1 u2 u3 d):nT w0 w.drew b D n rb e u0 u1 u2 u3 d:=h.below (Below.refl _ _).drew
theorem RQ.nus (h:RQ w (.agg #[u0,u1,u2,u3]) d):aP u0=true∧aP u1=true∧aP u2=true∧aP u3=true:=by
 obtain ⟨_,_,_,_,_,_,_,_,e⟩:=h.form
 cases e
 exact ⟨rfl,rfl,rfl,rfl⟩
theorem nT.b6J (h:nT w0 w b D n rb e u0 u1 u2 u3 d) {x0 x1 x2 x3:Value} {q:Rat} (hq:RQ w (.agg #[x0,x1,x2,x3]) q) :
  nT w0 ((((w.setCell ⟨D,0,none⟩ x0).setCell ⟨D,1,none⟩ x1).setCell ⟨D,2,none⟩ x2).setCell ⟨D,3,none⟩ x3) b D n rb e x0 x1 x2 x3 q:=by
 have N:=h.hd.nus
 have hlt:w0.heap.size≤D:=Nat.le_of_lt h.hD
 exact ⟨h.q2.dG (b:=D) (Nat.ne_of_lt h.hD) _ _ _ _,h.qd.jM _ _ _ _,hq.aQ h.qd N.1 N.2.1 N.2.2.1 N.2.2.2 _ _ _ _,h.hM.VT h.hbD h.hrD h.qd N.1 N.2.1 N.2.2.1 N.2.2.2 _ _ _ _,h.hbD,h.hrD,h.hD,h.hr2,Below.aQ h.hB (b:=D) hlt _ _ _ _⟩
theorem nT.row (h:nT w0 w b D n rb e u0 u1 u2 u3 d) {i:Nat} (hi:i < n) {x:Nat→Rat} (hg:w.grownBy w' (some (rb i))) (hr:iY w' (rb i) n KM (fun _=>true) x) :
  nT w0 w' b D n rb (fun r=>if r=i then x else e r) u0 u1 u2 u3 d:=by
 have hn:=(h.hM.rows i hi).nu
 have hlow:=(h.hM.hrb i hi).1
 exact ⟨h.q2.grown (fun e=>h.hr2 i hi e.symm) hg,h.qd.grown (fun e=>h.hrD i hi e.symm) hg,h.hd.grown hg hn,h.hM.row hi hg hr,h.hbD,h.hrD,h.hD,h.hr2,h.hB.grown hg h.hB.size (fun k hk=>by cases hk;exact hlow)⟩
theorem nT.congr {e':Nat→Nat→Rat} (h:nT w0 w b D n rb e u0 u1 u2 u3 d) (he:∀ r c,r < n→c < n→e r c=e' r c):nT w0 w b D n rb e' u0 u1 u2 u3 d :=
 ⟨h.q2,h.qd,h.hd,h.hM.congr he,h.hbD,h.hrD,h.hD,h.hr2,h.hB⟩
theorem nT.swap (h:nT w0 w b D n rb e u0 u1 u2 u3 d) {j k:Nat} (hj:j < n) (hk:k < n) (hne:j ≠ k)
  (hw:w'=(w.setCell ⟨b,k,none⟩ (hdr n (rb j))).setCell ⟨b,j,none⟩ (hdr n (rb k)) ∨ w'=(w.setCell ⟨b,j,none⟩ (hdr n (rb k))).setCell ⟨b,k,none⟩ (hdr n (rb j))) (h2b:b ≠ w0.heap.size) :
  nT w0 w' b D n (fun i=>if i=j then rb k else if i=k then rb j else rb i) (swp e j k) u0 u1 u2 u3 d:=by
 have hck:∀ i,i < n→w.cell? ⟨b,i,none⟩=some (hdr n (rb i)):=fun i hi=>(h.hM.hd hi).1
 have hM:=h.hM.swap hj hk (w':=w') (hw.elim .inl (fun a=>.inr ⟨hne,a⟩))
 have hb:=h.hM.hb
 have hrr:∀ (P:Nat→Prop),(∀ i,i < n→P (rb i))→∀ i,i < n→P (if i=j then rb k else if i=k then rb j else rb i):=fun P hP i hi=>by
  split
  ·exact hP k hk
  ·split
   ·exact hP j hj
   ·exact hP i hi
 have far:∀ {X:Nat} {cs:List Value},X ≠ b→Bx w X cs→Bx w' X cs:=fun hX q=>by
  rcases hw with rfl | rfl
  ·exact (q.tK hX _ _).tK hX _ _
  ·exact (q.tK hX _ _).tK hX _ _
 refine ⟨far (fun e=>h2b e.symm) h.q2,far (fun e=>h.hbD e.symm) h.qd,?_,hM,h.hbD,hrr (fun r=>r ≠ D) h.hrD,h.hD,hrr (fun r=>r ≠ w0.heap.size) h.hr2,?_⟩
 ·rcases hw with rfl | rfl
  ·exact (h.hd.fU (hck k hk) rfl _).fU (a:=⟨b,j,none⟩) (u:=hdr n (rb j)) (by rw [World.cell?_setCell_other _ _ _ _ (by simp;try omega)];exact hck j hj) rfl _
  ·exact (h.hd.fU (hck j hj) rfl _).fU (a:=⟨b,k,none⟩) (u:=hdr n (rb k)) (by rw [World.cell?_setCell_other _ _ _ _ (by simp;try omega)];exact hck k hk) rfl _
 ·rcases hw with rfl | rfl
  ·exact (h.hB.setCell (p:=⟨b,k,none⟩) hb _).setCell (p:=⟨b,j,none⟩) hb _
  ·exact (h.hB.setCell (p:=⟨b,j,none⟩) hb _).setCell (p:=⟨b,k,none⟩) hb _
theorem nT.at_ (h:nT w0 w b D n rb e u0 u1 u2 u3 d) {i j:Nat} (hi:i < n) (hj:j < n) :
  ∃ g q m c g' q' m' c',w.cell? ⟨rb i,j * 4,none⟩=some (.bool g)∧w.cell? ⟨rb i,j * 4+1,none⟩=some (.slice q m c)∧w.cell? ⟨rb i,j * 4+2,none⟩=some (.bool g')∧w.cell? ⟨rb i,j * 4+3,none⟩=some (.slice q' m' c') ∧
   RQ w (.agg #[.bool g,.slice q m c,.bool g',.slice q' m' c']) (e i j):=by
 obtain ⟨g,q,m,c,g',q',m',c',c0,c1,c2,c3,hq,_⟩:=(h.hM.rows i hi).cells hj
 exact ⟨g,q,m,c,g',q',m',c',c0,c1,c2,c3,hq.rq⟩
end
theorem UE {B n j:Nat} (hj:j < n):B * 5 ^ (n - j)=5 * B * 5 ^ (n - (j+1)):=by
 rw [show n - j=n - (j+1)+1 by omega,Nat.pow_succ,Nat.mul_comm (5 ^ (n - (j+1))) 5,← Nat.mul_assoc,Nat.mul_comm B 5]
theorem a4k (B m:Nat):B≤B * 5 ^ m:=Nat.le_mul_of_pos_right _ (Nat.pow_pos (by omega))
end Go.Proofs.YtidfgdchcpmnfaaGreat
