/-
  Lemmas for the statements about rotations, part 16 of 51.
-/
import Derived.Deep.OwnRows
import Derived.Test.YtidfgdchcpmnfaaGreatZb11
import Derived.Test.YtidfgdchcpmnfaaGreatZb14
import Derived.Test.YtidfgdchcpmnfaaGreatZb15
namespace Go.Proofs.YtidfgdchcpmnfaaGreat
open Go Go.RowKit
set_option linter.unusedSimpArgs false
set_option linter.unusedVariables false
set_option maxRecDepth 20000
def succOk (ops : Array Oper) (n : Nat) : Bool := (List.range n).all fun j => (List.range (n + 1)).any fun k => decide (j < k) && match ops[k]? with
  | none => false
  | some o => o.after.toList.any fun e => Region.binds .any e && decide (e.on = j)
theorem succOk_spec {ops : Array Oper} {n : Nat} (h : succOk ops n = true) {j : Nat} (hj : j < n) : ∃ k o,j < k ∧ k ≤ n ∧ ops[k]? = some o ∧ ∃ e ∈ o.after,Region.binds .any e = true ∧ e.on = j := by
  unfold succOk at h
  have h1 := (List.all_eq_true.1 h) j (List.mem_range.2 hj)
  obtain ⟨k,hk,h2⟩ := List.any_eq_true.1 h1
  simp only [Bool.and_eq_true,decide_eq_true_eq] at h2
  obtain ⟨h3,h4⟩ := h2
  cases ho : ops[k]? with
  | none => rw [ho] at h4;simp at h4
  | some o =>
    rw [ho] at h4
    obtain ⟨e,he,h5⟩ := List.any_eq_true.1 h4
    simp only [Bool.and_eq_true,decide_eq_true_eq] at h5
    have := List.mem_range.1 hk
    exact ⟨k,o,h3,by omega,ho,e,by simpa using he,h5.1,h5.2⟩
def Closed (ops : Array Oper) (L : Array Bool) : Prop := ∀ j o,ops[j]? = some o → L.getD j false = true → ∀ e ∈ o.after,Region.binds .any e = true → L.getD e.on false = true
theorem all_done {ops : Array Oper} {L : Array Bool} {n : Nat} (h : succOk ops n = true) (hc : Closed ops L) {o : Oper} (ho : ops[n]? = some o) (hd : ∀ e ∈ o.after,Region.binds .any e = true → L.getD e.on false = true) : ∀ m j,n - j = m → j < n → L.getD j false = true := by
  intro m
  induction m using Nat.strongRecOn with
  | _ m ih =>
    intro j hm hj
    obtain ⟨k,o',h1,h2,h3,e,h4,h5,h6⟩ := succOk_spec h hj
    rw [← h6]
    by_cases hk : k = n
    · subst hk
      rw [ho] at h3
      cases h3
      exact hd e h4 h5
    · exact hc k o' h3 (ih (n - k) (by omega) k rfl (by omega)) e h4 h5
theorem Closed.set {ops : Array Oper} {L : Array Bool} {i : Nat} {o : Oper} (hc : Closed ops L) (ho : ops[i]? = some o) (hl : L.getD i true = false) (hd : ∀ e ∈ o.after,Region.binds .any e = true → L.getD e.on false = true) : Closed ops (L.setIfInBounds i true) := by
  intro j o' ho' hj e he hb
  by_cases e1 : j = i
  · subst e1
    rw [ho] at ho'
    cases ho'
    exact done_set hl (hd e he hb)
  · exact done_set hl (hc j o' ho' (set_done hj e1) e he hb)
def chainOk (ops : Array Oper) (N m : Nat) : Bool := (List.range m).all fun i => decide (i ≤ N) || match ops[i]? with
  | none => false
  | some o => o.after.toList.any fun e => Region.binds .any e && decide (e.on + 1 = i)
theorem chainOk_spec {ops : Array Oper} {N m : Nat} (h : chainOk ops N m = true) {i : Nat} {o : Oper} (hi : i < m) (hN : N < i) (ho : ops[i]? = some o) : ∃ e ∈ o.after,Region.binds .any e = true ∧ e.on + 1 = i := by
  have h1 := (List.all_eq_true.1 h) i (List.mem_range.2 hi)
  rw [Bool.or_eq_true,ho] at h1
  rcases h1 with h1 | h1
  · simp at h1;omega
  · obtain ⟨e,he,h2⟩ := List.any_eq_true.1 h1
    simp only [Bool.and_eq_true,decide_eq_true_eq] at h2
    exact ⟨e,by simpa using he,h2.1,h2.2⟩
theorem wpList_drop {P : Program} {ops : Array Oper} {Q : Exit → Act → World → Prop} {a : Act} {w : World} {k : Nat} {o : Oper} (ho : ops[k]? = some o) (h : wpList P ops Q (ops.toList.drop k) a w) : wpOp P ops Q k (wpList P ops Q (ops.toList.drop (k + 1))) a w := by
  have hk := (Array.getElem?_eq_some_iff.1 ho).1
  have h1 : ops.toList.drop k = o :: ops.toList.drop (k + 1) := by
    rw [List.drop_eq_getElem_cons (by simpa using hk)]
    congr 1
    have := (Array.getElem?_eq_some_iff.1 ho).2
    simpa using this
  rw [h1] at h
  unfold wpOp
  rw [ho]
  exact h
theorem region_tail {P : Program} {id : Nat} {ops : Array Oper} {Q : Exit → Act → World → Prop} {a0 : Act} {w0 : World} (N m : Nat) (hm' : ops.size = m) (hNm : N < m) (hm : P.follows .mixedOrders = true) (hd : edgesDown .any ops = true) (R : World) (sl : Nat → Option Nat) (fk : Nat → FK) (al : Nat → Nat)
    (E : Act → Prop) (hdst : ops.toList.map (·.dst) = (List.range m).map sl) (hsl : slotsOk sl m a0.tmps.size = true) (hao : alsOk fk al m = true) (hsu : succOk ops N = true) (hch : chainOk ops N m = true) (hR : Below R.heap.size R w0.drew)
    (hE : ∀ A : Act,(∀ s,(∀ j,j < m → sl j ≠ some s) → A.eval (.tmp s) = a0.eval (.tmp s)) → E A)
    (hlast : ∀ t w,Below R.heap.size R w → (∀ j,j < N → (fk j).holds R (t (al j)) w) → wpList P ops Q (ops.toList.drop N) (putAll sl t a0 m) w)
    (hstep : ∀ t w L i o A,i < N → E A → (∀ j s,j < m → sl j = some s → A.eval (.tmp s) = t j) → Below R.heap.size R w → (∀ j,j < m → L.getD j false = true → (fk j).holds R (t (al j)) w) → ops[i]? = some o → (∀ e ∈ o.after,Region.binds .any e = true → L.getD e.on false = true) → StepOk P R ops fk al t L i o A w) :
    (Code.region id ops true).wp P Q a0 w0 := by
  refine wp_region_any hm ?_
  refine wpAny_inv (fun L a w => ((∀ j,N ≤ j → L.getD j false = false) ∧ Closed ops L ∧ RegI R m sl fk al a0 L a w) ∨ (∃ k,N < k ∧ k ≤ m ∧ L.size = m ∧ (∀ j,j < k → L.getD j false = true) ∧ (∀ j,k ≤ j → L.getD j false = false) ∧ wpList P ops Q (ops.toList.drop k) a w)) hd ?_ ?_ _ _ _ _ (by rw [undone_new];exact Nat.le_refl _) ?_
  · rintro L a w (⟨h1,_,h2⟩ | ⟨k,_,hk,hL,_,h3,h⟩) hall
    · have := getD_true_of h2.1 (by omega) (hall N (by omega))
      rw [h1 N (Nat.le_refl _)] at this;cases this
    · by_cases e : k = m
      · subst e
        rw [List.drop_of_length_le (by simp;omega)] at h
        exact h
      · have := getD_true_of hL (by omega) (hall k (by omega))
        rw [h3 k (Nat.le_refl _)] at this;cases this
  · rintro L a w i o (⟨hn,hc,hL,t,rfl,hB,hf,ha,hx⟩ | ⟨k,hNk,hkm,hL,hdone,hundone,hl9⟩) ho hl hdep
    · have hi : i < m := by rw [← hm'];exact (Array.getElem?_eq_some_iff.1 ho).1
      have hs := (dst_of hdst hi ho).symm
      rcases Nat.lt_trichotomy i N with hlt | rfl | hgt
      · refine wpOp_mono (K := RegI R m sl fk al a0 (L.setIfInBounds i true)) (fun a' w' h => .inl ⟨fun j hj => by rw [getD_set_other (by omega)];exact hn j hj,hc.set ho hl hdep,h⟩) ?_
        unfold wpOp
        rw [ho]
        cases hstep t w L i o (putAll sl t a0 m) hlt (hE _ (fun s h => eval_out sl t a0 m h)) (fun j s hj hs => eval_in sl t a0 hs (slotsOk_spec hsl hj hs).1 m hj (slotsOk_spec hsl hj hs).2) hB hf ho hdep with
        | val v hr hv hw hai hb =>
          simp only [hw,if_true]
          refine .inl ?_
          unfold Oper.wp
          rw [hr,Oper.upon_value]
          exact RegI.value hi hsl hao hs hl hL hB hf ha hx (Below.refl _ _) hv hai (fun e => by rw [hb] at e;cases e)
        | call f args hr hcl hw hai hb =>
          simp only [hw,if_true]
          refine .inl ?_
          unfold Oper.wp
          rw [hr,Oper.upon_enter]
          refine hcl.mono ?_
          rintro e w' ⟨v,rfl,hv,hbw⟩
          exact RegI.value hi hsl hao hs hl hL hB hf ha hx hbw hv hai (fun e => by rw [hb] at e;cases e)
        | make v ob hr hv hw hai hb =>
          simp only [hw,if_true]
          refine .inl ?_
          unfold Oper.wp
          rw [hr,Oper.upon_value]
          exact RegI.value hi hsl hao hs hl hL hB hf ha hx ((Below.refl _ _).alloc (Nat.le_refl _) _) hv hai (fun e => by rw [hb] at e;cases e)
        | no hw hv hai hb =>
          simp only [hw]
          exact RegI.value hi hsl hao hs hl hL hB hf ha hx (Below.refl _ _) hv hai (fun e => by rw [hb] at e;cases e)
        | alloc2 u0 u1 T hr h0 h1 hw hai hk =>
          simp only [hw,if_true]
          refine .inl ?_
          unfold Oper.wp
          rw [hr,Oper.upon_value]
          refine RegI.value hi hsl hao hs hl hL hB hf ha hx ((Below.refl _ _).alloc (Nat.le_refl _) _) ?_ hai (fun _ B hlt e => ?_)
          · rw [hk];exact ⟨w.heap.size,u0,u1,rfl,hB.size,h0,h1,Bx.new w [u0,u1] T⟩
          · simp only [Value.pointer.injEq,Option.some.injEq,Addr.mk.injEq] at e;omega
        | alloc4 u0 u1 u2 u3 T hr h0 h1 h2 h3 hw hai hk =>
          simp only [hw,if_true]
          refine .inl ?_
          unfold Oper.wp
          rw [hr,Oper.upon_value]
          refine RegI.value hi hsl hao hs hl hL hB hf ha hx ((Below.refl _ _).alloc (Nat.le_refl _) _) ?_ hai (fun _ B hlt e => ?_)
          · rw [hk];exact ⟨w.heap.size,u0,u1,u2,u3,rfl,hB.size,h0,h1,h2,h3,Bx.new w [u0,u1,u2,u3] T⟩
          · simp only [Value.pointer.injEq,Option.some.injEq,Addr.mk.injEq] at e;omega
        | store2 x hda hr hw hod hal hk hne =>
          simp only [hw,if_true]
          refine .inl ?_
          have haN : al i < m := (alsOk_full hao hi (by rw [hk];rfl)).2
          have hbx := hf (al i) haN hda
          rw [alsOk_box hao haN (by rw [hal];rfl),hal] at hbx
          obtain ⟨B,u0,u1,hp,hBR,n0,n1,hq⟩ := hbx
          obtain ⟨g,p,n,c,hr',hi'⟩ := hr B u0 u1 hp hq
          unfold Oper.wp
          rw [hr',Oper.upon_skip,hod]
          refine RegI.stored hi hao hl hL hf ha hx hda (by rw [hk];rfl) (Below.sets2 hB (b := B) hBR _ _) ?_ (fun k v hns hv hh => FK.set2 hq n0 n1 rfl rfl hns (fun e => by rw [← hp];exact hv e) hh)
          rw [hk]
          exact ⟨B,g,p,n,c,hp,hBR,hq.store2 _ _,RInt.sets2 hi' hq n0 n1 _ _⟩
        | store4 x hda hr hw hod hal hk hne =>
          simp only [hw,if_true]
          refine .inl ?_
          have haN : al i < m := (alsOk_full hao hi (by rw [hk];rfl)).2
          have hbx := hf (al i) haN hda
          rw [alsOk_box hao haN (by rw [hal];rfl),hal] at hbx
          obtain ⟨B,u0,u1,u2,u3,hp,hBR,n0,n1,n2,n3,hq⟩ := hbx
          obtain ⟨g,p,n,c,h,q,m,e,hr',hi'⟩ := hr B u0 u1 u2 u3 hp hq
          unfold Oper.wp
          rw [hr',Oper.upon_skip,hod]
          refine RegI.stored hi hao hl hL hf ha hx hda (by rw [hk];rfl) (Below.sets4 hB (b := B) hBR _ _ _ _) ?_ (fun k v hns hv hh => FK.set4 hq n0 n1 n2 n3 rfl rfl rfl rfl hns (fun e => by rw [← hp];exact hv e) hh)
          rw [hk]
          exact ⟨B,g,p,n,c,h,q,m,e,hp,hBR,hq.store4 _ _ _ _,RQ.sets4 hi' hq n0 n1 n2 n3 _ _ _ _⟩
      · have hd' := all_done hsu hc ho hdep
        have h1 := hlast t w hB (fun j hj => hf j (by omega) (hd' _ j rfl hj))
        refine wpOp_mono (fun a' w' h => .inr ⟨i + 1,by omega,by omega,by simpa using hL,fun j hj => ?_,fun j hj => ?_,h⟩) (wpList_drop ho h1)
        · by_cases e : j = i
          · subst e;exact getD_set_same hl
          · exact done_set hl (hd' _ j rfl (by omega))
        · rw [getD_set_other (by omega)];exact hn j (by omega)
      · obtain ⟨e,he,hb,h1⟩ := chainOk_spec hch hi hgt ho
        have := hdep e he hb
        rw [hn e.on (by omega)] at this;cases this
    · have hi : i < m := by rw [← hm'];exact (Array.getElem?_eq_some_iff.1 ho).1
      have hik : k ≤ i := Nat.le_of_not_lt (fun h => not_done hl (hdone i h))
      rcases Nat.lt_or_eq_of_le hik with hgt | rfl
      · obtain ⟨e,he,hb,h1⟩ := chainOk_spec hch hi (by omega) ho
        have := hdep e he hb
        rw [hundone e.on (by omega)] at this;cases this
      · refine wpOp_mono (fun a' w' h => .inr ⟨k + 1,by omega,by omega,by simpa using hL,fun j hj => ?_,fun j hj => ?_,h⟩) (wpList_drop ho hl9)
        · by_cases e : j = k
          · subst e;exact getD_set_same hl
          · exact done_set hl (hdone j (by omega))
        · rw [getD_set_other (by omega)];exact hundone j (by omega)
  · have h0 : ∀ j,(Array.replicate ops.size false).getD j false = false := fun j => getD_new _ j
    have hcl : Closed ops (Array.replicate ops.size false) := fun j o ho hj => by rw [h0] at hj;cases hj
    refine .inl ⟨fun j _ => h0 j,hcl,by simp [hm'],_,(putAll_self sl a0 m (fun i s hi hs => (slotsOk_spec hsl hi hs).1)).symm,hR,fun j hj h => ?_,fun j hj h => ?_,fun j k hj hk hne b1 b2 h1 h2 => ?_⟩
    · rw [h0] at h;cases h
    · rw [h0] at h;cases h
    · rw [h0] at h1;cases h1
theorem region_taill {P : Program} {id : Nat} {ops : Array Oper} {Q : Exit → Act → World → Prop} {a0 : Act} {w0 : World} (N m : Nat) (hm' : ops.size = m) (hNm : N < m) (hm : P.follows .mixedOrders = true) (R : World) (sl : List (Option Nat)) (fk : List FK) (al : List Nat) (E : Act → Prop)
    (hd : edgesDown .any ops = true) (hdst : ops.toList.map (·.dst) = (List.range m).map (fun j => sl.getD j none)) (hlen : fk.length = m ∧ sl.length = m) (hsl : slotsOk (fun j => sl.getD j none) m a0.tmps.size = true) (hao : alsOk (fun j => fk.getD j .any) (fun j => al.getD j 0) m = true) (hsu : succOk ops N = true) (hch : chainOk ops N m = true)
    (hR : Below R.heap.size R w0.drew) (hE : ∀ A : Act,(∀ s,(∀ j,j < m → sl.getD j none ≠ some s) → A.tmps[s]?.getD undef = a0.tmps[s]?.getD undef) → E A)
    (hend : ∀ t w,Below R.heap.size R w → (∀ (i : Nat) {k : FK} {a : Nat},i < N → fk[i]? = some k → al[i]? = some a → k.holds R (t a) w) → wpList P ops Q (ops.toList.drop N) (putAll (fun j => sl.getD j none) t a0 m) w)
    (hstep : ∀ t w L i o A,E A → (∀ (i : Nat) {s : Nat},sl[i]? = some (some s) → A.tmps[s]?.getD undef = t i) → Below R.heap.size R w → (∀ (i : Nat) {k : FK} {a : Nat},fk[i]? = some k → al[i]? = some a → L.getD i false = true → k.holds R (t a) w) → i < N → ops[i]? = some o → (∀ e ∈ o.after,Region.binds .any e = true → L.getD e.on false = true) → StepOk P R ops (fun j => fk.getD j .any) (fun j => al.getD j 0) t L i o A w) :
    (Code.region id ops true).wp P Q a0 w0 := by
  refine region_tail N m hm' hNm hm hd R (fun j => sl.getD j none) (fun j => fk.getD j .any) (fun j => al.getD j 0) E hdst hsl hao hsu hch hR ?_ ?_ ?_
  · intro A hA
    refine hE A (fun s h => ?_)
    have := hA s h
    simp only [Act.eval,Array.getD_eq_getD_getElem?] at this
    exact this
  · intro t w hb hf
    refine hend t w hb (fun i k a hi h1 h2 => ?_)
    have h3 := getD_eq (d := FK.any) h1
    have h4 := (getD_eq (d := 0) h2).2
    have := hf i hi
    rw [h3.2,h4] at this
    exact this
  · intro t w L i o A hi hEA hin hb hf ho hdep
    refine hstep t w L i o A hEA (fun i s h => ?_) hb (fun i k a h1 h2 hl => ?_) hi ho hdep
    · have h3 := getD_eq (d := none) h
      exact evq (hin i s (by rw [← hlen.2];exact h3.1) h3.2)
    · have h3 := getD_eq (d := FK.any) h1
      have h4 := (getD_eq (d := 0) h2).2
      have := hf i (by rw [← hlen.1];exact h3.1) hl
      rw [h3.2,h4] at this
      exact this
end Go.Proofs.YtidfgdchcpmnfaaGreat
namespace Go.Proofs.YtidfgdchcpmnfaaGreat
open Go.RowKit
set_option linter.unusedSimpArgs false
set_option linter.unusedVariables false
set_option maxRecDepth 20000
def QC (w : World) (u0 u1 u2 u3 : Value) (K : Nat) (ok : Bool) (q : Rat) : Prop :=
  ∃ g p n c h p' n' c',u0 = .bool g ∧ u1 = .slice p n c ∧ u2 = .bool h ∧ u3 = .slice p' n' c' ∧ QRaw w (.agg #[.bool g,.slice p n c,.bool h,.slice p' n' c']) ok q ∧ n ≤ K ∧ n' ≤ K
theorem QC.below {w w' : World} {u0 u1 u2 u3 : Value} {K : Nat} {ok : Bool} {q : Rat} (h : QC w u0 u1 u2 u3 K ok q) (hb : Below w.heap.size w w') : QC w' u0 u1 u2 u3 K ok q := by
  obtain ⟨g,p,n,c,h,p',n',c',e0,e1,e2,e3,hq,k⟩ := h
  exact ⟨g,p,n,c,h,p',n',c',e0,e1,e2,e3,hq.below hb,k⟩
theorem QC.setBox {w : World} {u0 u1 u2 u3 : Value} {K : Nat} {ok : Bool} {q : Rat} (h : QC w u0 u1 u2 u3 K ok q) {a : Addr} {u : Value} (hc : w.cell? a = some u) (hu : notU32 u = true) (u' : Value) : QC (w.setCell a u') u0 u1 u2 u3 K ok q := by
  obtain ⟨g,p,n,c,h,p',n',c',e0,e1,e2,e3,hq,k⟩ := h
  exact ⟨g,p,n,c,h,p',n',c',e0,e1,e2,e3,hq.setBox hc hu u',k⟩
theorem QC.nu {w : World} {u0 u1 u2 u3 : Value} {K : Nat} {ok : Bool} {q : Rat} (h : QC w u0 u1 u2 u3 K ok q) : notU32 u0 = true ∧ notU32 u1 = true ∧ notU32 u2 = true ∧ notU32 u3 = true := by
  obtain ⟨g,p,n,c,h,p',n',c',rfl,rfl,rfl,rfl,hq,k⟩ := h
  exact ⟨rfl,rfl,rfl,rfl⟩
theorem QC.mono {w : World} {u0 u1 u2 u3 : Value} {K K' : Nat} {ok : Bool} {q : Rat} (h : QC w u0 u1 u2 u3 K ok q) (hK : K ≤ K') : QC w u0 u1 u2 u3 K' ok q := by
  obtain ⟨g,p,n,c,h,p',n',c',e0,e1,e2,e3,hq,k,k'⟩ := h
  exact ⟨g,p,n,c,h,p',n',c',e0,e1,e2,e3,hq,by omega,by omega⟩
theorem QC.of {w : World} {g h : Bool} {p p' : Option Addr} {n c n' c' K : Nat} {q : Rat} (hq : RQ w (.agg #[.bool g,.slice p n c,.bool h,.slice p' n' c']) q) (hK : rsz q ≤ K) : QC w (.bool g) (.slice p n c) (.bool h) (.slice p' n' c') K true q := by
  have hn := hq.qn hK
  obtain ⟨_,_,_,_,_,_,_,_,e,l1,l2⟩ := hn
  simp only [Value.agg.injEq,Array.mk.injEq,List.cons.injEq,Value.slice.injEq,Value.bool.injEq] at e
  obtain ⟨rfl,⟨rfl,rfl,rfl⟩,rfl,⟨rfl,rfl,rfl⟩,_⟩ := e
  exact ⟨g,p,_,c,h,p',_,c',rfl,rfl,rfl,rfl,hq.raw,l1,l2⟩
theorem QC.zero (w : World) (K : Nat) : QC w (.bool false) (.slice none 0 0) (.bool false) (.slice none 0 0) K false 0 := by
  refine ⟨false,none,0,0,false,none,0,0,rfl,rfl,rfl,rfl,⟨_,_,_,_,true,true,0,0,rfl,?_,?_,?_,by simp⟩,by omega,by omega⟩
  · exact ⟨false,_,[],rfl,.inl ⟨rfl,rfl⟩,by simp,by simp [cnt,vldB_nil],by simp [vldB_nil]⟩
  · exact ⟨false,_,[],rfl,.inl ⟨rfl,rfl⟩,by simp,by simp [cnt,vldB_nil],by simp [vldB_nil]⟩
  · simp
theorem QC.open {w : World} {u0 u1 u2 u3 : Value} {K : Nat} {ok : Bool} {q : Rat} (h : QC w u0 u1 u2 u3 K ok q) : ∃ g p n c h p' n' c',u0 = .bool g ∧ u1 = .slice p n c ∧ u2 = .bool h ∧ u3 = .slice p' n' c' ∧ QRaw w (.agg #[.bool g,.slice p n c,.bool h,.slice p' n' c']) ok q ∧ Qn (.agg #[.bool g,.slice p n c,.bool h,.slice p' n' c']) K := by
  obtain ⟨g,p,n,c,h,p',n',c',e0,e1,e2,e3,hq,k,k'⟩ := h
  exact ⟨g,p,n,c,h,p',n',c',e0,e1,e2,e3,hq,⟨_,_,_,_,_,_,_,_,rfl,k,k'⟩⟩
def RowR (w : World) (s : Value) (n K : Nat) (ok : Nat → Bool) (e : Nat → Rat) : Prop :=
  ∃ p c,s = .slice p n c ∧ n ≤ c ∧ c ≤ 9223372036854775807 ∧ (0 < n → ∃ b o,p = some ⟨b,o,none⟩ ∧ b < w.heap.size ∧ ∀ i,i < n → ∃ u0 u1 u2 u3,w.cell? ⟨b,o + i * 4,none⟩ = some u0 ∧ w.cell? ⟨b,o + i * 4 + 1,none⟩ = some u1 ∧ w.cell? ⟨b,o + i * 4 + 2,none⟩ = some u2 ∧ w.cell? ⟨b,o + i * 4 + 3,none⟩ = some u3 ∧ QC w u0 u1 u2 u3 K (ok i) (e i))
theorem RowR.below {w w' : World} {s : Value} {n K : Nat} {ok : Nat → Bool} {e : Nat → Rat} (h : RowR w s n K ok e) (hb : Below w.heap.size w w') : RowR w' s n K ok e := by
  obtain ⟨p,c,hs,h1,h2,h3⟩ := h
  refine ⟨p,c,hs,h1,h2,fun hn => ?_⟩
  obtain ⟨b,o,hp,hlt,hi⟩ := h3 hn
  have hc := (bcell hb).1
  refine ⟨b,o,hp,Nat.lt_of_lt_of_le hlt hb.size,fun i hin => ?_⟩
  obtain ⟨u0,u1,u2,u3,c0,c1,c2,c3,hq⟩ := hi i hin
  exact ⟨u0,u1,u2,u3,by rw [hc _ _ hlt];exact c0,by rw [hc _ _ hlt];exact c1,by rw [hc _ _ hlt];exact c2,by rw [hc _ _ hlt];exact c3,hq.below hb⟩
theorem RowR.form {w : World} {s : Value} {n K : Nat} {ok : Nat → Bool} {e : Nat → Rat} (h : RowR w s n K ok e) : ∃ p c,s = .slice p n c ∧ n ≤ c ∧ c ≤ 9223372036854775807 := by
  obtain ⟨p,c,hs,h1,h2,h3⟩ := h
  exact ⟨p,c,hs,h1,h2⟩
theorem RowR.congr {w : World} {s : Value} {n K : Nat} {ok ok' : Nat → Bool} {e e' : Nat → Rat} (h : RowR w s n K ok e) (h1 : ∀ i,i < n → ok i = ok' i) (h2 : ∀ i,i < n → e i = e' i) : RowR w s n K ok' e' := by
  obtain ⟨p,c,hs,k1,k2,h3⟩ := h
  refine ⟨p,c,hs,k1,k2,fun hn => ?_⟩
  obtain ⟨b,o,hp,hlt,hi⟩ := h3 hn
  refine ⟨b,o,hp,hlt,fun i hin => ?_⟩
  rw [← h1 i hin,← h2 i hin]
  exact hi i hin
theorem RowR.mono {w : World} {s : Value} {n K K' : Nat} {ok : Nat → Bool} {e : Nat → Rat} (h : RowR w s n K ok e) (hK : K ≤ K') : RowR w s n K' ok e := by
  obtain ⟨p,c,hs,k1,k2,h3⟩ := h
  refine ⟨p,c,hs,k1,k2,fun hn => ?_⟩
  obtain ⟨b,o,hp,hlt,hi⟩ := h3 hn
  refine ⟨b,o,hp,hlt,fun i hin => ?_⟩
  obtain ⟨u0,u1,u2,u3,c0,c1,c2,c3,hq⟩ := hi i hin
  exact ⟨u0,u1,u2,u3,c0,c1,c2,c3,hq.mono hK⟩
theorem RowR.at_ {w : World} {p : Option Addr} {n c K : Nat} {ok : Nat → Bool} {e : Nat → Rat} (h : RowR w (.slice p n c) n K ok e) {k : Nat} (hk : k < n) :
    ∃ b o g q m d g' q' m' d',p = some ⟨b,o,none⟩ ∧ b < w.heap.size ∧ w.cell? ⟨b,o + k * 4,none⟩ = some (.bool g) ∧ w.cell? ⟨b,o + k * 4 + 1,none⟩ = some (.slice q m d) ∧ w.cell? ⟨b,o + k * 4 + 2,none⟩ = some (.bool g') ∧ w.cell? ⟨b,o + k * 4 + 3,none⟩ = some (.slice q' m' d') ∧
      QRaw w (.agg #[.bool g,.slice q m d,.bool g',.slice q' m' d']) (ok k) (e k) ∧ Qn (.agg #[.bool g,.slice q m d,.bool g',.slice q' m' d']) K := by
  obtain ⟨p',c',hs,h1,h2,h3⟩ := h
  cases hs
  obtain ⟨b,o,hp,hlt,hi⟩ := h3 (by omega)
  obtain ⟨u0,u1,u2,u3,c0,c1,c2,c3,hq⟩ := hi k hk
  obtain ⟨g,q,m,d,g',q',m',d',rfl,rfl,rfl,rfl,hr,hn⟩ := hq.open
  exact ⟨b,o,g,q,m,d,g',q',m',d',hp,hlt,c0,c1,c2,c3,hr,hn⟩
def MatR (w : World) (v : Value) (R : Nat) (L : Nat → Nat) (K : Nat) (ok : Nat → Nat → Bool) (e : Nat → Nat → Rat) : Prop :=
  ∃ p c,v = .slice p R c ∧ R ≤ c ∧ c ≤ 9223372036854775807 ∧ (0 < R → ∃ b o,p = some ⟨b,o,none⟩ ∧ b < w.heap.size ∧ ∀ i,i < R → ∃ s,w.cell? ⟨b,o + i,none⟩ = some s ∧ RowR w s (L i) K (ok i) (e i))
theorem MatR.below {w w' : World} {v : Value} {R K : Nat} {L : Nat → Nat} {ok : Nat → Nat → Bool} {e : Nat → Nat → Rat} (h : MatR w v R L K ok e) (hb : Below w.heap.size w w') : MatR w' v R L K ok e := by
  obtain ⟨p,c,hs,h1,h2,h3⟩ := h
  refine ⟨p,c,hs,h1,h2,fun hn => ?_⟩
  obtain ⟨b,o,hp,hlt,hi⟩ := h3 hn
  have hc := (bcell hb).1
  refine ⟨b,o,hp,Nat.lt_of_lt_of_le hlt hb.size,fun i hin => ?_⟩
  obtain ⟨s,c0,hr⟩ := hi i hin
  exact ⟨s,by rw [hc _ _ hlt];exact c0,hr.below hb⟩
theorem MatR.form {w : World} {v : Value} {R K : Nat} {L : Nat → Nat} {ok : Nat → Nat → Bool} {e : Nat → Nat → Rat} (h : MatR w v R L K ok e) : ∃ p c,v = .slice p R c ∧ R ≤ c ∧ c ≤ 9223372036854775807 := by
  obtain ⟨p,c,hs,h1,h2,h3⟩ := h
  exact ⟨p,c,hs,h1,h2⟩
theorem MatR.congr {w : World} {v : Value} {R K : Nat} {L L' : Nat → Nat} {ok ok' : Nat → Nat → Bool} {e e' : Nat → Nat → Rat} (h : MatR w v R L K ok e) (hL : ∀ i,i < R → L i = L' i) (h1 : ∀ i,i < R → ∀ j,j < L i → ok i j = ok' i j) (h2 : ∀ i,i < R → ∀ j,j < L i → e i j = e' i j) : MatR w v R L' K ok' e' := by
  obtain ⟨p,c,hs,k1,k2,h3⟩ := h
  refine ⟨p,c,hs,k1,k2,fun hn => ?_⟩
  obtain ⟨b,o,hp,hlt,hi⟩ := h3 hn
  refine ⟨b,o,hp,hlt,fun i hin => ?_⟩
  obtain ⟨s,c0,hr⟩ := hi i hin
  rw [← hL i hin]
  exact ⟨s,c0,hr.congr (h1 i hin) (h2 i hin)⟩
theorem MatR.mono {w : World} {v : Value} {R K K' : Nat} {L : Nat → Nat} {ok : Nat → Nat → Bool} {e : Nat → Nat → Rat} (h : MatR w v R L K ok e) (hK : K ≤ K') : MatR w v R L K' ok e := by
  obtain ⟨p,c,hs,k1,k2,h3⟩ := h
  refine ⟨p,c,hs,k1,k2,fun hn => ?_⟩
  obtain ⟨b,o,hp,hlt,hi⟩ := h3 hn
  refine ⟨b,o,hp,hlt,fun i hin => ?_⟩
  obtain ⟨s,c0,hr⟩ := hi i hin
  exact ⟨s,c0,hr.mono hK⟩
theorem MatR.at_ {w : World} {p : Option Addr} {R c K : Nat} {L : Nat → Nat} {ok : Nat → Nat → Bool} {e : Nat → Nat → Rat} (h : MatR w (.slice p R c) R L K ok e) {k : Nat} (hk : k < R) :
    ∃ b o q d,p = some ⟨b,o,none⟩ ∧ b < w.heap.size ∧ w.cell? ⟨b,o + k,none⟩ = some (.slice q (L k) d) ∧ RowR w (.slice q (L k) d) (L k) K (ok k) (e k) := by
  obtain ⟨p',c',hs,h1,h2,h3⟩ := h
  cases hs
  obtain ⟨b,o,hp,hlt,hi⟩ := h3 (by omega)
  obtain ⟨s,c0,hr⟩ := hi k hk
  obtain ⟨q,d,rfl,_,_⟩ := hr.form
  exact ⟨b,o,q,d,hp,hlt,c0,hr⟩
def MatQ (w : World) (v : Value) (R C K : Nat) (e : Nat → Nat → Rat) : Prop := MatR w v R (fun _ => C) K (fun _ _ => true) e
def RowQ (w : World) (v : Value) (n K : Nat) (e : Nat → Rat) : Prop := RowR w v n K (fun _ => true) e
def RowO (w : World) (b n K : Nat) (ok : Nat → Bool) (e : Nat → Rat) : Prop :=
  ∃ f,w.rowIs b 30 (n * 4) f ∧ ∀ j,j < n → QC w (f (j * 4)) (f (j * 4 + 1)) (f (j * 4 + 2)) (f (j * 4 + 3)) K (ok j) (e j)
theorem RowO.lt {w : World} {b n K : Nat} {ok : Nat → Bool} {e : Nat → Rat} (h : RowO w b n K ok e) : b < w.heap.size := by
  obtain ⟨f,h1,h2⟩ := h;exact h1.lt
theorem RowO.below {w w' : World} {b n K m : Nat} {ok : Nat → Bool} {e : Nat → Rat} (h : RowO w b n K ok e) (hb : Below w.heap.size w w') : RowO w' b n K ok e := by
  obtain ⟨f,h1,h2⟩ := h
  exact ⟨f,h1.of_block (hb.block b h1.lt),fun j hj => (h2 j hj).below hb⟩
theorem RowO.cells {w : World} {b n K : Nat} {ok : Nat → Bool} {e : Nat → Rat} (h : RowO w b n K ok e) {k : Nat} (hk : k < n) :
    ∃ g q m d g' q' m' d',w.cell? ⟨b,k * 4,none⟩ = some (.bool g) ∧ w.cell? ⟨b,k * 4 + 1,none⟩ = some (.slice q m d) ∧ w.cell? ⟨b,k * 4 + 2,none⟩ = some (.bool g') ∧ w.cell? ⟨b,k * 4 + 3,none⟩ = some (.slice q' m' d') ∧
      QRaw w (.agg #[.bool g,.slice q m d,.bool g',.slice q' m' d']) (ok k) (e k) ∧ Qn (.agg #[.bool g,.slice q m d,.bool g',.slice q' m' d']) K := by
  obtain ⟨f,h1,h2⟩ := h
  obtain ⟨g,q,m,d,g',q',m',d',e0,e1,e2,e3,hr,hn⟩ := (h2 k hk).open
  exact ⟨g,q,m,d,g',q',m',d',by rw [← e0];exact h1.cell (by omega),by rw [← e1];exact h1.cell (by omega),by rw [← e2];exact h1.cell (by omega),by rw [← e3];exact h1.cell (by omega),hr,hn⟩
theorem RowO.frozen {w : World} {b n K : Nat} {ok : Nat → Bool} {e : Nat → Rat} (h : RowO w b n K ok e) (i : Nat) : w.frozen? ⟨b,i,none⟩ = false := by
  obtain ⟨f,h1,h2⟩ := h;exact h1.frozen i
theorem RowO.toR {w : World} {b n K : Nat} {ok : Nat → Bool} {e : Nat → Rat} (h : RowO w b n K ok e) (hn : n ≤ 9223372036854775807) : RowR w (.slice (some ⟨b,0,none⟩) n n) n K ok e := by
  refine ⟨_,_,rfl,Nat.le_refl _,hn,fun _ => ⟨b,0,rfl,h.lt,fun i hi => ?_⟩⟩
  obtain ⟨f,h1,h2⟩ := h
  exact ⟨_,_,_,_,by rw [Nat.zero_add];exact h1.cell (by omega),by rw [Nat.zero_add];exact h1.cell (by omega),by rw [Nat.zero_add];exact h1.cell (by omega),by rw [Nat.zero_add];exact h1.cell (by omega),h2 i hi⟩
theorem RowO.other {w : World} {b n K : Nat} {ok : Nat → Bool} {e : Nat → Rat} (h : RowO w b n K ok e) {b' o' : Nat} (hne : b ≠ b') {u : Value} (hc : w.cell? ⟨b',o',none⟩ = some u) (hu : notU32 u = true) (x : Value) : RowO (w.setCell ⟨b',o',none⟩ x) b n K ok e := by
  obtain ⟨f,h1,h2⟩ := h
  exact ⟨f,h1.setOther (by simpa using hne) x,fun j hj => (h2 j hj).setBox hc hu x⟩
def st4 (w : World) (b o : Nat) (x0 x1 x2 x3 : Value) : World := (((w.setCell ⟨b,o,none⟩ x0).setCell ⟨b,o + 1,none⟩ x1).setCell ⟨b,o + 2,none⟩ x2).setCell ⟨b,o + 3,none⟩ x3
theorem QC.set4 {w : World} {y0 y1 y2 y3 : Value} {K : Nat} {ok : Bool} {q : Rat} (h : QC w y0 y1 y2 y3 K ok q) {b o : Nat} {u0 u1 u2 u3 : Value} (c0 : w.cell? ⟨b,o,none⟩ = some u0) (c1 : w.cell? ⟨b,o + 1,none⟩ = some u1) (c2 : w.cell? ⟨b,o + 2,none⟩ = some u2) (c3 : w.cell? ⟨b,o + 3,none⟩ = some u3)
    (n0 : notU32 u0 = true) (n1 : notU32 u1 = true) (n2 : notU32 u2 = true) (n3 : notU32 u3 = true) (x0 x1 x2 x3 : Value) : QC (st4 w b o x0 x1 x2 x3) y0 y1 y2 y3 K ok q := by
  refine (((h.setBox c0 n0 x0).setBox (a := ⟨b,o + 1,none⟩) (u := u1) ?_ n1 x1).setBox (a := ⟨b,o + 2,none⟩) (u := u2) ?_ n2 x2).setBox (a := ⟨b,o + 3,none⟩) (u := u3) ?_ n3 x3
  · rw [World.cell?_setCell_other _ _ _ _ (by simp)];exact c1
  · rw [World.cell?_setCell_other _ _ _ _ (by simp),World.cell?_setCell_other _ _ _ _ (by simp)];exact c2
  · rw [World.cell?_setCell_other _ _ _ _ (by simp),World.cell?_setCell_other _ _ _ _ (by simp),World.cell?_setCell_other _ _ _ _ (by simp)];exact c3
theorem RowO.set4 {w : World} {b n K : Nat} {ok : Nat → Bool} {e : Nat → Rat} (h : RowO w b n K ok e) {k : Nat} (hk : k < n) {x0 x1 x2 x3 : Value} {q : Rat} (hq : QC w x0 x1 x2 x3 K true q) :
    RowO (st4 w b (k * 4) x0 x1 x2 x3) b n K (fun j => if j = k then true else ok j) (fun j => if j = k then q else e j) := by
  obtain ⟨f,h1,h2⟩ := h
  refine ⟨_,(((h1.set (k * 4) x0).set (k * 4 + 1) x1).set (k * 4 + 2) x2).set (k * 4 + 3) x3,fun j hj => ?_⟩
  have N := (h2 k hk).nu
  have hc : ∀ i,i < 4 → w.cell? ⟨b,k * 4 + i,none⟩ = some (f (k * 4 + i)) := fun i hi => h1.cell (by omega)
  have S := fun {y0 y1 y2 y3 : Value} {ok' : Bool} {q' : Rat} (g : QC w y0 y1 y2 y3 K ok' q') => g.set4 (b := b) (o := k * 4) (hc 0 (by omega)) (hc 1 (by omega)) (hc 2 (by omega)) (hc 3 (by omega)) N.1 N.2.1 N.2.2.1 N.2.2.2 x0 x1 x2 x3
  by_cases e1 : j = k
  · subst e1
    simp only [if_pos]
    have := S hq
    simpa [show ∀ a : Nat,¬ a = a + 1 from fun a => by omega,show ∀ a : Nat,¬ a = a + 2 from fun a => by omega,show ∀ a : Nat,¬ a = a + 3 from fun a => by omega] using this
  · simp only [if_neg e1]
    have := S (h2 j hj)
    have a0 : ∀ x y,x < 4 → y < 4 → ¬ j * 4 + x = k * 4 + y := fun x y hx hy => by omega
    have a1 := a0 0
    have a2 := fun y => a0 y 0
    simpa [a0 0 0 (by omega) (by omega),a0 0 1 (by omega) (by omega),a0 0 2 (by omega) (by omega),a0 0 3 (by omega) (by omega),a0 1 0 (by omega) (by omega),a0 1 1 (by omega) (by omega),a0 1 2 (by omega) (by omega),a0 1 3 (by omega) (by omega),
      a0 2 0 (by omega) (by omega),a0 2 1 (by omega) (by omega),a0 2 2 (by omega) (by omega),a0 2 3 (by omega) (by omega),a0 3 0 (by omega) (by omega),a0 3 1 (by omega) (by omega),a0 3 2 (by omega) (by omega),a0 3 3 (by omega) (by omega),
      show ¬ j * 4 = k * 4 by omega,show ¬ j * 4 = k * 4 + 1 by omega,show ¬ j * 4 = k * 4 + 2 by omega,show ¬ j * 4 = k * 4 + 3 by omega,show ¬ j * 4 + 1 = k * 4 by omega,show ¬ j * 4 + 2 = k * 4 by omega,show ¬ j * 4 + 3 = k * 4 by omega,e1] using this
theorem RowO.other4 {w : World} {b n K : Nat} {ok : Nat → Bool} {e : Nat → Rat} (h : RowO w b n K ok e) {b' n' K' : Nat} {ok' : Nat → Bool} {e' : Nat → Rat} (h' : RowO w b' n' K' ok' e') (hne : b ≠ b') {k : Nat} (hk : k < n') (x0 x1 x2 x3 : Value) : RowO (st4 w b' (k * 4) x0 x1 x2 x3) b n K ok e := by
  obtain ⟨f,h1,h2⟩ := h
  obtain ⟨g,h3,h4⟩ := h'
  refine ⟨f,(((h1.setOther (by simpa using hne) x0).setOther (by simpa using hne) x1).setOther (by simpa using hne) x2).setOther (by simpa using hne) x3,fun j hj => ?_⟩
  have N := (h4 k hk).nu
  have hc : ∀ i,i < 4 → w.cell? ⟨b',k * 4 + i,none⟩ = some (g (k * 4 + i)) := fun i hi => h3.cell (by omega)
  exact (h2 j hj).set4 (b := b') (o := k * 4) (hc 0 (by omega)) (hc 1 (by omega)) (hc 2 (by omega)) (hc 3 (by omega)) N.1 N.2.1 N.2.2.1 N.2.2.2 x0 x1 x2 x3
structure MatO (w : World) (base b R C K m : Nat) (rb : Nat → Nat) (e : Nat → Nat → Rat) : Prop where
  outer : w.rowIs b 25 R (fun i => if i < m then .slice (some ⟨rb i,0,none⟩) C C else .slice none 0 0)
  hb : base ≤ b
  rows : ∀ i,i < m → RowO w (rb i) C K (fun _ => true) (e i)
  hrb : ∀ i,i < m → base ≤ rb i ∧ rb i ≠ b
  inj : ∀ i j,i < m → j < m → rb i = rb j → i = j
theorem MatO.below {w w' : World} {base b R C K m : Nat} {rb : Nat → Nat} {e : Nat → Nat → Rat} (h : MatO w base b R C K m rb e) (hb : Below w.heap.size w w') : MatO w' base b R C K m rb e :=
  ⟨h.outer.of_block (hb.block b h.outer.lt),h.hb,fun i hi => (h.rows i hi).below (m := 0) hb,h.hrb,h.inj⟩
theorem MatO.toR {w : World} {base b R C K : Nat} {rb : Nat → Nat} {e : Nat → Nat → Rat} (h : MatO w base b R C K R rb e) (hR : R ≤ 9223372036854775807) (hC : C ≤ 9223372036854775807) : MatQ w (.slice (some ⟨b,0,none⟩) R R) R C K e := by
  refine ⟨_,_,rfl,Nat.le_refl _,hR,fun _ => ⟨b,0,rfl,h.outer.lt,fun i hi => ⟨_,?_,(h.rows i hi).toR hC⟩⟩⟩
  rw [Nat.zero_add,h.outer.cell hi,if_pos hi]
end Go.Proofs.YtidfgdchcpmnfaaGreat
