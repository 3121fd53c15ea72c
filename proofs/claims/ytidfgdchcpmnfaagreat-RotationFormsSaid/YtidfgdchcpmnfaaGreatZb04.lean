/-
  Lemmas for the statements about rotations, part 4 of 51.
-/
import Derived.Deep.AppendLies
import Derived.OrdersIn
import Derived.WalkKit
namespace Go.Proofs.YtidfgdchcpmnfaaGreat
open Go
set_option linter.unusedVariables false
def undone (L : Array Bool) : Nat := (L.toList.filter (! ·)).length
theorem undone_set {L : Array Bool} {i : Nat} (hi : L.getD i true = false) : undone (L.setIfInBounds i true) + 1 = undone L := by
  unfold undone
  rw [Array.toList_setIfInBounds]
  have h : L.toList[i]? = some false := by
    rw [Array.getElem?_toList]
    rw [Array.getD_eq_getD_getElem?] at hi
    cases he : L[i]? with
    | none => rw [he] at hi;simp at hi
    | some b => rw [he] at hi;simp at hi;rw [hi]
  generalize L.toList = l at *
  clear hi
  induction l generalizing i with
  | nil => simp at h
  | cons b l ih =>
    cases i with
    | zero => simp at h;subst h;simp
    | succ i =>
      simp at h
      have := ih h
      rw [List.set_cons_succ]
      cases b <;> simp at this ⊢ <;> omega
def edgesDown (md : Region.Mode) (ops : Array Oper) : Bool := ops.toList.zipIdx.all fun (o,i) => o.after.all fun e => !Region.binds md e || decide (e.on < i)
theorem ready_mem {md : Region.Mode} {ops : Array Oper} {L : Array Bool} {i : Nat} (h : i ∈ Region.ready md ops L) :
    ∃ o,ops[i]? = some o ∧ L.getD i true = false ∧ ∀ e ∈ o.after,Region.binds md e = true → L.getD e.on false = true := by
  unfold Region.ready at h
  rw [List.mem_filter] at h
  obtain ⟨h1,h2⟩ := h
  cases ho : ops[i]? with
  | none => rw [ho] at h2;simp at h2
  | some o =>
    rw [ho] at h2
    simp only [Option.map_some,Option.getD_some,Bool.and_eq_true,Bool.not_eq_true'] at h2
    refine ⟨o,rfl,h2.1,fun e he hb => ?_⟩
    have := Array.all_eq_true_iff_forall_mem.1 h2.2 e he
    simpa [hb] using this
theorem all_of_unready {md : Region.Mode} {ops : Array Oper} {L : Array Bool} (hd : edgesDown md ops = true) (h : Region.ready md ops L = []) : ∀ i,i < ops.size → L.getD i true = true := by
  intro i
  induction i using Nat.strongRecOn with
  | _ i ih =>
    intro hi
    cases hl : L.getD i true with
    | true => rfl
    | false =>
      exfalso
      have hm : i ∈ Region.ready md ops L := by
        unfold Region.ready
        rw [List.mem_filter]
        refine ⟨List.mem_range.2 hi,?_⟩
        have ho : ops[i]? = some ops[i] := Array.getElem?_eq_getElem hi
        rw [hl,ho]
        simp only [Bool.not_false,Option.map_some,Option.getD_some,Bool.true_and]
        rw [Array.all_eq_true_iff_forall_mem]
        intro e he
        unfold edgesDown at hd
        rw [List.all_eq_true] at hd
        have h1 := hd (ops[i],i) (by rw [List.mem_zipIdx_iff_getElem?];simp)
        have h2 := Array.all_eq_true_iff_forall_mem.1 h1 e he
        cases hb : Region.binds md e with
        | false => simp
        | true =>
          simp only [hb,Bool.not_true,Bool.false_or,decide_eq_true_eq] at h2 ⊢
          have h3 := ih e.on h2 (by omega)
          rw [Array.getD_eq_getD_getElem?] at h3 ⊢
          have : e.on < L.size := by
            rcases Nat.lt_or_ge e.on L.size with h4 | h4
            · exact h4
            · exfalso
              rw [Array.getD_eq_getD_getElem?,Array.getElem?_eq_none (by omega)] at hl
              simp at hl
          rw [Array.getElem?_eq_getElem this] at h3 ⊢
          simpa using h3
      rw [h] at hm
      simp at hm
theorem wpAnyIn_inv {F : Fence} {n : Nat} {P : Program} {md : Region.Mode} {ops : Array Oper} {Q : Exit → Act → World → Prop} (I : Array Bool → Act → World → Prop) (hd : edgesDown md ops = true)
    (hend : ∀ L a w,I L a w → (∀ i,i < ops.size → L.getD i true = true) → Q .normal a w)
    (hstep : ∀ L a w i o,I L a w → ops[i]? = some o → L.getD i true = false → (∀ e ∈ o.after,Region.binds md e = true → L.getD e.on false = true) → wpOpIn F n P ops Q i (I (L.setIfInBounds i true)) a w) :
    ∀ fuel L a w,undone L ≤ fuel → I L a w → wpAnyIn F n P md ops Q fuel L a w := by
  intro fuel
  induction fuel with
  | zero =>
    intro L a w hu hI
    have hn : Region.ready md ops L = [] := by
      cases hr : Region.ready md ops L with
      | nil => rfl
      | cons i r =>
        exfalso
        obtain ⟨o,_,h2,_⟩ := ready_mem (by rw [hr];exact List.mem_cons_self)
        have := undone_set h2
        omega
    exact ⟨hn,hend L a w hI (all_of_unready hd hn)⟩
  | succ fuel ih =>
    intro L a w hu hI
    refine ⟨fun hn => hend L a w hI (all_of_unready hd hn),fun i hi => ?_⟩
    obtain ⟨o,h1,h2,h3⟩ := ready_mem hi
    refine wpOpIn_mono (fun a' w' h' => ih _ _ _ ?_ h') (hstep L a w i o hI h1 h2 h3)
    have := undone_set h2
    omega
theorem undone_new (n : Nat) : undone (Array.replicate n false) = n := by simp [undone]
theorem getD_set_same {L : Array Bool} {i : Nat} (h : L.getD i true = false) : (L.setIfInBounds i true).getD i false = true := by
  have hi : i < L.size := by
    rcases Nat.lt_or_ge i L.size with h1 | h1
    · exact h1
    · rw [Array.getD_eq_getD_getElem?,Array.getElem?_eq_none (by omega)] at h;simp at h
  rw [Array.getD_eq_getD_getElem?,Array.getElem?_setIfInBounds_self_of_lt hi];rfl
theorem getD_set_other {L : Array Bool} {i j : Nat} (h : i ≠ j) : (L.setIfInBounds i true).getD j false = L.getD j false := by
  rw [Array.getD_eq_getD_getElem?,Array.getElem?_setIfInBounds_ne h,← Array.getD_eq_getD_getElem?]
theorem getD_new (n j : Nat) : (Array.replicate n false).getD j false = false := by
  rw [Array.getD_eq_getD_getElem?,Array.getElem?_replicate]
  split <;> rfl
theorem getD_false_of {L : Array Bool} {i : Nat} (h : L.getD i true = false) : L.getD i false = false := by
  rw [Array.getD_eq_getD_getElem?] at *
  cases hl : L[i]? with
  | none => rfl
  | some b => rw [hl] at h;simpa using h
theorem getD_true_of {L : Array Bool} {i n : Nat} (hn : L.size = n) (hi : i < n) (h : L.getD i true = true) : L.getD i false = true := by
  rw [Array.getD_eq_getD_getElem?] at *
  have : i < L.size := by omega
  rw [Array.getElem?_eq_getElem this] at *
  simpa using h
theorem wpList_append_lies {P : Program} {w : World} {ops : Array Oper} {rest : List Oper} {o : Oper} {a : Act} {Q : Exit → Act → World → Prop} (hgd : o.guard = none) (s x : Operand) (t : TypeId)
    (ho : o.op = .call { callee := .builtin .append,args := #[s,x],argTypes := #[t,t] })
    (base : Nat) (e : TypeId) (i : TypeInfo) (z : Value) (size bytes : Nat) (ht : P.underlying t = some (.slice e)) (hi : P.info? e = some i) (hz : i.zero = some z)
    (hsize : i.size = size) (hby : i.bytes = bytes) (hzs : z.cells.size = size) (hsz : 0 < size)
    (v : Value) (n : Nat) (xs : List Value) (hs : a.eval s = v) (hown : w.ownsRow base e size v n xs)
    (ad : Addr) (m c : Nat) (news : List Value) (hx : a.eval x = .slice (some ad) m c) (hl : news.length = m * size) (hnews : ∀ j u,news[j]? = some u → w.cell? (ad.add j) = some u) (h1 : ∀ u ∈ news,u.oneCell' = true)
    (hm : 0 < m) (h63 : n + m ≤ maxLen) (hbytes : (n + m) * bytes ≤ 140737488355328) (hbase : base ≤ w.heap.size)
    (h : ∀ g cap w',w'.ownsRow base e size (.slice (some ⟨g,0,none⟩) (n + m) cap) (n + m) (xs ++ news) → w.grownBy w' v.ownBlock → (v.ownBlock = some g ∨ g = w.heap.size) → g < w'.heap.size → wpList P ops Q rest (a.put o.dst (.slice (some ⟨g,0,none⟩) (n + m) cap)) w') :
    wpList P ops Q (o :: rest) a w :=
  wpList_plain hgd fun K hK => wp_append_lies w s x t ho base e i z size bytes ht hi hz hsize hby hzs hsz v n xs hs hown ad m c news hx hl hnews h1 hm h63 hbytes hbase w.heap.size rfl
    fun g cap w' a1 a2 a3 a4 => hK _ _ (h g cap w' a1 a2 a3 a4)
theorem owns_base {w : World} {base base' : Nat} {e : TypeId} {size : Nat} {v : Value} {n : Nat} {xs : List Value} (h : w.ownsRow base e size v n xs) (hb : base' ≤ base) : w.ownsRow base' e size v n xs := by
  obtain ⟨h1,h2⟩ := h
  refine ⟨h1,?_⟩
  rcases h2 with h2 | ⟨g,cap,cur,hv,hg,r⟩
  · exact .inl h2
  · exact .inr ⟨g,cap,cur,hv,by omega,r⟩
theorem owns_below {w w' : World} {base B : Nat} {e : TypeId} {size : Nat} {v : Value} {n : Nat} {xs : List Value} (h : w.ownsRow base e size v n xs) (hb : RowKit.Below B w w') (hB : ∀ g,v.ownBlock = some g → g < B) : w'.ownsRow base e size v n xs := by
  obtain ⟨h1,h2⟩ := h
  refine ⟨h1,?_⟩
  rcases h2 with h2 | ⟨g,cap,cur,hv,hg,hh,r⟩
  · exact .inl h2
  · exact .inr ⟨g,cap,cur,hv,hg,by rw [hb.block g (hB g (by rw [hv];rfl))];exact hh,r⟩
theorem owns_to {w w' : World} {base : Nat} {e : TypeId} {size : Nat} {v : Value} {n : Nat} {xs : List Value} (h : w.ownsRow base e size v n xs) (hb : RowKit.Below w.heap.size w w') : w'.ownsRow base e size v n xs :=
  owns_below h hb fun g hg => (h.lt g hg).2
theorem owns_form {w : World} {base : Nat} {e : TypeId} {size : Nat} {v : Value} {n : Nat} {xs : List Value} (h : w.ownsRow base e size v n xs) (hn : n ≠ 0) : ∃ g cap,v = .slice (some ⟨g,0,none⟩) n cap ∧ base ≤ g ∧ g < w.heap.size ∧ n ≤ cap := by
  rcases h.2 with ⟨_,h0⟩ | ⟨g,cap,cur,hv,hg,hh,hc,_⟩
  · exact absurd h0 hn
  · exact ⟨g,cap,hv,hg,(Array.getElem?_eq_some_iff.1 hh).1,hc⟩
theorem owns_set_other {w : World} {base : Nat} {e : TypeId} {size : Nat} {v : Value} {n : Nat} {xs : List Value} (h : w.ownsRow base e size v n xs) {a : Addr} (ha : v.ownBlock ≠ some a.block) (u : Value) : (w.setCell a u).ownsRow base e size v n xs :=
  h.kept (row := some a.block) ⟨rfl,rfl,rfl,by simp [World.setCell],fun k hk hne => RowKit.Below.heap_setCell _ _ _ _ (by intro e;exact hne (by rw [e]))⟩ (.inr ha)
end Go.Proofs.YtidfgdchcpmnfaaGreat
