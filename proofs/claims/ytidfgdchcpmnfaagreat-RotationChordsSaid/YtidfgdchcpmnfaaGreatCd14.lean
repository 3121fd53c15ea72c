/-
  Lemmas for the theorem vchords_holds, part 14 of 33.
-/
import Derived.Test.YtidfgdchcpmnfaaGreatCd13
namespace Go.Proofs.YtidfgdchcpmnfaaGreat
open Go Go.RowKit
set_option linter.unusedSimpArgs false
set_option linter.unusedVariables false
inductive All2 {α β : Type} (R : α → β → Prop) : List α → List β → Prop
  | nil : All2 R [] []
  | cons {a : α} {b : β} {l : List α} {m : List β} (h : R a b) (k : All2 R l m) : All2 R (a :: l) (b :: m)
def asTys (ρ : Nat → Res) (t : Option Ty) : List K → Option (List Part × List (Nat × Res))
  | [] => some ([],[])
  | k :: ks => match asTy ρ t k with
    | some (p,l) => (asTys (after ρ l) t ks).map fun q => (p :: q.1,l ++ q.2)
    | none => none
def sameTy (t : Ty) : List Part → Option (List t.den)
  | [] => some []
  | p :: ps => match castD p.t t p.x,sameTy t ps with
    | some x,some xs => some (x :: xs)
    | _,_ => none
def idxFrom : Nat → List (Nat × Operand) → Bool
  | _,[] => true
  | i,(j,_) :: l => j == i && idxFrom (i + 1) l
def sliceB (P : Program) (t : TypeId) (ty : Ty) (len : Nat) : Option TypeId := match P.underlying t with
  | some (.slice e) => if fitsT P e ty && decide (len * ty.n ≤ 16777216) && decide (0 < ty.n) && ((P.info? e).bind (·.zero)).isSome then some e else none
  | _ => none
def fewB (P : Program) (e : TypeId) : Bool := match P.info? e with
  | some i => decide (i.bytes ≤ 100000)
  | none => false
def elemT (P : Program) (T : Told) (t : TypeId) : Option Ty := match P.underlying t with
  | some (.slice e) => T.el e
  | _ => none
def zokB (P : Program) (e : TypeId) (n : Nat) : Bool := match P.info? e with
  | some i => match i.zero with
    | some z => z.cells.toList.all okCell && z.cells.size == n
    | none => false
  | none => false
def joinK (ty : Ty) (xs ys : List ty.den) : List ty.den := xs ++ ys
def growK (e : TypeId) (ty : Ty) (r : Nat) (xs ys : List ty.den) (ver : Nat) (l : List (Nat × Res)) : MK :=
  some ([xs.length + ys.length ≤ 1000000000],.own r (ver + 1),l ++ [(r,.row e ty (joinK ty xs ys) (ver + 1))])
def rowOp (P : Program) (T : Told) (ρ : Nat → Res) (k : Operand → K) (d : Option Nat) : Op → MK
  | .buildSlice t len parts => if parts.size = len && idxFrom 0 parts.toList then
      (match len,d with
      | 0,some r => match elemT P T t with
        | some ty => match sliceB P t ty 0 with
          | some e => if (ρ r).isNone && ty.still then some ([],.own r 0,[(r,.row e ty [] 0)]) else none
          | none => none
        | none => none
      | n + 1,_ => match asTys ρ (elemT P T t) (parts.toList.map fun q => k q.2) with
        | some (p :: ps,l) => match sameTy p.t ps,sliceB P t p.t (n + 1) with
          | some xs,some _ => some ([],.val (.list p.t) (p.x :: xs),l)
          | _,_ => none
        | _ => none
      | _,_ => none) else none
  | .call { callee := .builtin .append,args := xs,argTypes := ts } => match xs.toList,ts.toList with
    | [s,x],[t,t'] => if t = t' then (match k s,d with
      | .own r v,_ => match ρ r with
        | .row e ty xs v' => match asTy ρ (some (.list ty)) (k x) with
          | some (p,l) => match castD p.t (.list ty) p.x with
            | some ys => if v = v' && (sliceB P t ty 0 == some e) && fewB P e && zokB P e ty.n && l.all (fun q => q.1 != r) then growK e ty r xs ys v l else none
            | none => none
          | none => none
        | _ => none
      | .nil,some r => match asVal ρ (k x) with
        | some (⟨.list ty,ys⟩,l) => match sliceB P t ty 0 with
          | some e => if (ρ r).isNone && ty.still && fewB P e && zokB P e ty.n && l.all (fun q => q.1 != r) then growK e ty r [] ys 0 l else none
          | none => none
        | _ => none
      | _,_ => none) else none
    | _,_ => none
  | _ => none
section
variable {P : Program} {E : Env} {ρ : Nat → Res} {W w : World}
theorem asTys_ok : ∀ {ks : List K} {t : Option Ty} {ρ : Nat → Res} {E : Env} {ps : List Part} {l : List (Nat × Res)} {vs : List Value},asTys ρ t ks = some (ps,l) → Mem E ρ W w → (∀ k ∈ ks,k.wf ρ) → All2 (fun k v => k.holds E ρ w v) ks vs →
    ∃ E',Mem E' (after ρ l) W w ∧ Ext E ρ w E' (after ρ l) w ∧ All2 (fun (p : Part) v => vrep (fz w E') w p.t v p.x) ps vs
  | [],t,ρ,E,ps,l,vs,h,hM,hw,hk => by
    simp only [asTys,Option.some.injEq,Prod.mk.injEq] at h
    obtain ⟨rfl,rfl⟩ := h
    cases hk
    exact ⟨E,hM,Ext.refl _ _ _,.nil⟩
  | k :: ks,t,ρ,E,ps,l,vs,h,hM,hw,hk => by
    simp only [asTys] at h
    split at h <;> first | (cases h;done) | skip
    rename_i p l1 h1
    simp only [Option.map_eq_some_iff,Prod.mk.injEq] at h
    obtain ⟨⟨ps2,l2⟩,h2,rfl,rfl⟩ := h
    cases hk
    rename_i v vs hv hvs
    obtain ⟨E1,m1,m2,m3⟩ := asTy_ok h1 hM hv
    have hvs2 : All2 (fun k v => k.holds E1 (after ρ l1) w v) ks vs := by
      have hw' : ∀ k ∈ ks,k.wf ρ := fun k hk => hw k (List.mem_cons_of_mem _ hk)
      clear h2 hw
      induction hvs with
      | nil => exact .nil
      | cons a b ih => exact .cons (m2.holds _ _ (hw' _ (List.mem_cons_self ..)) a) (ih (fun k hk => hw' k (List.mem_cons_of_mem _ hk)))
    obtain ⟨E2,n1,n2,n3⟩ := asTys_ok h2 m1 (fun k hk => m2.wf k (hw k (List.mem_cons_of_mem _ hk))) hvs2
    exact ⟨E2,by rw [after_app];exact n1,by rw [after_app];exact m2.trans n2,.cons (vrep_stay n2.fz n2.stay m3) n3⟩
theorem fold_set (c : List Value) : ∀ (o j : Nat) (a : Array Value),o + j + c.length ≤ a.size → ((c.zipIdx j).foldl (fun cs (p : Value × Nat) => cs.setIfInBounds (o + p.2) p.1) a).toList = a.toList.take (o + j) ++ c ++ a.toList.drop (o + j + c.length) := by
  induction c with
  | nil => intro o j a h;simp
  | cons v c ih =>
    intro o j a h
    simp only [List.length_cons] at h
    rw [List.zipIdx_cons,List.foldl_cons,ih o (j + 1) _ (by simp;omega)]
    have ha : a.toList.length = a.size := Array.length_toList
    have la : (a.toList.take (o + j)).length = o + j := by rw [List.length_take];omega
    have e9 : a.toList.set (o + j) v = a.toList.take (o + j) ++ ([v] ++ a.toList.drop (o + j + 1)) := by rw [List.set_eq_take_append_cons_drop,if_pos (by omega)];rfl
    have e1 : (a.toList.set (o + j) v).take (o + j + 1) = a.toList.take (o + j) ++ [v] := by
      rw [e9,List.take_append,la,List.take_of_length_le (by omega),Nat.add_sub_cancel_left];rfl
    have e2 : (a.toList.set (o + j) v).drop (o + j + 1 + c.length) = a.toList.drop (o + j + (c.length + 1)) := by
      rw [List.drop_set_of_lt (by omega)];congr 1;omega
    simp only [Array.toList_setIfInBounds,List.length_cons]
    rw [show o + (j + 1) = o + j + 1 by omega,e1,e2]
    simp
theorem fill_all {n : Nat} : ∀ (vs : List Value) (css : List (List Value)) (i : Nat) (a : Array Value),All2 (fun v cs => v.cells = List.toArray cs ∧ cs.length = n) vs css → a.size = (i + vs.length) * n →
    ∃ a',Instr.fill (fun i => some (i * n,n)) a ((vs.zipIdx i).map fun p => (p.2,p.1)) = some a' ∧ a'.toList = a.toList.take (i * n) ++ css.flatten
  | [],css,i,a,h,hs => by
    cases h
    refine ⟨a,rfl,?_⟩
    rw [List.flatten_nil,List.append_nil,List.take_of_length_le (by simp at hs ⊢;omega)]
  | v :: vs,css,i,a,h,hs => by
    cases h
    rename_i cs css h1 h2
    obtain ⟨h3,h4⟩ := h1
    have hs2 : i * n + n + vs.length * n = a.size := by rw [hs,List.length_cons,Nat.add_mul,Nat.succ_mul];omega
    have hz : v.cells.size = n := by rw [h3];simpa using h4
    have hfold := fold_set cs (i * n) 0 a (by omega)
    rw [Nat.add_zero,h4] at hfold
    have key : (v.cells.zipIdx.foldl (fun cs (p : Value × Nat) => cs.setIfInBounds (i * n + p.2) p.1) a) = ((cs.zipIdx 0).foldl (fun cs (p : Value × Nat) => cs.setIfInBounds (i * n + p.2) p.1) a) := by
      rw [h3,← Array.foldl_toList];congr 1
      simp
    obtain ⟨a',k1,k2⟩ := fill_all (n := n) vs css (i + 1) ((cs.zipIdx 0).foldl (fun cs (p : Value × Nat) => cs.setIfInBounds (i * n + p.2) p.1) a) h2 (by
      rw [← Array.length_toList,hfold]
      have : a.toList.length = a.size := Array.length_toList
      simp only [List.length_append,List.length_take,List.length_drop,h4]
      rw [Nat.add_mul,Nat.succ_mul];omega)
    refine ⟨a',?_,?_⟩
    · rw [List.zipIdx_cons,List.map_cons,Instr.fill]
      simp only [hz,ne_eq,not_true_eq_false,false_or]
      have hc9 : ¬ (i * n + n > a.size) := by omega
      rw [if_neg (by simp only [decide_eq_false hc9];decide)]
      rw [show (v.cells.zipIdx.foldl (fun cs x => match x with | (c,j) => cs.setIfInBounds (i * n + j) c) a) = _ from key]
      exact k1
    · rw [k2,hfold,Nat.succ_mul]
      have la : (a.toList.take (i * n)).length = i * n := by
        have : a.toList.length = a.size := Array.length_toList
        rw [List.length_take];omega
      rw [List.take_append_of_le_length (by simp only [List.length_append,la,h4];omega),List.take_of_length_le (by simp only [List.length_append,la,h4];omega)]
      simp
theorem sameTy_ok {F : Nat → Prop} {t : Ty} : ∀ {ps : List Part} {xs : List t.den} {vs : List Value},sameTy t ps = some xs → All2 (fun (p : Part) v => vrep F w p.t v p.x) ps vs → All2 (fun v cs => v = t.toV cs) vs (vs.map fun v => v.cells.toList) ∧ chunks (rep F w t) (vs.map fun v => v.cells.toList).flatten xs ∧ vs.length = ps.length
  | [],xs,vs,h,hv => by
    simp only [sameTy,Option.some.injEq] at h
    subst h
    cases hv
    exact ⟨.nil,rfl,rfl⟩
  | p :: ps,xs,vs,h,hv => by
    simp only [sameTy] at h
    split at h <;> first | (cases h;done) | skip
    rename_i x xs' h1 h2
    simp only [Option.some.injEq] at h
    subst h
    cases hv
    rename_i v vs h3 h4
    obtain ⟨k1,k2,k3⟩ := sameTy_ok h2 h4
    obtain ⟨pt,px⟩ := p
    obtain ⟨e,rfl⟩ := castD_eq h1
    simp only at e
    subst e
    obtain ⟨cs,rfl,hr⟩ := h3
    have hc : (pt.toV cs).cells.toList = cs := by rw [toV_cells pt cs _ hr]
    refine ⟨.cons (by show pt.toV cs = pt.toV (pt.toV cs).cells.toList;rw [hc]) k1,?_,by simp [k3]⟩
    rw [List.map_cons,List.flatten_cons,hc]
    exact ⟨cs,_,rfl,hr,k2⟩
theorem all2_cells {F : Nat → Prop} {t : Ty} : ∀ {ps : List Part} {xs : List t.den} {vs : List Value},sameTy t ps = some xs → All2 (fun (p : Part) v => vrep F w p.t v p.x) ps vs → All2 (fun v cs => v.cells = List.toArray cs ∧ cs.length = t.n) vs (vs.map fun v => v.cells.toList)
  | [],xs,vs,h,hv => by cases hv;exact .nil
  | p :: ps,xs,vs,h,hv => by
    simp only [sameTy] at h
    split at h <;> first | (cases h;done) | skip
    rename_i x xs' h1 h2
    cases hv
    rename_i v vs h3 h4
    have ih := all2_cells h2 h4
    obtain ⟨pt,px⟩ := p
    obtain ⟨e,_⟩ := castD_eq h1
    simp only at e
    subst e
    obtain ⟨cs,rfl,hr⟩ := h3
    exact .cons ⟨by simp,by show (pt.toV cs).cells.toList.length = _;rw [toV_cells pt cs _ hr];simpa using rep_len pt _ _ hr⟩ ih
theorem idxFrom_eq (ev : Operand → Value) : ∀ (l : List (Nat × Operand)) (i : Nat),idxFrom i l = true → l.map (fun q => (q.1,ev q.2)) = ((l.map fun q => ev q.2).zipIdx i).map fun p => (p.2,p.1)
  | [],_,_ => rfl
  | (j,x) :: l,i,h => by
    simp only [idxFrom,Bool.and_eq_true,beq_iff_eq] at h
    obtain ⟨rfl,h2⟩ := h
    rw [List.map_cons,List.map_cons,List.zipIdx_cons,List.map_cons,idxFrom_eq ev l _ h2]
theorem sliceB_spec {t : TypeId} {ty : Ty} {n : Nat} {e : TypeId} (h : sliceB P t ty n = some e) : P.underlying t = some (.slice e) ∧ fitsT P e ty = true ∧ n * ty.n ≤ 16777216 ∧ 0 < ty.n ∧ ∃ i z,P.info? e = some i ∧ i.zero = some z ∧ i.size = ty.n := by
  unfold sliceB at h
  split at h <;> first | (cases h;done) | skip
  rename_i e' hu
  split at h <;> first | (cases h;done) | skip
  rename_i hb
  simp only [Option.some.injEq] at h
  subst h
  simp only [Bool.and_eq_true,decide_eq_true_eq] at hb
  obtain ⟨⟨⟨h1,h2⟩,h3⟩,h4⟩ := hb
  obtain ⟨⟨i,h5,h6⟩,_⟩ := fitsT_spec h1
  rw [h5] at h4
  simp only [Option.bind_some,Option.isSome_iff_exists] at h4
  obtain ⟨z,hz⟩ := h4
  exact ⟨hu,h1,h2,h3,i,z,h5,hz,h6⟩
theorem run_buildSlice {t e : TypeId} {ty : Ty} {xs : List ty.den} {vs : List Value} {ps : List Part} {n : Nat} (hb : sliceB P t ty n = some e) (hn : vs.length = n) (hv : All2 (fun v cs => v.cells = List.toArray cs ∧ cs.length = ty.n) vs (vs.map fun v => v.cells.toList)) :
    (Instr.buildSlice t n ((vs.zipIdx 0).map fun p => (p.2,p.1)).toArray).run P w = .ok (.slice (some ⟨w.heap.size,0,none⟩) n n) (w.alloc (.cells ((vs.map fun v => v.cells.toList).flatten).toArray e)) := by
  obtain ⟨h1,h2,h3,h4,i,z,h5,h6,h7⟩ := sliceB_spec hb
  obtain ⟨a',k1,k2⟩ := fill_all (n := ty.n) vs _ 0 ((Array.range (n * ty.n)).map (fun q => (if n * ty.n = 0 then #[] else z.cells)[q % (if n * ty.n = 0 then #[] else z.cells).size]!)) hv (by simp [hn])
  have k3 : a' = ((vs.map fun v => v.cells.toList).flatten).toArray := by
    apply Array.ext'
    rw [k2];simp
  subst k3
  have hle : ¬ (2 ^ 24 < n * ty.n) := by omega
  by_cases hz : n * ty.n = 0
  · have hn0 : n = 0 := by
      rcases Nat.mul_eq_zero.1 hz with h | h
      · exact h
      · omega
    subst hn0
    have hvs : vs = [] := List.eq_nil_of_length_eq_zero hn
    subst hvs
    simp [Instr.buildSlice,run_underlying h1 w,Sem.run_bind,run_sizeOf h5,h7,Instr.fill,newRow]
    have hr0 : ∀ f : Nat → Value,Array.map f (Array.range 0) = #[] := fun f => by apply Array.ext';simp
    rw [hr0]
  · rw [if_neg hz] at k1
    simp only [Instr.buildSlice,run_underlying h1 w,Sem.run_bind,Result.andThen_ok,run_sizeOf h5,h7]
    simp [hle,hz,zeroValue,typeInfo,h5,h6,k1,newRow,Sem.run_bind]
theorem all2_of {k : Operand → K} {ev : Operand → Value} {R : K → Value → Prop} (hk : ∀ x,R (k x) (ev x)) : ∀ (l : List (Nat × Operand)),All2 R (l.map fun q => k q.2) (l.map fun q => ev q.2)
  | [] => .nil
  | q :: l => .cons (hk q.2) (all2_of hk l)
theorem caV_ok {F : Nat → Prop} {t : Ty} (hs : t.still = true) {cs : List Value} {xs : List t.den} (h : chunks (rep F w t) cs xs) : ∀ u ∈ cs,okCell u = true := chunks_ok (fun c y => rep_ok t hs c y) _ _ h
theorem grow_ok {e t : TypeId} {ty : Ty} {n0 : Nat} {xs ys : List ty.den} {r : Nat} {v0 : Nat} {s x : Value} {cs : List Value} (hM : Mem E ρ W w)
    (hb : sliceB P t ty n0 = some e) (hfew : fewB P e = true) (hz : zokB P e ty.n = true) (hst : ty.still = true)
    (hblk : E.blk r = s.ownBlock) (hown : w.ownsRow W.heap.size e ty.n s xs.length cs) (hch : chunks (rep (fz w E) w ty) cs xs) (hca : CAv okCell w s)
    (hx : vrep (fz w E) w (.list ty) x ys) (hlen : xs.length + ys.length ≤ 1000000000) (hr : ρ r = .none ∨ ∃ e' t' xs' v',ρ r = .row e' t' xs' v' ∧ v' < v0) (T0 : TypeId) :
    ∃ s' w' E',(Builtin.append_ #[t,t] T0 #[s,x]).run P w = .ok s' w' ∧ Mem E' (setF ρ r (.row e ty (joinK ty xs ys) v0)) W w' ∧ Ext E ρ w E' (setF ρ r (.row e ty (joinK ty xs ys) v0)) w' ∧ s' = E'.sl r := by
  obtain ⟨h1,h2,h3,h4,i,z,h5,h6,h7⟩ := sliceB_spec hb
  have hzk : (∀ u ∈ z.cells.toList,okCell u = true) ∧ z.cells.size = ty.n := by
    unfold zokB at hz
    rw [h5] at hz
    simp only [h6,Bool.and_eq_true,List.all_eq_true,beq_iff_eq] at hz
    exact hz
  have hfew' : i.bytes ≤ 100000 := by
    unfold fewB at hfew
    rw [h5] at hfew
    simpa using hfew
  obtain ⟨cx,hvx,p,cap,hx1,hx2,hx3,hx4⟩ := hx
  have hvx : x = .slice p ys.length cap := by rw [hvx,hx1];rfl
  have hr1 : (ρ r).isBox → Res.isBox (.row e ty (joinK ty xs ys) v0) ∧ s.ownBlock = E.blk r := fun h => by
    rcases hr with hr | ⟨e',t',xs',v',hr,hlt⟩
    · rw [hr] at h;exact h.elim
    · rw [hr] at h;exact h.elim
  have hr4 : (ρ r).isBox → False := fun h => by
    rcases hr with hr | ⟨e',t',xs',v',hr,hlt⟩
    · rw [hr] at h;exact h.elim
    · rw [hr] at h;exact h.elim
  have hr2 : ∀ v,Res.hasVer v (ρ r) → Res.hasVer v (.row e ty (joinK ty xs ys) v0) := fun v h => by
    rcases hr with hr | ⟨e',t',xs',v',hr,hlt⟩
    · rw [hr] at h;exact h.elim
    · rw [hr] at h
      have h : v ≤ v' := h
      show v ≤ v0
      omega
  have hr3 : ∀ (s' : Value) v,Res.hasVer v (ρ r) → Res.isRow v (.row e ty (joinK ty xs ys) v0) → Res.isRow v (ρ r) ∧ s' = E.sl r := fun s' v h h' => by
    rcases hr with hr | ⟨e',t',xs',v',hr,hlt⟩
    · rw [hr] at h;exact h.elim
    · rw [hr] at h
      have h : v ≤ v' := h
      have h' : v0 = v := h'
      omega
  by_cases hy : ys = []
  · subst hy
    refine ⟨s,w,E.put r s.ownBlock s,?_,?_⟩
    · rw [hvx]
      have hsl : ∃ sp sc,s = .slice sp xs.length sc ∧ xs.length ≤ sc := by
        rcases hown.2 with ⟨rfl,hn⟩ | ⟨g,cap',cur,rfl,_,_,k4,_⟩
        · exact ⟨none,0,by rw [hn],by omega⟩
        · exact ⟨_,_,rfl,k4⟩
      obtain ⟨sp,sc,rfl,hle⟩ := hsl
      cases p with
      | none => cases sp <;> simp [Builtin.append_,run_underlying h1 w,sizeOf,typeInfo,h5,Builtin.lenOf,hle,Builtin.firstCells,Sem.run_bind,storeCells]
      | some a => cases sp <;> simp [Builtin.append_,run_underlying h1 w,sizeOf,typeInfo,h5,Builtin.lenOf,hle,Builtin.firstCells,loadCells,loadCellsFrom,Sem.run_bind,storeCells]
    · have hE9 : ∀ q,fz w E q → fz w (E.put r s.ownBlock s) q := fun q hq => ⟨hq.1,fun r' => by
        show setF E.blk r _ r' ≠ _
        by_cases e9 : r' = r
        · subst e9;rw [setF_same,← hblk];exact hq.2 r'
        · rw [setF_other _ _ e9];exact hq.2 r'⟩
      obtain ⟨m1,m2⟩ := hM.turn (w' := w) r ⟨rfl,rfl,rfl,Nat.le_refl _,fun _ _ _ => rfl,fun _ _ _ h => h⟩ s.ownBlock s (.row e ty (joinK ty xs []) v0)
        ⟨by show setF E.blk r _ r = (setF E.sl r s r).ownBlock;rw [setF_same,setF_same],hst,cs,by show w.ownsRow _ _ _ (setF E.sl r s r) _ _;rw [setF_same,joinK,List.append_nil];exact hown,by rw [joinK,List.append_nil];exact chunks_mono (fun c y => rep_stay hE9 (Stay.refl _ _) ty c y) _ _ hch,by show CAv _ _ (setF E.sl r s r);rw [setF_same];exact hca⟩
        (.inr (.inl hblk.symm)) hr1 hr2 (hr3 s)
      exact ⟨m1,m2,by show _ = setF E.sl r s r;rw [setF_same]⟩
  · have hlp : 0 < ys.length := List.length_pos_iff.2 hy
    rcases hx4 with hx4 | ⟨b,o,ds,rfl,hFb,hrg,hds⟩
    · exact absurd hx4 hy
    have hdl : ds.length = ys.length * ty.n := chunks_len (fun c y => rep_len ty c y) _ _ hds
    have hok := caV_ok hst hds
    have hbytes : (xs.length + ys.length) * i.bytes ≤ 140737488355328 := by
      have h9 : (xs.length + ys.length) * i.bytes ≤ 1000000000 * 100000 := Nat.mul_le_mul hlen hfew'
      omega
    obtain ⟨g,cap',w',hrun,k1,k2,k3,k4⟩ := run_append_ca (P := P) (p := okCell) w W.heap.size t T0 e i z ty.n i.bytes h1 h5 h6 h7 rfl hzk.2 h4 hzk.1 s xs.length cs hown hca ⟨b,o,none⟩ ys.length cap ds hdl (fun j u hu => by rw [Addr.add_mid];exact hrg j u hu) (fun u hu => by
        have := hok u hu
        simp only [okCell,Bool.and_eq_true] at this
        exact this.1) hok hlp (by simp only [maxLen];omega) hbytes hM.below.size
    have hg : Goes E w w' (some r) := ⟨k2.os,k2.tape,k2.output,k2.size,fun q hq hne => k2.block q hq (fun e9 => hne r rfl (by rw [hblk,← e9])),fun q o' n hc => by
      by_cases e9 : s.ownBlock = some q
      · have := hca q e9 _ _ hc
        simp [okCell,notU32] at this
      · rw [← hc]
        exact World.cell?_of_block (w := w) (k2.block q (cell_lt hc) (fun e8 => e9 e8.symm))⟩
    have hF9 : ∀ q,fz w E q → fz w' (E.put r (some g) (.slice (some ⟨g,0,none⟩) (xs.length + ys.length) cap')) q := fun q hq => ⟨⟨Nat.lt_of_lt_of_le hq.1.1 hg.size,hq.1.2⟩,fun r' => by
        show setF E.blk r _ r' ≠ _
        by_cases e9 : r' = r
        · subst e9
          rw [setF_same]
          rcases k4 with k4 | k4
          · rw [← k4,← hblk];exact hq.2 r'
          · have := hq.1.1;simp;omega
        · rw [setF_other _ _ e9];exact hq.2 r'⟩
    obtain ⟨m1,m2⟩ := hM.turn (w' := w') r hg (some g) (.slice (some ⟨g,0,none⟩) (xs.length + ys.length) cap') (.row e ty (joinK ty xs ys) v0)
      ⟨by show setF E.blk r _ r = (setF E.sl r _ r).ownBlock;rw [setF_same,setF_same];rfl,hst,cs ++ ds,by show w'.ownsRow _ _ _ (setF E.sl r _ r) _ _;rw [setF_same,joinK,List.length_append];exact k1,chunks_app (chunks_mono (fun c y => rep_stay hF9 hg.stay ty c y) _ _ hch) (chunks_mono (fun c y => rep_stay hF9 hg.stay ty c y) _ _ hds),by
        show CAv _ _ (setF E.sl r _ r);rw [setF_same]
        intro g' hg'
        cases hg'
        exact k3⟩
      (by
        rcases k4 with k4 | k4
        · exact .inr (.inl (by rw [← k4,hblk]))
        · exact .inr (.inr (by rw [k4]))) (fun h => ((hr4 h).elim)) hr2 (hr3 _)
    exact ⟨_,w',_,by rw [hvx];exact hrun,m1,m2,by show _ = setF E.sl r _ r;rw [setF_same]⟩
end
end Go.Proofs.YtidfgdchcpmnfaaGreat
namespace Go.Proofs.YtidfgdchcpmnfaaGreat
open Go Go.RowKit
set_option linter.unusedSimpArgs false
set_option linter.unusedVariables false
section
variable {P : Program} {E : Env} {ρ : Nat → Res} {W w : World}
theorem after_other : ∀ (l : List (Nat × Res)) (ρ : Nat → Res) (r : Nat),l.all (fun q => q.1 != r) = true → after ρ l r = ρ r
  | [],_,_,_ => rfl
  | (q,x) :: l,ρ,r,h => by
    simp only [List.all_cons,Bool.and_eq_true,bne_iff_ne,ne_eq] at h
    rw [after,after_other l _ r h.2,setF_other _ _ (fun e => h.1 e.symm)]
theorem run_builtin2 {o : Oper} {ev : Operand → Value} {s x : Operand} {t : TypeId} (ho : o.op = .call { callee := .builtin .append,args := #[s,x],argTypes := #[t,t] }) : execOp ev o = (do pure (.value (← Builtin.append_ #[t,t] o.type #[ev s,ev x]))) := by
  simp [execOp,ho,resolve,invoke,builtin]
theorem rowOp_ok {T : Told} {k : Operand → K} {ev : Operand → Value} {o : Oper} {vc : List Prop} {kk : K} {l : List (Nat × Res)} (h : rowOp P T ρ k o.dst o.op = some (vc,kk,l)) (hv : allP vc) (hM : Mem E ρ W w) (hw : ∀ x,(k x).wf ρ) (hk : ∀ x,(k x).holds E ρ w (ev x)) : DoesOk P E ρ W w o ev kk l := by
  cases ho : o.op <;> rw [ho] at h <;> try (simp [rowOp] at h;done)
  case buildSlice t len parts =>
    simp only [rowOp] at h
    split at h <;> first | (cases h;done) | skip
    rename_i hidx
    simp only [Bool.and_eq_true,beq_iff_eq,decide_eq_true_eq] at hidx
    have hlen : parts.size = len := by simpa using hidx.1
    have hrunE : execOp ev o = (do pure (.value (← Instr.buildSlice t len ((((parts.toList.map fun q => ev q.2).zipIdx 0).map fun p => (p.2,p.1)).toArray)))) := by
      have : parts.map (fun q => (q.1,ev q.2)) = ((((parts.toList.map fun q => ev q.2).zipIdx 0).map fun p => (p.2,p.1)).toArray) := by
        apply Array.ext'
        rw [Array.toList_map,idxFrom_eq ev parts.toList 0 hidx.2]
      simp only [execOp,ho,← this]
    split at h
    · split at h <;> first | (cases h;done) | skip
      rename_i r hd _ ty het
      split at h <;> first | (cases h;done) | skip
      rename_i e hsb
      split at h <;> first | (cases h;done) | skip
      rename_i hc
      simp only [Bool.and_eq_true] at hc
      simp only [Option.some.injEq,Prod.mk.injEq] at h
      obtain ⟨_,rfl,rfl⟩ := h
      have hρ := Res.isNone_eq hc.1
      have hp0 : parts.toList = [] := List.eq_nil_of_length_eq_zero (by simpa using hlen)
      have hb : Below w.heap.size w (w.alloc (.cells #[] e)) := (Below.refl _ _).alloc (Nat.le_refl _) _
      have hcell : (w.alloc (.cells #[] e)).heap[w.heap.size]? = some (.cells #[] e (0,0)) := heap_alloc_new w _
      have hrun := run_buildSlice (P := P) (w := w) (t := t) (ty := ty) (xs := []) (vs := []) (ps := []) (n := 0) hsb rfl .nil
      obtain ⟨m1,m2⟩ := hM.turn (w' := w.alloc (.cells #[] e)) r ⟨hb.os,hb.tape,hb.output,hb.size,fun b hlt _ => hb.block b hlt,(Goes.below (E := E) hb).dig⟩ (some w.heap.size) (.slice (some ⟨w.heap.size,0,none⟩) 0 0) (.row e ty [] 0)
        ⟨by show setF E.blk r _ r = (setF E.sl r _ r).ownBlock;rw [setF_same,setF_same];rfl,hc.2,[],by
          show World.ownsRow _ _ _ _ (setF E.sl r _ r) _ _
          rw [setF_same]
          exact ⟨by simp,.inr ⟨w.heap.size,0,#[],rfl,hM.below.size,hcell,Nat.le_refl _,by omega,by simp,by simp⟩⟩,rfl,by
          show CAv _ _ (setF E.sl r _ r)
          rw [setF_same]
          intro g hg i u hu
          cases hg
          rw [cell_of_row _ _ _ _ _ _ hcell] at hu
          simp at hu⟩ (.inr (.inr rfl)) (fun h => by rw [hρ] at h;exact h.elim) (fun v h => by rw [hρ] at h;exact h.elim) (fun v h => by rw [hρ] at h;exact h.elim)
      refine DoesOk.of hrunE ⟨.slice (some ⟨w.heap.size,0,none⟩) 0 0,w.alloc (.cells #[] e),_,?_,m1,m2,?_,?_⟩
      · rw [hp0];exact hrun
      · show Res.hasVer 0 (setF ρ r _ r);rw [setF_same];exact Nat.le_refl _
      · intro _
        show _ = setF E.sl r _ r
        rw [setF_same]
    · split at h <;> first | (cases h;done) | skip
      rename_i n dd p ps l' hts
      split at h <;> first | (cases h;done) | skip
      rename_i xs e hst hsb
      simp only [Option.some.injEq,Prod.mk.injEq] at h
      obtain ⟨_,rfl,rfl⟩ := h
      have hforall : All2 (fun k v => K.holds E ρ w k v) (parts.toList.map fun q => k q.2) (parts.toList.map fun q => ev q.2) := all2_of (R := fun k v => K.holds E ρ w k v) hk parts.toList
      obtain ⟨E1,m1,m2,m3⟩ := asTys_ok hts hM (fun k9 hk9 => by
        obtain ⟨q,_,rfl⟩ := List.mem_map.1 hk9
        exact hw q.2) hforall
      have hst2 : sameTy p.t (p :: ps) = some (p.x :: xs) := by
        simp only [sameTy,hst]
        have : castD p.t p.t p.x = some p.x := by simp [castD]
        rw [this]
      have hv2 := all2_cells hst2 m3
      have hvl : (parts.toList.map fun q => ev q.2).length = n + 1 := by simpa using hlen
      have hrun := run_buildSlice (P := P) (w := w) (t := t) (ty := p.t) (xs := p.x :: xs) (ps := p :: ps) hsb hvl hv2
      obtain ⟨q1,q2,q3⟩ := sameTy_ok hst2 m3
      generalize hcs : ((parts.toList.map fun q => ev q.2).map fun v => v.cells.toList).flatten = cs at *
      have hb : Below w.heap.size w (w.alloc (.cells cs.toArray e)) := (Below.refl _ _).alloc (Nat.le_refl _) _
      have hcell : (w.alloc (.cells cs.toArray e)).heap[w.heap.size]? = some (.cells cs.toArray e (0,0)) := heap_alloc_new w _
      obtain ⟨n1,n2⟩ := m1.grows hb
      have hxl : (p.x :: xs).length = n + 1 := by
        have hal : ∀ {ps : List Part} {xs : List p.t.den},sameTy p.t ps = some xs → xs.length = ps.length := by
          intro ps
          induction ps with
          | nil => intro xs h;simp only [sameTy,Option.some.injEq] at h;subst h;rfl
          | cons a b ih =>
            intro xs h
            simp only [sameTy] at h
            split at h <;> first | (cases h;done) | skip
            rename_i x xs' h1 h2
            simp only [Option.some.injEq] at h
            subst h
            simp [ih h2]
        rw [hal hst2,← q3];exact hvl
      refine DoesOk.of hrunE ⟨_,_,E1,hrun,n1,m2.trans n2,trivial,[.slice (some ⟨w.heap.size,0,none⟩) (n + 1) (n + 1)],rfl,some ⟨w.heap.size,0,none⟩,n + 1,by rw [hxl],Nat.le_of_eq hxl,?_,.inr ⟨w.heap.size,0,cs,rfl,⟨⟨by simp,m1.base _ m1.below.size⟩,fun r' e9 => ?_⟩,fun j u hu => ?_,chunks_mono (fun c y => rep_stay n2.fz n2.stay p.t c y) _ _ q2⟩⟩
      · obtain ⟨_,_,z3,z4,_⟩ := sliceB_spec hsb
        have : n + 1 ≤ (n + 1) * p.t.n := Nat.le_mul_of_pos_right _ z4
        omega
      · have := (m1.lt e9).1;omega
      · rw [Nat.zero_add,cell_of_row _ _ _ _ _ _ hcell];simpa using hu
    · cases h
  case call c =>
    obtain ⟨cl,xs,ts⟩ := c
    cases cl <;> try (simp [rowOp] at h;done)
    rename_i bi
    cases bi <;> try (simp [rowOp] at h;done)
    simp only [rowOp] at h
    split at h <;> first | (cases h;done) | skip
    rename_i s x t t' hxs hts
    have exs : xs = #[s,x] := by rw [← Array.toArray_toList (xs := xs),hxs]
    have ets : ts = #[t,t'] := by rw [← Array.toArray_toList (xs := ts),hts]
    subst exs ets
    split at h <;> first | (cases h;done) | skip
    rename_i htt
    subst htt
    split at h <;> first | (cases h;done) | skip
    · rename_i _ r v hks
      split at h <;> first | (cases h;done) | skip
      rename_i e ty ys0 v' hr
      split at h <;> first | (cases h;done) | skip
      rename_i p l' hat
      split at h <;> first | (cases h;done) | skip
      rename_i ys hcast
      split at h <;> first | (cases h;done) | skip
      rename_i hc
      simp only [Bool.and_eq_true,beq_iff_eq,decide_eq_true_eq] at hc
      obtain ⟨⟨⟨⟨hvv,hsb⟩,hfew⟩,hzb⟩,hall⟩ := hc
      simp only [growK,Option.some.injEq,Prod.mk.injEq] at h
      obtain ⟨rfl,rfl,rfl⟩ := h
      have hvv : v = v' := by simpa using hvv
      subst hvv
      have hs : ev s = E.sl r := by
        have := hk s
        rw [hks] at this
        exact this (by rw [hr];rfl)
      obtain ⟨E1,m1,m2,m3⟩ := asTy_ok hat hM (hk x)
      have hr1 : after ρ l' r = .row e ty ys0 v := by rw [after_other l' ρ r hall];exact hr
      have hsl1 : E1.sl r = E.sl r := (m2.own r v (by rw [hr];exact Nat.le_refl _) (by rw [hr1];rfl)).2
      have hres := m1.res r
      rw [hr1] at hres
      obtain ⟨k1,k2,cs,k3,k4,k5⟩ := hres
      obtain ⟨pt,px⟩ := p
      obtain ⟨e9,rfl⟩ := castD_eq hcast
      simp only at e9
      subst e9
      obtain ⟨s',w',E',g1,g2,g3,g4⟩ := grow_ok (P := P) (t := t) (s := E1.sl r) (x := ev x) (v0 := v + 1) m1 hsb hfew hzb k2 k1 k3 k4 k5 m3 hv.1 (.inr ⟨e,ty,ys0,v,hr1,by omega⟩) o.type
      refine DoesOk.of (run_builtin2 ho) ⟨s',w',E',?_,by rw [after_app];exact g2,by rw [after_app];exact m2.trans g3,?_,?_⟩
      · rw [hs,← hsl1];exact g1
      · rw [after_app];show Res.hasVer _ (setF _ r _ r);rw [setF_same];exact Nat.le_refl _
      · intro _;exact g4
    · rename_i r hks hd
      split at h <;> first | (cases h;done) | skip
      rename_i ty ys l' hat
      split at h <;> first | (cases h;done) | skip
      rename_i e hsb
      split at h <;> first | (cases h;done) | skip
      rename_i hc
      simp only [Bool.and_eq_true,beq_iff_eq,decide_eq_true_eq] at hc
      obtain ⟨⟨⟨⟨hrn,hst⟩,hfew⟩,hzb⟩,hall⟩ := hc
      simp only [growK,Option.some.injEq,Prod.mk.injEq] at h
      obtain ⟨rfl,rfl,rfl⟩ := h
      have hs : ev s = .slice none 0 0 := by
        have := hk s
        rw [hks] at this
        exact this
      obtain ⟨E1,m1,m2,m3⟩ := asVal_nil hat hM (hk x)
      have hr1 : after ρ l' r = .none := by rw [after_other l' ρ r hall];exact Res.isNone_eq hrn
      have hblk : E1.blk r = none := by
        have := m1.res r
        rw [hr1] at this
        exact this
      obtain ⟨s',w',E',g1,g2,g3,g4⟩ := grow_ok (P := P) (t := t) (s := .slice none 0 0) (x := ev x) (xs := []) (cs := []) (v0 := 1) m1 hsb hfew hzb hst hblk (World.ownsRow_nil w _ _ _) rfl (fun g hg => by cases hg) m3 hv.1 (.inl hr1) o.type
      refine DoesOk.of (run_builtin2 ho) ⟨s',w',E',?_,by rw [after_app];exact g2,by rw [after_app];exact m2.trans g3,?_,?_⟩
      · rw [hs];exact g1
      · rw [after_app];show Res.hasVer _ (setF _ r _ r);rw [setF_same];exact Nat.le_refl _
      · intro _;exact g4
end
end Go.Proofs.YtidfgdchcpmnfaaGreat
namespace Go.Proofs.YtidfgdchcpmnfaaGreat
open Go Go.RowKit
set_option linter.unusedSimpArgs false
set_option linter.unusedVariables false
structure Ctr where
  args : List Ty
  res : List Ty
  pre : (nest args).den → Prop
  fn : (nest args).den → (nest res).den
def retRep (F : Nat → Prop) (w : World) : (ts : List Ty) → Value → (nest ts).den → Prop
  | [t],v,x => vrep F w t v x.1
  | ts,v,x => ∃ vs,v = .tuple vs.toArray ∧ tupRep F w ts vs x
def newF (F : Nat → Prop) (w w' : World) (q : Nat) : Prop := (F q ∨ w.heap.size ≤ q) ∧ q < w'.heap.size
def CtrOk (P : Program) (f : FuncId) (c : Ctr) : Prop := ∀ (F : Nat → Prop) (w : World) (vs : List Value) (x : (nest c.args).den),(∀ q,F q → q < w.heap.size) → tupRep F w c.args vs x → c.pre x →
  Calls P f vs.toArray w fun e w' => ∃ v,e = .returned v ∧ retRep (newF F w w') w' c.res v (c.fn x) ∧ Below w.heap.size w w'
def retK : (ts : List Ty) → (nest ts).den → K
  | [t],x => .val t x.1
  | ts,x => .tup ts x
def rawQ (x : Rat) : RawQ := ⟨true,x,(dig x.num.natAbs).length,(dig x.den).length⟩
def rawI (x : Int) : RawI := ⟨true,x,(dig x.natAbs).length⟩
structure Coe (a b : Ty) where
  c : a.den → List Prop
  f : a.den → b.den
def coeLf : (a b : Lf) → Option (Coe (.lf a) (.lf b))
  | .rrat,.rat => some ⟨fun x => [RawQ.ok x = true],fun x => RawQ.x x⟩
  | .rbig,.big => some ⟨fun x => [RawI.ok x = true],fun x => RawI.x x⟩
  | .rat,.rrat => some ⟨fun _ => [],fun x => rawQ x⟩
  | .big,.rbig => some ⟨fun _ => [],fun x => rawI x⟩
  | _,_ => none
def allC {α : Type} (p : α → Prop) : List α → Prop
  | [] => True
  | x :: xs => p x ∧ allC p xs
def sameC (a b : Ty) : Option (Coe a b) := if h : a = b then some ⟨fun _ => [],fun x => h ▸ x⟩ else none
def orC {α : Type} : Option α → Option α → Option α
  | some x,_ => some x
  | none,y => y
def pairC {a b a' b' : Ty} : Option (Coe a a') → Option (Coe b b') → Option (Coe (.pair a b) (.pair a' b'))
  | some p,some q => some ⟨fun x => p.c x.1 ++ q.c x.2,fun x => (p.f x.1,q.f x.2)⟩
  | _,_ => none
def listC {a b : Ty} (q : Coe a b) : Coe (.list a) (.list b) := ⟨fun xs => [allC (fun x => allP (q.c x)) xs],fun xs => List.map q.f xs⟩
def arrC {n : Nat} {a b : Ty} (q : Coe a b) : Coe (.arr n a) (.arr n b) := ⟨fun xs => [allC (fun x => allP (q.c x)) xs],fun xs => List.map q.f xs⟩
def refC {a b : Ty} (q : Coe a b) : Coe (.ref a) (.ref b) := ⟨q.c,q.f⟩
def coeD : (a b : Ty) → Option (Coe a b)
  | .lf a,.lf b => orC (sameC (.lf a) (.lf b)) (coeLf a b)
  | .list a,.list b => orC (sameC (.list a) (.list b)) ((coeD a b).map listC)
  | .arr n a,.arr m b => if h : n = m then orC (sameC (.arr n a) (.arr m b)) ((coeD a b).map fun q => h ▸ arrC q) else none
  | .ref a,.ref b => orC (sameC (.ref a) (.ref b)) ((coeD a b).map refC)
  | .pair a b,.pair a' b' => orC (sameC (.pair a b) (.pair a' b')) (pairC (coeD a a') (coeD b b'))
  | a,b => sameC a b
theorem rat_lens {w : World} {v : Value} {x : Rat} (h : RQ w v x) : ∃ b p c b' p' c',v = .agg #[.bool b,.slice p (dig x.num.natAbs).length c,.bool b',.slice p' (dig x.den).length c'] := by
  obtain ⟨b,s,c,t,h1,⟨s',e1,r1⟩,⟨t',e2,r2⟩⟩ := h
  simp only [Value.agg.injEq,Array.mk.injEq,List.cons.injEq,and_true] at e1 e2
  obtain ⟨p,q,k1,_⟩ := r1.form
  obtain ⟨p',q',k2,_⟩ := r2.form
  rw [h1,e1.1,e1.2,e2.1,e2.2,k1,k2]
  exact ⟨_,_,_,_,_,_,rfl⟩
theorem big_len {w : World} {v : Value} {x : Int} (h : RInt w v x) : ∃ b p c,v = .agg #[.bool b,.slice p (dig x.natAbs).length c] := by
  obtain ⟨s,h1,h2⟩ := h
  obtain ⟨p,q,k1,_⟩ := h2.form
  rw [h1,k1]
  exact ⟨_,_,_,rfl⟩
theorem coeLf_ok {F : Nat → Prop} {w : World} : {a b : Lf} → {q : Coe (.lf a) (.lf b)} → coeLf a b = some q → (cs : List Value) → (x : a.den) → Lf.rep w cs a x → allP (q.c x) → Lf.rep w cs b (q.f x)
  | .rrat,.rat,q,h,cs,x,hr,hc => by
    simp only [coeLf,Option.some.injEq] at h
    subst h
    obtain ⟨b,p,c,b',p',c',h1,h2⟩ := hr
    have hc : RawQ.ok x = true := hc.1
    rw [hc] at h2
    exact h2.rq
  | .rbig,.big,q,h,cs,x,hr,hc => by
    simp only [coeLf,Option.some.injEq] at h
    subst h
    obtain ⟨b,p,c,h1,h2⟩ := hr
    have hc : RawI.ok x = true := hc.1
    rw [hc] at h2
    exact h2.int
  | .rat,.rrat,q,h,cs,x,hr,hc => by
    simp only [coeLf,Option.some.injEq] at h
    subst h
    have hr : RQ w (.agg cs.toArray) x := hr
    obtain ⟨b,p,c,b',p',c',h1⟩ := rat_lens hr
    have e9 : cs = [.bool b,.slice p (dig (Rat.num x).natAbs).length c,.bool b',.slice p' (dig (Rat.den x)).length c'] := by simpa using h1
    exact ⟨b,p,c,b',p',c',e9,hr.raw⟩
  | .big,.rbig,q,h,cs,x,hr,hc => by
    simp only [coeLf,Option.some.injEq] at h
    subst h
    have hr : RInt w (.agg cs.toArray) x := hr
    obtain ⟨b,p,c,h1⟩ := big_len hr
    have e9 : cs = [.bool b,.slice p (dig (Int.natAbs x)).length c] := by simpa using h1
    exact ⟨b,p,c,e9,hr.rawV⟩
  | .rat,.rat,q,h,_,_,_,_ => by simp [coeLf] at h
  | .rat,.big,q,h,_,_,_,_ => by simp [coeLf] at h
  | .rat,.rbig,q,h,_,_,_,_ => by simp [coeLf] at h
  | .rat,.str,q,h,_,_,_,_ => by simp [coeLf] at h
  | .big,.rat,q,h,_,_,_,_ => by simp [coeLf] at h
  | .big,.big,q,h,_,_,_,_ => by simp [coeLf] at h
  | .big,.rrat,q,h,_,_,_,_ => by simp [coeLf] at h
  | .big,.str,q,h,_,_,_,_ => by simp [coeLf] at h
  | .rrat,.big,q,h,_,_,_,_ => by simp [coeLf] at h
  | .rrat,.rrat,q,h,_,_,_,_ => by simp [coeLf] at h
  | .rrat,.rbig,q,h,_,_,_,_ => by simp [coeLf] at h
  | .rrat,.str,q,h,_,_,_,_ => by simp [coeLf] at h
  | .rbig,.rat,q,h,_,_,_,_ => by simp [coeLf] at h
  | .rbig,.rrat,q,h,_,_,_,_ => by simp [coeLf] at h
  | .rbig,.rbig,q,h,_,_,_,_ => by simp [coeLf] at h
  | .rbig,.str,q,h,_,_,_,_ => by simp [coeLf] at h
  | .str,b,q,h,_,_,_,_ => by cases b <;> simp [coeLf] at h
theorem chunks_map {α β : Type} {R : List Value → α → Prop} {S : List Value → β → Prop} {p : α → Prop} {f : α → β} (h : ∀ c x,R c x → p x → S c (f x)) : ∀ (xs : List α) (cs : List Value),chunks R cs xs → allC p xs → chunks S cs (xs.map f)
  | [],_,hc,_ => hc
  | x :: xs,_,⟨c1,c2,h1,h2,h3⟩,hp => ⟨c1,c2,h1,h _ _ h2 hp.1,chunks_map h xs c2 h3 hp.2⟩
theorem len_map {α β : Type} (f : α → β) (xs : List α) : (xs.map f).length = xs.length := by simp
theorem coe_same {F : Nat → Prop} {w : World} {a b : Ty} {q : Coe a b} (h : sameC a b = some q) (cs : List Value) (x : a.den) (hr : rep F w a cs x) : rep F w b cs (q.f x) := by
  unfold sameC at h
  split at h
  · rename_i e
    subst e
    simp only [Option.some.injEq] at h
    subst h
    exact hr
  · cases h
theorem orC_eq {α : Type} {x y : Option α} {z : α} (h : orC x y = some z) : x = some z ∨ y = some z := by
  cases x with
  | none => exact .inr h
  | some a => exact .inl h
theorem coeD_ok {F : Nat → Prop} {w : World} : (a b : Ty) → (q : Coe a b) → coeD a b = some q → (cs : List Value) → (x : a.den) → rep F w a cs x → allP (q.c x) → rep F w b cs (q.f x) := by
  intro a
  induction a with
  | lf a =>
    intro b q h cs x hr hc
    cases b <;> try (simp [coeD,sameC] at h;done)
    rcases orC_eq h with h | h
    · exact coe_same h cs x hr
    · exact coeLf_ok (F := F) h cs x hr hc
  | list a ih =>
    intro b q h cs x hr hc
    cases b <;> try (simp [coeD,sameC] at h;done)
    rcases orC_eq h with h | h
    · exact coe_same h cs x hr
    obtain ⟨q',h1,rfl⟩ := Option.map_eq_some_iff.1 h
    obtain ⟨p,c,k1,k2,k3,k4⟩ := hr
    have hl : (List.map q'.f x).length = List.length (α := a.den) x := len_map q'.f x
    refine ⟨p,c,?_,?_,k3,?_⟩
    · show cs = [.slice p (List.map q'.f x).length c];rw [hl];exact k1
    · show (List.map q'.f x).length ≤ c;rw [hl];exact k2
    · rcases k4 with k4 | ⟨bb,o,ds,j1,j2,j3,j4⟩
      · left;show List.map q'.f x = [];rw [k4];rfl
      · exact .inr ⟨bb,o,ds,j1,j2,j3,chunks_map (fun c x hx hp => ih _ q' h1 c x hx hp) _ _ j4 hc.1⟩
  | arr n a ih =>
    intro b q h cs x hr hc
    cases b <;> try (simp [coeD,sameC] at h;done)
    rename_i m b
    simp only [coeD] at h
    split at h <;> first | (cases h;done) | skip
    rename_i e
    subst e
    rcases orC_eq h with h | h
    · exact coe_same h cs x hr
    obtain ⟨q',h1,rfl⟩ := Option.map_eq_some_iff.1 h
    obtain ⟨k1,k2⟩ := hr
    exact ⟨(len_map q'.f x).trans k1,chunks_map (fun c x hx hp => ih b q' h1 c x hx hp) _ _ k2 hc.1⟩
  | ref a ih =>
    intro b q h cs x hr hc
    cases b <;> try (simp [coeD,sameC] at h;done)
    rcases orC_eq h with h | h
    · exact coe_same h cs x hr
    obtain ⟨q',h1,rfl⟩ := Option.map_eq_some_iff.1 h
    obtain ⟨bb,o,ds,k1,k2,k3,k4⟩ := hr
    exact ⟨bb,o,ds,k1,k2,k3,ih _ q' h1 ds x k4 hc⟩
  | pair a1 a2 ih1 ih2 =>
    intro b q h cs x hr hc
    cases b <;> try (simp [coeD,sameC] at h;done)
    rename_i b1 b2
    rcases orC_eq h with h | h
    · exact coe_same h cs x hr
    cases h1 : coeD a1 b1 with
    | none => rw [h1] at h;simp [pairC] at h
    | some p1 =>
      cases h2 : coeD a2 b2 with
      | none => rw [h1,h2] at h;simp [pairC] at h
      | some p2 =>
        rw [h1,h2] at h
        simp only [pairC,Option.some.injEq] at h
        subst h
        obtain ⟨c1,c2,k1,k2,k3⟩ := hr
        obtain ⟨n1,n2⟩ := allP_append.1 hc
        exact ⟨c1,c2,k1,ih1 b1 p1 h1 c1 x.1 k2 n1,ih2 b2 p2 h2 c2 x.2 k3 n2⟩
  | bool => intro b q h cs x hr hc;exact coe_same (by simpa only [coeD] using h) cs x hr
  | int k => intro b q h cs x hr hc;exact coe_same (by simpa only [coeD] using h) cs x hr
  | unit => intro b q h cs x hr hc;exact coe_same (by simpa only [coeD] using h) cs x hr
  | clo f t ih => intro b q h cs x hr hc;exact coe_same (by simpa only [coeD] using h) cs x hr
theorem coeD_agg : (a b : Ty) → (q : Coe a b) → coeD a b = some q → a.agg = b.agg := by
  intro a b q h
  cases a <;> cases b <;> first | rfl | (simp [coeD,sameC] at h;done) | skip
  rename_i a b
  cases a <;> cases b <;> first | rfl | (simp [coeD,sameC,orC,coeLf] at h;done)
end Go.Proofs.YtidfgdchcpmnfaaGreat
