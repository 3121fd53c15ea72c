/-
  Lemmas for the theorem vchords_holds, part 15 of 33.
-/
import Derived.Laws.StructEq
import Derived.Test.YtidfgdchcpmnfaaGreatCd14
namespace Go.Proofs.YtidfgdchcpmnfaaGreat
open Go Go.RowKit
set_option linter.unusedSimpArgs false
set_option linter.unusedVariables false
def topZ : Ty → List Part
  | .pair a b => ⟨a,a.zero⟩ :: topZ b
  | .arr n t => List.replicate n ⟨t,t.zero⟩
  | _ => []
def nestP : List Part → Part
  | [] => ⟨.unit,()⟩
  | p :: ps => ⟨.pair p.t (nestP ps).t,(p.x,(nestP ps).x)⟩
def arrP : List Part → Option Part
  | [] => none
  | p :: ps => (sameTy p.t (p :: ps)).map fun xs => ⟨.arr (ps.length + 1) p.t,xs⟩
def setP (k : Operand → K) : List Part → List (Nat × Operand) → Option (List Part)
  | ps,[] => some ps
  | ps,(i,x) :: l => match ps[i]?,k x with
    | some q,.val t y => if t.n = q.t.n && t.agg == q.t.agg then setP k (ps.set i ⟨t,y⟩) l else none
    | some ⟨.list t,_⟩,.nil => setP k (ps.set i ⟨.list t,[]⟩) l
    | _,_ => none
def offsB (P : Program) : List Field → List Part → Nat → Bool
  | [],[],_ => true
  | f :: fs,p :: ps,o => f.offset == o && (P.info? f.type).map (·.size) == some p.t.n && offsB P fs ps (o + p.t.n)
  | _,_,_ => false
def zeroable (ps : List Part) : Bool := ps.all fun p => p.t.zc.isSome
def rowTy : Ty → Bool
  | .pair _ b => rowTy b
  | .unit => true
  | _ => false
def emptyB (P : Program) (t : TypeId) (ty : Ty) : Bool := ty.agg && match P.underlying t with
  | some (.struct fs) => fs.toList.all fun f => (P.info? f.type).isSome
  | some (.array _ e) => (P.info? e).isSome
  | _ => false
def arrTy (n : Nat) : Ty → Option Ty
  | .arr m u => if n = m then some u else none
  | _ => none
def elemZ (P : Program) (e : TypeId) (u : Ty) : Bool := (P.info? e).map (·.size) == some u.n && u.zc.isSome
def rowB (P : Program) (fs : Array Field) (ty : Ty) : Bool := offsB P fs.toList (topZ ty) 0 && zeroable (topZ ty) && rowTy ty
def partK (p : Part) : List Prop × K := ([],.val p.t p.x)
def partsK (P : Program) (k : Operand → K) (ty : Ty) (l : List (Nat × Operand)) : TypeDesc → PK
  | .struct fs => if rowB P fs ty then (setP k (topZ ty) l).map fun ps => partK (nestP ps) else none
  | .array n e => match arrTy n ty with
    | some u => if elemZ P e u then ((setP k (List.replicate n ⟨u,u.zero⟩) l).bind arrP).map partK else none
    | none => none
  | _ => none
def buildOp (P : Program) (T : Told) (k : Operand → K) : Op → PK
  | .build t parts => match T.ty t,P.underlying t with
    | some ty,some d => if zeroB P t ty then (if parts.isEmpty then (if emptyB P t ty then some ([],.val ty ty.zero) else none) else partsK P k ty parts.toList d) else none
    | _,_ => none
  | _ => none
section
variable {P : Program} {E : Env} {ρ : Nat → Res} {w : World}
def partsAt (F : Nat → Prop) (w : World) (css : List (List Value)) (ps : List Part) : Prop := All2 (fun c (p : Part) => rep F w p.t c p.x) css ps
theorem flatten_at : ∀ (css : List (List Value)) (i : Nat) (c d : List Value),css[i]? = some c → (css.set i d).flatten = css.flatten.take ((css.take i).map List.length).sum ++ d ++ css.flatten.drop (((css.take i).map List.length).sum + c.length)
  | [],i,c,d,h => by simp at h
  | a :: css,0,c,d,h => by
    simp only [List.getElem?_cons_zero,Option.some.injEq] at h
    subst h
    simp
  | a :: css,i + 1,c,d,h => by
    have ih := flatten_at css i c d (by simpa using h)
    rw [List.set_cons_succ,List.flatten_cons,ih,List.flatten_cons]
    simp only [List.take_succ_cons,List.map_cons,List.sum_cons]
    generalize ((css.take i).map List.length).sum = s
    have e1 : (a ++ css.flatten).take (a.length + s) = a ++ css.flatten.take s := by rw [List.take_append,List.take_of_length_le (by omega),Nat.add_sub_cancel_left]
    have e2 : (a ++ css.flatten).drop (a.length + s + c.length) = css.flatten.drop (s + c.length) := by rw [Nat.add_assoc,List.drop_append,List.drop_of_length_le (by omega),Nat.add_sub_cancel_left,List.nil_append]
    rw [e1,e2]
    simp
theorem all2_at {α β : Type} {R : α → β → Prop} : ∀ {l : List α} {m : List β} {i : Nat} {b : β},All2 R l m → m[i]? = some b → ∃ a,l[i]? = some a ∧ R a b
  | _,_,i,b,.nil,h => by simp at h
  | _,_,0,b,.cons (a := a) h1 _,h => by
    simp only [List.getElem?_cons_zero,Option.some.injEq] at h
    subst h
    exact ⟨a,rfl,h1⟩
  | _,_,i + 1,b,.cons _ h2,h => by
    obtain ⟨a,k1,k2⟩ := all2_at h2 (by simpa using h)
    exact ⟨a,by simpa using k1,k2⟩
theorem all2_set {α β : Type} {R : α → β → Prop} : ∀ {l : List α} {m : List β} {i : Nat} {a : α} {b : β},All2 R l m → R a b → All2 R (l.set i a) (m.set i b)
  | _,_,_,_,_,.nil,_ => .nil
  | _,_,0,_,_,.cons _ h2,h => .cons h h2
  | _,_,i + 1,_,_,.cons h1 h2,h => .cons h1 (all2_set h2 h)
def offAt (ps : List Part) (i : Nat) : Nat := ((ps.take i).map (·.t.n)).sum
theorem offs_eq {F : Nat → Prop} : ∀ {css : List (List Value)} {ps : List Part} (i : Nat),partsAt F w css ps → ((css.take i).map List.length).sum = offAt ps i
  | _,_,i,.nil => by simp [offAt]
  | _,_,0,.cons _ _ => by simp [offAt]
  | _,_,i + 1,.cons h1 h2 => by
    have := offs_eq i h2
    simp only [offAt,List.take_succ_cons,List.map_cons,List.sum_cons] at *
    rw [this,rep_len _ _ _ h1]
theorem flat_len {F : Nat → Prop} : ∀ {css : List (List Value)} {ps : List Part},partsAt F w css ps → css.flatten.length = (ps.map (·.t.n)).sum
  | _,_,.nil => rfl
  | _,_,.cons h1 h2 => by
    simp only [List.flatten_cons,List.length_append,List.map_cons,List.sum_cons]
    rw [flat_len h2,rep_len _ _ _ h1]
theorem off_le : ∀ {ps : List Part} {i : Nat} {q : Part},ps[i]? = some q → offAt ps i + q.t.n ≤ (ps.map (·.t.n)).sum
  | p :: ps,0,q,h => by
    simp only [List.getElem?_cons_zero,Option.some.injEq] at h
    subst h
    simp [offAt]
  | p :: ps,i + 1,q,h => by
    have := off_le (ps := ps) (i := i) (q := q) (by simpa using h)
    simp only [offAt,List.take_succ_cons,List.map_cons,List.sum_cons] at *
    omega
  | [],i,q,h => by simp at h
theorem off_set {ps : List Part} {i : Nat} {q p : Part} (h : ps[i]? = some q) (hn : p.t.n = q.t.n) (j : Nat) : offAt (ps.set i p) j = offAt ps j := by
  unfold offAt
  rw [List.map_take,List.map_take,List.map_set]
  congr 2
  apply List.ext_getElem?
  intro x
  rw [List.getElem?_set]
  split
  · rename_i e
    subst e
    rw [List.getElem?_map,h]
    have : i < ps.length := (List.getElem?_eq_some_iff.1 h).1
    simp [this,hn]
  · rfl
theorem fill_parts {k : Operand → K} {ev : Operand → Value} (hk : ∀ x,(k x).holds E ρ w (ev x)) (place : Nat → Option (Nat × Nat)) : ∀ {l : List (Nat × Operand)} {ps qs : List Part} {css : List (List Value)} {a : Array Value},setP k ps l = some qs → partsAt (fz w E) w css ps → a.toList = css.flatten → (∀ i q,ps[i]? = some q → place i = some (offAt ps i,q.t.n)) →
    ∃ a' css',Instr.fill place a (l.map fun q => (q.1,ev q.2)) = some a' ∧ a'.toList = css'.flatten ∧ partsAt (fz w E) w css' qs
  | [],ps,qs,css,a,h,hp,ha,hpl => by
    simp only [setP,Option.some.injEq] at h
    subst h
    exact ⟨a,css,rfl,ha,hp⟩
  | (i,x) :: l,ps,qs,css,a,h,hp,ha,hpl => by
    have step : ∀ (q p : Part) (v : Value),ps[i]? = some q → p.t.n = q.t.n → ev x = v → vrep (fz w E) w p.t v p.x → setP k (ps.set i p) l = some qs →
        ∃ a' css',Instr.fill place a (((i,x) :: l).map fun q => (q.1,ev q.2)) = some a' ∧ a'.toList = css'.flatten ∧ partsAt (fz w E) w css' qs := by
      intro q p v hq hn hv hr hset
      obtain ⟨cs,hvc,hrep⟩ := hr
      obtain ⟨c,hc,hcr⟩ := all2_at hp hq
      have hlc := rep_len _ _ _ hcr
      have hls := rep_len _ _ _ hrep
      have hcells : v.cells = cs.toArray := by rw [hvc];exact toV_cells p.t cs p.x hrep
      have hoff := offs_eq i hp
      have hle := off_le hq
      have hal : a.size = (ps.map (·.t.n)).sum := by rw [← Array.length_toList,ha,flat_len hp]
      have hfold := fold_set cs (offAt ps i) 0 a (by rw [hal,hls,hn];omega)
      rw [Nat.add_zero] at hfold
      have hflat := flatten_at css i c cs hc
      rw [hoff] at hflat
      have key : (v.cells.zipIdx.foldl (fun cs (p : Value × Nat) => cs.setIfInBounds (offAt ps i + p.2) p.1) a) = ((cs.zipIdx 0).foldl (fun cs (p : Value × Nat) => cs.setIfInBounds (offAt ps i + p.2) p.1) a) := by
        rw [hcells,← Array.foldl_toList];congr 1
        simp
      obtain ⟨a',css',k1,k2,k3⟩ := fill_parts hk place (a := ((cs.zipIdx 0).foldl (fun cs (p : Value × Nat) => cs.setIfInBounds (offAt ps i + p.2) p.1) a)) hset (all2_set hp hrep) (by rw [hfold,hflat,ha];rw [show cs.length = c.length by rw [hls,hn,hlc]]) (fun j q' hq' => by
        by_cases e : i = j
        · subst e
          have hil : i < ps.length := (List.getElem?_eq_some_iff.1 hq).1
          rw [List.getElem?_set_self hil] at hq'
          cases hq'
          rw [off_set hq hn,hn];exact hpl i q hq
        · rw [List.getElem?_set_ne e] at hq'
          rw [off_set hq hn];exact hpl j q' hq')
      refine ⟨a',css',?_,k2,k3⟩
      rw [List.map_cons,Instr.fill]
      simp only [hpl i q hq,hv]
      have hz : v.cells.size = q.t.n := by rw [hcells];simp [hls,hn]
      have hc9 : ¬ (offAt ps i + v.cells.size > a.size) := by rw [hz,hal];omega
      simp only [hz,ne_eq,not_true_eq_false,false_or]
      rw [hz] at hc9
      rw [if_neg (by simp only [decide_eq_false hc9];decide)]
      rw [show (v.cells.zipIdx.foldl (fun cs x => match x with | (c,j) => cs.setIfInBounds (offAt ps i + j) c) a) = _ from key]
      exact k1
    simp only [setP] at h
    split at h <;> first | (cases h;done) | skip
    · rename_i q t y hq hkx
      split at h <;> first | (cases h;done) | skip
      rename_i hb
      simp only [Bool.and_eq_true,decide_eq_true_eq,beq_iff_eq] at hb
      have hh := hk x
      rw [hkx] at hh
      exact step q ⟨t,y⟩ (ev x) hq hb.1 rfl hh h
    · rename_i t y hq hkx
      have hh := hk x
      rw [hkx] at hh
      exact step _ ⟨.list t,[]⟩ (ev x) hq rfl rfl ⟨[.slice none 0 0],hh,none,0,rfl,by simp,by omega,.inl rfl⟩ h
theorem nestP_rep {F : Nat → Prop} : ∀ {css : List (List Value)} {ps : List Part},partsAt F w css ps → rep F w (nestP ps).t css.flatten (nestP ps).x
  | _,_,.nil => rfl
  | _,_,.cons h1 h2 => ⟨_,_,by rw [List.flatten_cons],h1,nestP_rep h2⟩
theorem arr_rep {F : Nat → Prop} {t : Ty} : ∀ {css : List (List Value)} {ps : List Part} {xs : List t.den},partsAt F w css ps → sameTy t ps = some xs → chunks (rep F w t) css.flatten xs ∧ xs.length = ps.length
  | _,_,xs,.nil,h => by
    simp only [sameTy,Option.some.injEq] at h
    subst h
    exact ⟨rfl,rfl⟩
  | _,_,xs,.cons (a := c) (b := p) h1 h2,h => by
    simp only [sameTy] at h
    split at h <;> first | (cases h;done) | skip
    rename_i x xs' k1 k2
    simp only [Option.some.injEq] at h
    subst h
    obtain ⟨j1,j2⟩ := arr_rep h2 k2
    obtain ⟨pt,px⟩ := p
    obtain ⟨e,k1⟩ := castD_eq k1
    simp only at e
    subst e
    have k1 : px = x := k1
    subst k1
    exact ⟨⟨c,_,by rw [List.flatten_cons],h1,j1⟩,by simp [j2]⟩
theorem zparts {F : Nat → Prop} : ∀ (ps : List Part),zeroable ps = true → (∀ p ∈ ps,p.x = p.t.zero) → ∃ css,partsAt F w css ps ∧ css = ps.map (fun p => p.t.zc.getD [])
  | [],_,_ => ⟨[],.nil,rfl⟩
  | p :: ps,h,hz => by
    simp only [zeroable,List.all_cons,Bool.and_eq_true] at h
    obtain ⟨css,h1,h2⟩ := zparts ps (by unfold zeroable;exact h.2) (fun p hp => hz p (List.mem_cons_of_mem _ hp))
    obtain ⟨c,hc⟩ := Option.isSome_iff_exists.1 h.1
    refine ⟨c :: css,.cons ?_ h1,by rw [h2,List.map_cons,hc];rfl⟩
    rw [hz p (List.mem_cons_self ..)]
    exact zc_rep p.t c hc
theorem topZ_x : ∀ (t : Ty),∀ p ∈ topZ t,p.x = p.t.zero := by
  intro t
  induction t with
  | pair a b _ ih =>
    intro p hp
    rcases List.mem_cons.1 hp with rfl | hp
    · rfl
    · exact ih p hp
  | arr n t _ => intro p hp;rw [(List.mem_replicate.1 hp).2]
  | _ => intro p hp;cases hp
theorem topZ_row : ∀ (t : Ty) (c : List Value),t.zc = some c → rowTy t = true → ((topZ t).map fun p => p.t.zc.getD []).flatten = c := by
  intro t
  induction t with
  | pair a b _ ih =>
    intro c h hr
    simp only [Ty.zc] at h
    split at h <;> first | (cases h;done) | skip
    rename_i c1 c2 h1 h2
    simp only [Option.some.injEq] at h
    subst h
    simp only [topZ,List.map_cons,List.flatten_cons,h1,Option.getD_some]
    rw [ih c2 h2 hr]
  | unit => intro c h hr;simp only [Ty.zc,Option.some.injEq] at h;rw [← h];rfl
  | _ => intro c h hr;simp [rowTy] at hr
theorem offsB_spec : ∀ {fs : List Field} {ps : List Part} {o : Nat},offsB P fs ps o = true → fs.length = ps.length ∧ (∃ places,fs.mapM (fun f => (P.info? f.type).map fun i => (f.offset,i.size)) = some places ∧ ∀ i q,ps[i]? = some q → places[i]? = some (o + offAt ps i,q.t.n))
  | [],[],o,_ => ⟨rfl,[],rfl,fun i q h => by simp at h⟩
  | f :: fs,p :: ps,o,h => by
    simp only [offsB,Bool.and_eq_true,beq_iff_eq] at h
    obtain ⟨⟨h1,h2⟩,h3⟩ := h
    obtain ⟨k1,places,k2,k3⟩ := offsB_spec h3
    cases hi : P.info? f.type with
    | none => rw [hi] at h2;simp at h2
    | some j =>
      rw [hi] at h2
      have h2 : j.size = p.t.n := by simpa using h2
      refine ⟨by simp [k1],(o,p.t.n) :: places,?_,fun i q hq => ?_⟩
      · simp only [List.mapM_cons,hi,k2,h1,h2,Option.map_some,Option.bind_eq_bind,Option.bind_some,Option.pure_def]
      · cases i with
        | zero =>
          simp only [List.getElem?_cons_zero,Option.some.injEq] at hq
          subst hq
          simp [offAt]
        | succ i =>
          have := k3 i q (by simpa using hq)
          simp only [List.getElem?_cons_succ,this]
          simp only [offAt,List.take_succ_cons,List.map_cons,List.sum_cons]
          rw [Nat.add_assoc]
  | [],_ :: _,_,h => by simp [offsB] at h
  | _ :: _,[],_,h => by simp [offsB] at h
theorem offAt_rep {t : Ty} {n : Nat} {x : t.den} : ∀ (i : Nat),i ≤ n → offAt (List.replicate n ⟨t,x⟩) i = i * t.n := by
  intro i hi
  unfold offAt
  rw [List.take_replicate,List.map_replicate,List.sum_replicate_nat]
  rw [Nat.min_eq_left hi]
theorem buildOp_ok {T : Told} {k : Operand → K} {ev : Operand → Value} {o : Oper} {vc : List Prop} {kk : K} (h : buildOp P T k o.op = some (vc,kk)) (hk : ∀ x,(k x).holds E ρ w (ev x)) : PureOk P E ρ w o ev kk ∧ kk.wf ρ := by
  cases ho : o.op <;> rw [ho] at h <;> try (simp [buildOp] at h;done)
  rename_i t parts
  have hmap : (parts.map fun q => (q.1,ev q.2)).toList = parts.toList.map fun q => (q.1,ev q.2) := by simp
  have fin : ∀ (cells : Array Value),P.built t (parts.toList.map fun q => (q.1,ev q.2)) = some cells → ∃ v,(execOp ev o).run P w = .ok (.value v) w ∧ v = .agg cells := fun cells hb => by
    have := run_build w t (parts.map fun q => (q.1,ev q.2)) cells (by rw [hmap];exact hb)
    exact ⟨.agg cells,by simp only [execOp,ho];rw [Sem.run_bind];rw [show (Instr.build t (parts.map fun x => match x with | (i,x) => (i,ev x))) = Instr.build t (parts.map fun q => (q.1,ev q.2)) from rfl,this];rfl,rfl⟩
  simp only [buildOp] at h
  split at h <;> first | (cases h;done) | skip
  rename_i ty d hty hu
  split at h <;> first | (cases h;done) | skip
  rename_i hz
  obtain ⟨it,z,c,h1,h2,h3,h4,h5⟩ := zeroB_spec hz
  split at h
  · rename_i hp
    have hp : parts.toList = [] := by simpa using hp
    split at h <;> first | (cases h;done) | skip
    rename_i hb
    simp only [emptyB,hu,Bool.and_eq_true] at hb
    simp only [Option.some.injEq,Prod.mk.injEq] at h
    obtain ⟨_,rfl⟩ := h
    have hbuilt : P.built t [] = some z.cells := by
      unfold Program.built
      rw [h1,hu]
      cases d <;> first | (simp at hb;done) | skip
      · rename_i n e
        simp only [h2]
        cases he : P.info? e with
        | none => simp [he] at hb
        | some ie => rfl
      · rename_i fs
        simp only [h2]
        have hall : ∀ f ∈ fs.toList,(P.info? f.type).isSome := fun f hf => List.all_eq_true.1 hb.2 f hf
        have : ∃ places,fs.toList.mapM (fun f => (P.info? f.type).map fun i => (f.offset,i.size)) = some places := by
          revert hall
          generalize fs.toList = fl
          induction fl with
          | nil => intro _;exact ⟨[],rfl⟩
          | cons f fl ih =>
            intro hall
            obtain ⟨pl,hpl⟩ := ih (fun f hf => hall f (List.mem_cons_of_mem _ hf))
            obtain ⟨j,hj⟩ := Option.isSome_iff_exists.1 (hall f (List.mem_cons_self ..))
            exact ⟨(f.offset,j.size) :: pl,by simp only [List.mapM_cons,hj,hpl,Option.map_some,Option.bind_eq_bind,Option.bind_some,Option.pure_def]⟩
        obtain ⟨places,hpl⟩ := this
        rw [hpl]
        rfl
    obtain ⟨v,hr,rfl⟩ := fin z.cells (by rw [hp];exact hbuilt)
    refine ⟨⟨_,hr,c,?_,zc_rep ty c h3⟩,trivial⟩
    rw [← h4,Ty.toV,hb.1,if_pos rfl]
  · cases d <;> first | (cases h;done) | skip
    · rename_i n e
      simp only [partsK] at h
      split at h <;> first | (cases h;done) | skip
      rename_i u hau
      split at h <;> first | (cases h;done) | skip
      rename_i hb
      rw [Option.map_eq_some_iff] at h
      obtain ⟨p,hp1,hp2⟩ := h
      rw [Option.bind_eq_some_iff] at hp1
      obtain ⟨ps,hset,harr⟩ := hp1
      simp only [partK,Prod.mk.injEq] at hp2
      obtain ⟨_,rfl⟩ := hp2
      have hty2 : ty = .arr n u := by
        cases ty <;> try (simp [arrTy] at hau;done)
        simp only [arrTy] at hau
        split at hau
        · rename_i e9
          simp only [Option.some.injEq] at hau
          rw [e9,hau]
        · cases hau
      subst hty2
      simp only [elemZ,Bool.and_eq_true,beq_iff_eq] at hb
      obtain ⟨hsz,hzc⟩ := hb
      obtain ⟨css,z1,z2⟩ := zparts (F := fz w E) (w := w) (topZ (.arr n u)) (by simp [zeroable,topZ,hzc]) (topZ_x (.arr n u))
      have hflat : z.cells.toList = css.flatten := by
        rw [h4,z2]
        simp only [Ty.zc,Option.map_eq_some_iff] at h3
        obtain ⟨d,h6,rfl⟩ := h3
        simp [topZ,h6]
      cases hie : P.info? e with
      | none => rw [hie] at hsz;simp at hsz
      | some ie =>
      rw [hie] at hsz
      have hsz : ie.size = u.n := by simpa using hsz
      obtain ⟨a',css',f1,f2,f3⟩ := fill_parts hk (fun i => some (i * ie.size,ie.size)) hset z1 hflat (fun i q' hq' => by
        have hil : i < (List.replicate n (⟨u,u.zero⟩ : Part)).length := (List.getElem?_eq_some_iff.1 hq').1
        have hil2 : i < n := by simpa using hil
        have hq2 : q' = ⟨u,u.zero⟩ := by
          have := List.mem_of_getElem? hq'
          exact (List.mem_replicate.1 this).2
        rw [hq2,hsz]
        show some (i * u.n,u.n) = some (offAt (List.replicate n ⟨u,u.zero⟩) i,u.n)
        rw [offAt_rep i (by omega)])
      obtain ⟨v,hr,rfl⟩ := fin a' (by
        unfold Program.built
        rw [h1,hu]
        simp only [h2,hie]
        exact f1)
      cases ps with
      | nil => simp [arrP] at harr
      | cons p0 ps0 =>
        have harr : (sameTy p0.t (p0 :: ps0)).map (fun xs => (⟨.arr (ps0.length + 1) p0.t,xs⟩ : Part)) = some p := harr
        obtain ⟨xs,hx,rfl⟩ := Option.map_eq_some_iff.1 harr
        obtain ⟨j1,j2⟩ := arr_rep f3 hx
        refine ⟨⟨_,hr,css'.flatten,?_,?_,j1⟩,trivial⟩
        · rw [Ty.toV];show _ = Value.agg _;rw [← f2]
        · rw [show List.length (α := p0.t.den) xs = _ from j2];rfl
    · rename_i fs
      simp only [partsK] at h
      split at h <;> first | (cases h;done) | skip
      rename_i hb
      simp only [rowB,Bool.and_eq_true] at hb
      rw [Option.map_eq_some_iff] at h
      obtain ⟨ps,hset,hp2⟩ := h
      simp only [partK,Prod.mk.injEq] at hp2
      obtain ⟨_,rfl⟩ := hp2
      obtain ⟨css,z1,z2⟩ := zparts (F := fz w E) (w := w) (topZ ty) hb.1.2 (topZ_x ty)
      obtain ⟨_,places,o1,o2⟩ := offsB_spec hb.1.1
      have hflat : z.cells.toList = css.flatten := by rw [h4,z2,topZ_row ty c h3 hb.2]
      obtain ⟨a',css',f1,f2,f3⟩ := fill_parts hk (fun i => places.toArray[i]?) hset z1 hflat (fun i q' hq' => by
        have := o2 i q' hq'
        rw [Nat.zero_add] at this
        simpa using this)
      obtain ⟨v,hr,rfl⟩ := fin a' (by
        unfold Program.built
        rw [h1,hu]
        simp only [h2,o1]
        exact f1)
      have hrep := nestP_rep f3
      refine ⟨⟨_,hr,css'.flatten,?_,hrep⟩,trivial⟩
      have : (nestP ps).t.agg = true := by cases ps <;> rfl
      rw [Ty.toV,this,if_pos rfl,← f2]
end
end Go.Proofs.YtidfgdchcpmnfaaGreat
namespace Go.Proofs.YtidfgdchcpmnfaaGreat
open Go Go.RowKit
set_option linter.unusedSimpArgs false
set_option linter.unusedVariables false
def eqI (a b : Int) : Bool := a == b
def eqBo (a b : Bool) : Bool := a == b
def eqOne (P : Program) (t : TypeId) : (ty : Ty) → ty.den → ty.den → Option Bool
  | .int _,x,y => match P.underlying t with
    | some (.int _) => some (eqI x y)
    | _ => none
  | .bool,x,y => match P.underlying t with
    | some .bool => some (eqBo x y)
    | _ => none
  | _,_,_ => none
def eqRow (P : Program) : List Field → Nat → (t : Ty) → t.den → t.den → Option Bool
  | [],_,.unit,_,_ => some true
  | f :: fs,o,.pair a b,x,y => if f.offset == o && f.name != "_" && fitsT P f.type a then (match eqOne P f.type a x.1 y.1,eqRow P fs (o + a.n) b x.2 y.2 with
    | some r,some s => some (r && s)
    | _,_ => none) else none
  | _,_,_,_,_ => none
def eqK (P : Program) (op : BinOp) (t : TypeId) (ty : Ty) (x y : ty.den) : PK :=
  if ty.agg && !P.eqGuardType P.depth t && !P.stoodInHeld t then (match P.underlying t with
    | some (.struct fs) => match eqRow P fs.toList 0 ty x y,op with
      | some r,.eql => some ([],.val .bool r)
      | some r,.neq => some ([],.val .bool (!r))
      | _,_ => none
    | _ => none) else none
def eqOp (P : Program) (k : Operand → K) : Op → PK
  | .binOp op t x y _ => match k x,k y with
    | .val ty a,.val ty' b => match castD ty' ty b with
      | some b => eqK P op t ty a b
      | none => none
    | _,_ => none
  | _ => none
section
variable {P : Program} {E : Env} {ρ : Nat → Res} {w : World}
theorem eqOne_ok {t : TypeId} {ty : Ty} {x y : ty.den} {r : Bool} {F : Nat → Prop} {d : Nat} (h : eqOne P t ty x y = some r) {c c' : List Value} (h1 : rep F w ty c x) (h2 : rep F w ty c' y) : (Op.equalIn (d + 1) t (ty.toV c) (ty.toV c')).run P w = .ok r w := by
  cases ty <;> try (simp [eqOne] at h;done)
  · simp only [eqOne] at h
    split at h <;> first | (cases h;done) | skip
    rename_i hu
    simp only [Option.some.injEq] at h
    subst h
    rw [show c = [.bool x] from h1,show c' = [.bool y] from h2]
    exact run_equalIn_bool w d t x y hu
  · simp only [eqOne] at h
    split at h <;> first | (cases h;done) | skip
    rename_i k _ _ hu
    simp only [Option.some.injEq] at h
    subst h
    rw [show c = [.int k x] from h1,show c' = [.int k y] from h2]
    exact run_equalIn_int w d t k _ x y hu
theorem eqRow_ok {F : Nat → Prop} {d : Nat} : ∀ {fs : List Field} {o : Nat} {t : Ty} {x y : t.den} {r : Bool} {pre pre' c c' : List Value},eqRow P fs o t x y = some r → pre.length = o → pre'.length = o → rep F w t c x → rep F w t c' y →
    (Op.eqFields (d + 1) (pre ++ c).toArray (pre' ++ c').toArray fs).run P w = .ok r w
  | [],o,t,x,y,r,pre,pre',c,c',h,hp,hp',h1,h2 => by
    cases t <;> try (simp [eqRow] at h;done)
    simp only [eqRow,Option.some.injEq] at h
    subst h
    rfl
  | f :: fs,o,t,x,y,r,pre,pre',c,c',h,hp,hp',h1,h2 => by
    cases t <;> try (simp [eqRow] at h;done)
    rename_i a b
    simp only [eqRow] at h
    split at h <;> first | (cases h;done) | skip
    rename_i hb
    simp only [Bool.and_eq_true,beq_iff_eq,bne_iff_ne,ne_eq] at hb
    obtain ⟨⟨ho,hn⟩,hf⟩ := hb
    split at h <;> first | (cases h;done) | skip
    rename_i r1 s1 he hr
    simp only [Option.some.injEq] at h
    subst h
    obtain ⟨c1,c2,rfl,k1,k2⟩ := h1
    obtain ⟨d1,d2,rfl,j1,j2⟩ := h2
    have lc := rep_len a _ _ k1
    have ld := rep_len a _ _ j1
    have e1 : (((pre ++ (c1 ++ c2)).drop o).take a.n) = c1 := by rw [← hp,List.drop_left,← lc,List.take_left]
    have e2 : (((pre' ++ (d1 ++ d2)).drop o).take a.n) = d1 := by rw [← hp',List.drop_left,← ld,List.take_left]
    have p1 := run_part_ty (w := w) (P := P) hf (cs := pre ++ (c1 ++ c2)) (o := o) (F := F) (x := x.1) (by rw [e1];exact k1)
    have p2 := run_part_ty (w := w) (P := P) hf (cs := pre' ++ (d1 ++ d2)) (o := o) (F := F) (x := y.1) (by rw [e2];exact j1)
    rw [e1] at p1
    rw [e2] at p2
    simp only [Op.eqFields]
    rw [if_pos hn]
    rw [Sem.run_bind,ho,p1]
    simp only [Result.andThen_ok,Sem.run_bind]
    rw [p2]
    simp only [Result.andThen_ok,eqOne_ok (d := d) he k1 j1]
    cases r1 with
    | false => simp
    | true =>
      have ih := eqRow_ok (F := F) (d := d) (pre := pre ++ c1) (pre' := pre' ++ d1) hr (by rw [List.length_append,hp,lc]) (by rw [List.length_append,hp',ld]) k2 j2
      simp only [Bool.not_true,Bool.false_eq_true,if_false,Bool.true_and]
      rw [← List.append_assoc,← List.append_assoc]
      exact ih
theorem eqOp_ok {k : Operand → K} {ev : Operand → Value} {o : Oper} {vc : List Prop} {kk : K} (h : eqOp P k o.op = some (vc,kk)) (hk : ∀ x,(k x).holds E ρ w (ev x)) : PureOk P E ρ w o ev kk ∧ kk.wf ρ := by
  cases ho : o.op <;> rw [ho] at h <;> try (simp [eqOp] at h;done)
  rename_i op t x y yt
  simp only [eqOp] at h
  split at h <;> first | (cases h;done) | skip
  rename_i ty a ty' b hx hy
  split at h <;> first | (cases h;done) | skip
  rename_i b' hc
  obtain ⟨rfl,rfl⟩ := castD_eq hc
  have h1 := hk x
  have h2 := hk y
  rw [hx] at h1
  rw [hy] at h2
  obtain ⟨c,hvx,k1⟩ := h1
  obtain ⟨c',hvy,k2⟩ := h2
  unfold eqK at h
  split at h <;> first | (cases h;done) | skip
  rename_i hb
  simp only [Bool.and_eq_true,Bool.not_eq_true'] at hb
  split at h <;> first | (cases h;done) | skip
  rename_i fs hu
  have hfs : P.fieldsOf t = fs := by simp [Program.fieldsOf,hu]
  have hvx : ev x = .agg c.toArray := by rw [hvx,Ty.toV,hb.1.1,if_pos rfl]
  have hvy : ev y = .agg c'.toArray := by rw [hvy,Ty.toV,hb.1.1,if_pos rfl]
  have hrun : ∀ r,eqRow P fs.toList 0 ty' a b = some r → (Op.equalIn 10000 t (.agg c.toArray) (.agg c'.toArray)).run P w = .ok r w := fun r hr => by
    rw [run_equalIn_struct w 9999 t _ _ (by rw [hfs];exact hu) hb.2,hfs]
    exact eqRow_ok (d := 9998) (pre := []) (pre' := []) hr rfl rfl k1 k2
  split at h <;> first | (cases h;done) | skip
  · rename_i r hr
    simp only [Option.some.injEq,Prod.mk.injEq] at h
    obtain ⟨_,rfl⟩ := h
    refine ⟨pure_of (by simp only [execOp,ho];rfl) ⟨.bool r,?_,bool_val _⟩,trivial⟩
    rw [hvx,hvy,Sem.run_bind,run_eqGuard_agg w _ _ _ _ _ _ hb.1.2]
    simp only [Result.andThen_ok]
    rw [run_eql_struct,hrun r hr]
    rfl
  · rename_i r hr
    simp only [Option.some.injEq,Prod.mk.injEq] at h
    obtain ⟨_,rfl⟩ := h
    refine ⟨pure_of (by simp only [execOp,ho];rfl) ⟨.bool (!r),?_,bool_val _⟩,trivial⟩
    rw [hvx,hvy,Sem.run_bind,run_eqGuard_agg w _ _ _ _ _ _ hb.1.2]
    simp only [Result.andThen_ok]
    rw [run_neq_struct,hrun r hr]
    rfl
end
end Go.Proofs.YtidfgdchcpmnfaaGreat
namespace Go.Proofs.YtidfgdchcpmnfaaGreat
open Go Go.RowKit
set_option linter.unusedSimpArgs false
set_option linter.unusedVariables false
def argsK (ρ : Nat → Res) : (ts : List Ty) → List K → Option (List Prop × (nest ts).den × List (Nat × Res))
  | [],[] => some ([],(),[])
  | t :: ts,k :: ks => match asTy ρ (some t) k with
    | some (p,l) => match coeD p.t t,argsK (after ρ l) ts ks with
      | some q,some (vc,x,l') => some (q.c p.x ++ vc,(q.f p.x,x),l ++ l')
      | _,_ => none
    | none => none
  | _,_ => none
def capK : (t : Ty) → t.den → List K
  | .pair a b,x => .val a x.1 :: capK b x.2
  | _,_ => []
def capOk : Ty → Bool
  | .pair a b => !a.agg && capOk b
  | .unit => true
  | _ => false
def cloK : List K → Option Part
  | [] => some ⟨.unit,()⟩
  | .val t x :: ks => if t.agg then none else (cloK ks).map fun p => ⟨.pair t p.t,(x,p.x)⟩
  | _ => none
def enterB (P : Program) (g : FuncId) : Bool := match P.funcs[g]? with
  | some fn => !(fn.name == "runtime.NumGoroutine") && !fn.body.isNone
  | none => false
def callK (c : Ctr) (a : List Prop × (nest c.args).den × List (Nat × Res)) : List Prop × K × List (Nat × Res) := (a.1 ++ [c.pre a.2.1],retK c.res (c.fn a.2.1),a.2.2)
def callOp (P : Program) (C : FuncId → Option Ctr) (ρ : Nat → Res) (k : Operand → K) : Op → MK
  | .makeFunc (.func g) first caps => if first.isEmpty then (cloK (caps.toList.map k)).map fun p => ([],.val (.clo g p.t) p.x,[]) else none
  | .call { callee := .value f,args := xs,argTypes := _ } => match k f with
    | .val (.clo g t) cx => match C g with
      | some c => if enterB P g && capOk t then (argsK ρ c.args (xs.toList.map k ++ capK t cx)).map (callK c) else none
      | none => none
    | _ => none
  | _ => none
def stepOp (P : Program) (C : FuncId → Option Ctr) (T : Told) (ρ : Nat → Res) (k : Operand → K) (d : Option Nat) (op : Op) : MK :=
  match pureOp P k op with
  | some (vc,kk) => some (vc,kk,[])
  | none => match orC (buildOp P T k op) (eqOp P k op) with
    | some (vc,kk) => some (vc,kk,[])
    | none => match boxOp P T ρ k d op with
    | some r => some r
    | none => match rowOp P T ρ k d op with
      | some r => some r
      | none => callOp P C ρ k op
section
variable {P : Program} {E : Env} {ρ : Nat → Res} {W w : World}
theorem argsK_ok : ∀ {ts : List Ty} {ks : List K} {ρ : Nat → Res} {E : Env} {vc : List Prop} {x : (nest ts).den} {l : List (Nat × Res)} {vs : List Value},argsK ρ ts ks = some (vc,x,l) → allP vc → Mem E ρ W w → (∀ k ∈ ks,k.wf ρ) → All2 (fun k v => K.holds E ρ w k v) ks vs →
    ∃ E',Mem E' (after ρ l) W w ∧ Ext E ρ w E' (after ρ l) w ∧ tupRep (fz w E') w ts vs x
  | [],[],ρ,E,vc,x,l,vs,h,hv,hM,hw,hk => by
    simp only [argsK,Option.some.injEq,Prod.mk.injEq] at h
    obtain ⟨_,_,rfl⟩ := h
    cases hk
    exact ⟨E,hM,Ext.refl _ _ _,rfl⟩
  | [],_ :: _,ρ,E,vc,x,l,vs,h,hv,hM,hw,hk => by simp [argsK] at h
  | _ :: _,[],ρ,E,vc,x,l,vs,h,hv,hM,hw,hk => by simp [argsK] at h
  | t :: ts,k :: ks,ρ,E,vc,x,l,vs,h,hv,hM,hw,hk => by
    simp only [argsK] at h
    split at h <;> first | (cases h;done) | skip
    rename_i p l1 h1
    split at h <;> first | (cases h;done) | skip
    rename_i q vc2 x2 l2 hq h2
    simp only [Option.some.injEq,Prod.mk.injEq] at h
    obtain ⟨rfl,rfl,rfl⟩ := h
    cases hk
    rename_i v vs hv1 hvs
    obtain ⟨E1,m1,m2,m3⟩ := asTy_ok h1 hM hv1
    have hvs2 : All2 (fun k v => K.holds E1 (after ρ l1) w k v) ks vs := by
      have hw' : ∀ k ∈ ks,k.wf ρ := fun k hk => hw k (List.mem_cons_of_mem _ hk)
      clear h2 hw
      induction hvs with
      | nil => exact .nil
      | cons a b ih => exact .cons (m2.holds _ _ (hw' _ (List.mem_cons_self ..)) a) (ih (fun k hk => hw' k (List.mem_cons_of_mem _ hk)))
    obtain ⟨hva,hvb⟩ := allP_append.1 hv
    obtain ⟨E2,n1,n2,n3⟩ := argsK_ok h2 hvb m1 (fun k hk => m2.wf k (hw k (List.mem_cons_of_mem _ hk))) hvs2
    refine ⟨E2,by rw [after_app];exact n1,by rw [after_app];exact m2.trans n2,v,vs,rfl,?_,n3⟩
    obtain ⟨cs,rfl,hr⟩ := vrep_stay n2.fz n2.stay m3
    exact ⟨cs,by unfold Ty.toV;rw [coeD_agg _ _ _ hq],coeD_ok _ _ _ hq cs _ hr hva⟩
theorem capK_ok {F : Nat → Prop} : (t : Ty) → (x : t.den) → (ds : List Value) → capOk t = true → rep F w t ds x → (∀ q,F q → fz w E q) → All2 (fun k v => K.holds E ρ w k v) (capK t x) ds ∧ ∀ k ∈ capK t x,k.wf ρ
  | .pair a b,x,ds,h,⟨c1,c2,h1,h2,h3⟩,hF => by
    simp only [capOk,Bool.and_eq_true,Bool.not_eq_true'] at h
    obtain ⟨k1,k2⟩ := capK_ok b x.2 c2 h.2 h3 hF
    have hl := rep_len a _ _ h2
    have hn : a.n = 1 := by
      have := h.1
      cases a <;> simp_all [Ty.agg,Ty.n]
      rename_i l;cases l <;> simp_all [Lf.agg,Lf.n]
    rw [hn] at hl
    obtain ⟨v,rfl⟩ : ∃ v,c1 = [v] := by
      match c1,hl with
      | [v],_ => exact ⟨v,rfl⟩
    refine ⟨by rw [h1];exact .cons ⟨[v],by unfold Ty.toV;rw [h.1];rfl,rep_stay hF (Stay.refl _ _) a _ _ h2⟩ k1,fun k hk => ?_⟩
    rcases List.mem_cons.1 hk with rfl | hk
    · trivial
    · exact k2 k hk
  | .unit,x,ds,h,hr,hF => ⟨by rw [show ds = [] from hr];exact .nil,fun k hk => by cases hk⟩
  | .bool,x,ds,h,hr,hF => by simp [capOk] at h
  | .int _,x,ds,h,hr,hF => by simp [capOk] at h
  | .lf _,x,ds,h,hr,hF => by simp [capOk] at h
  | .list _,x,ds,h,hr,hF => by simp [capOk] at h
  | .arr _ _,x,ds,h,hr,hF => by simp [capOk] at h
  | .ref _,x,ds,h,hr,hF => by simp [capOk] at h
  | .clo _ _,x,ds,h,hr,hF => by simp [capOk] at h
theorem cloK_ok : ∀ {ks : List K} {p : Part} {vs : List Value},cloK ks = some p → All2 (fun k v => K.holds E ρ w k v) ks vs → rep (fz w E) w p.t vs p.x
  | [],p,vs,h,hk => by
    simp only [cloK,Option.some.injEq] at h
    subst h
    cases hk
    rfl
  | k :: ks,p,vs,h,hk => by
    cases k <;> try (simp [cloK] at h;done)
    rename_i t x
    simp only [cloK] at h
    split at h <;> first | (cases h;done) | skip
    rename_i ha
    simp only [Option.map_eq_some_iff] at h
    obtain ⟨p',h1,rfl⟩ := h
    cases hk
    rename_i v vs hv hvs
    obtain ⟨cs,rfl,hr⟩ := hv
    have ha : t.agg = false := by simpa using ha
    have hl := rep_len t _ _ hr
    have hn : t.n = 1 := by
      cases t <;> simp_all [Ty.agg,Ty.n]
      rename_i l;cases l <;> simp_all [Lf.agg,Lf.n]
    rw [hn] at hl
    obtain ⟨v,rfl⟩ : ∃ v,cs = [v] := by
      match cs,hl with
      | [v],_ => exact ⟨v,rfl⟩
    exact ⟨[v],vs,by unfold Ty.toV;rw [ha];rfl,hr,cloK_ok h1 hvs⟩
theorem enter_run {g : FuncId} {args : Array Value} (h : enterB P g = true) : (callFunc g args).run P w = .ok (.enter g args) w := by
  unfold enterB at h
  split at h <;> first | (cases h;done) | skip
  rename_i fn hf
  simp only [Bool.and_eq_true,Bool.not_eq_true'] at h
  unfold callFunc
  rw [Sem.run_bind]
  show (Result.ok P w).andThen _ = _
  simp only [Result.andThen_ok,hf,h.1,h.2,Bool.false_eq_true,if_false]
  rfl
theorem retK_ok {F : Nat → Prop} {ts : List Ty} {v : Value} {y : (nest ts).den} (hF : ∀ q,F q → fz w E q) (h : retRep F w ts v y) : (retK ts y).holds E ρ w v ∧ (retK ts y).wf ρ := by
  match ts,y,h with
  | [t],y,h => exact ⟨vrep_stay hF (Stay.refl _ _) h,trivial⟩
  | [],y,⟨vs,h1,h2⟩ => exact ⟨⟨vs,h1,tupRep_stay hF (Stay.refl _ _) [] vs y h2⟩,trivial⟩
  | t1 :: t2 :: ts,y,⟨vs,h1,h2⟩ => exact ⟨⟨vs,h1,tupRep_stay hF (Stay.refl _ _) _ vs y h2⟩,trivial⟩
def StepsOk (P : Program) (E : Env) (ρ : Nat → Res) (W w : World) (o : Oper) (a : Act) (k : K) (l : List (Nat × Res)) : Prop :=
  ∀ (next : Act → World → Prop) (Q : Exit → Act → World → Prop),(∀ v w' E',Mem E' (after ρ l) W w' → Ext E ρ w E' (after ρ l) w' → k.wf (after ρ l) → k.holds E' (after ρ l) w' v → next (a.put o.dst v) w') → o.wp P a w next Q
theorem DoesOk.steps {o : Oper} {a : Act} {k : K} {l : List (Nat × Res)} (h : DoesOk P E ρ W w o a.eval k l) : StepsOk P E ρ W w o a k l := by
  intro next Q hn
  obtain ⟨nx,v,w',E',h1,h2,h3,h4,h5,h6⟩ := h
  unfold Oper.wp
  rw [h1]
  rcases h2 with rfl | ⟨rfl,rfl⟩
  · exact hn v w' E' h3 h4 h5 h6
  · exact hn undef w' E' h3 h4 h5 h6
theorem callOp_ok {C : FuncId → Option Ctr} (hC : ∀ g c,C g = some c → CtrOk P g c) {k : Operand → K} {a : Act} {o : Oper} {vc : List Prop} {kk : K} {l : List (Nat × Res)} (h : callOp P C ρ k o.op = some (vc,kk,l)) (hv : allP vc) (hM : Mem E ρ W w) (hw : ∀ x,(k x).wf ρ) (hk : ∀ x,(k x).holds E ρ w (a.eval x)) : StepsOk P E ρ W w o a kk l := by
  cases ho : o.op <;> rw [ho] at h <;> try (simp [callOp] at h;done)
  case makeFunc fn first caps =>
    cases fn <;> try (simp [callOp] at h;done)
    rename_i g
    simp only [callOp] at h
    split at h <;> first | (cases h;done) | skip
    rename_i hf
    simp only [Option.map_eq_some_iff,Prod.mk.injEq] at h
    obtain ⟨p,h1,_,rfl,rfl⟩ := h
    have hf : first = #[] := by simpa using hf
    subst hf
    have ha : All2 (fun k v => K.holds E ρ w k v) (caps.toList.map k) (caps.toList.map a.eval) := by
      generalize caps.toList = cl
      induction cl with
      | nil => exact .nil
      | cons x xs ih => exact .cons (hk x) ih
    have hr := cloK_ok h1 ha
    refine DoesOk.steps (DoesOk.of (s := Instr.makeFunc (.func g) ((#[] : Array Operand).map a.eval) (caps.map a.eval)) (by simp only [execOp,ho]) ⟨.func (.func g) #[] (caps.map a.eval),w,E,by simp [Instr.makeFunc],hM,Ext.refl _ _ _,trivial,[.func (.func g) #[] (caps.map a.eval)],rfl,caps.toList.map a.eval,?_,hr⟩)
    congr 2
    apply Array.ext'
    simp
  case call c =>
    obtain ⟨cl,xs,ts⟩ := c
    cases cl <;> try (simp [callOp] at h;done)
    rename_i f
    simp only [callOp] at h
    split at h <;> first | (cases h;done) | skip
    rename_i g t cx hkf
    split at h <;> first | (cases h;done) | skip
    rename_i c hc
    split at h <;> first | (cases h;done) | skip
    rename_i he
    simp only [Bool.and_eq_true] at he
    simp only [Option.map_eq_some_iff] at h
    obtain ⟨⟨vc1,x,l1⟩,h1,h2⟩ := h
    simp only [callK,Prod.mk.injEq] at h2
    obtain ⟨rfl,rfl,rfl⟩ := h2
    obtain ⟨hv1,hpre,_⟩ := allP_append.1 hv
    have hkf2 := hk f
    rw [hkf] at hkf2
    obtain ⟨cs,hfv,ds,hcs,hrep⟩ := hkf2
    have hfv : a.eval f = .func (.func g) #[] ds.toArray := by rw [hfv,hcs];rfl
    obtain ⟨c1,c2⟩ := capK_ok (E := E) (ρ := ρ) t cx ds he.2 hrep (fun q h => h)
    have ha : All2 (fun k v => K.holds E ρ w k v) (xs.toList.map k ++ capK t cx) (xs.toList.map a.eval ++ ds) := by
      generalize xs.toList = cl
      induction cl with
      | nil => exact c1
      | cons x xs ih => exact .cons (hk x) ih
    obtain ⟨E1,m1,m2,m3⟩ := argsK_ok h1 hv1 hM (fun k9 hk9 => by
      rcases List.mem_append.1 hk9 with hk9 | hk9
      · obtain ⟨q,_,rfl⟩ := List.mem_map.1 hk9;exact hw q
      · exact c2 k9 hk9) ha
    intro next Q hn
    have hrun : (execOp a.eval o).run P w = .ok (.enter g ((xs.toList.map a.eval ++ ds).toArray)) w := by
      have : (xs.map a.eval ++ ds.toArray) = (xs.toList.map a.eval ++ ds).toArray := by apply Array.ext';simp
      simp only [execOp,ho,resolve,Deferred.ofValue,hfv,Sem.run_bind,Sem.run_pure,Result.andThen_ok,invoke]
      rw [← this]
      simp only [Array.empty_append]
      exact enter_run he.1
    unfold Oper.wp
    rw [hrun,Oper.upon_enter]
    refine (hC g c hc (fz w E1) w _ x (fun q hq => hq.1.1) m3 hpre).mono ?_
    rintro e w' ⟨v,rfl,hr,hb⟩
    obtain ⟨n1,n2⟩ := m1.grows hb
    obtain ⟨r1,r2⟩ := retK_ok (E := E1) (ρ := after ρ l1) (w := w') (fun q hq => ⟨⟨hq.2,hq.1.elim (fun h => h.1.2) (fun h => m1.base q (Nat.le_trans m1.below.size h))⟩,fun r e => by
      rcases hq.1 with h | h
      · exact h.2 r e
      · have := (m1.lt e).1;omega⟩) hr
    exact hn v w' E1 n1 (m2.trans n2) r2 r1
theorem stepOp_ok {C : FuncId → Option Ctr} (hC : ∀ g c,C g = some c → CtrOk P g c) {T : Told} {k : Operand → K} {a : Act} {o : Oper} {vc : List Prop} {kk : K} {l : List (Nat × Res)} (h : stepOp P C T ρ k o.dst o.op = some (vc,kk,l)) (hv : allP vc) (hM : Mem E ρ W w) (hw : ∀ x,(k x).wf ρ) (hk : ∀ x,(k x).holds E ρ w (a.eval x)) (hwf : ∀ vc' kk',pureOp P k o.op = some (vc',kk') → kk'.wf ρ) : StepsOk P E ρ W w o a kk l := by
  unfold stepOp at h
  split at h
  · rename_i vc' kk' hp
    simp only [Option.some.injEq,Prod.mk.injEq] at h
    obtain ⟨rfl,rfl,rfl⟩ := h
    obtain ⟨v,h1,h2⟩ := pureOp_ok hp hv hk
    exact DoesOk.steps ⟨.value v,v,w,E,h1,.inl rfl,hM,Ext.refl _ _ _,hwf _ _ hp,h2⟩
  · split at h
    · rename_i vc' kk' hp
      simp only [Option.some.injEq,Prod.mk.injEq] at h
      obtain ⟨rfl,rfl,rfl⟩ := h
      obtain ⟨⟨v,h1,h2⟩,h3⟩ := (orC_eq hp).elim (fun hp => buildOp_ok (ρ := ρ) hp hk) (fun hp => eqOp_ok (ρ := ρ) hp hk)
      exact DoesOk.steps ⟨.value v,v,w,E,h1,.inl rfl,hM,Ext.refl _ _ _,h3,h2⟩
    · split at h
      · rename_i r hb
        simp only [Option.some.injEq] at h
        subst h
        exact (boxOp_ok hb hM hw hk).steps
      · split at h
        · rename_i r hb
          simp only [Option.some.injEq] at h
          subst h
          exact (rowOp_ok hb hv hM hw hk).steps
        · exact callOp_ok hC h hv hM hw hk
end
end Go.Proofs.YtidfgdchcpmnfaaGreat
