/-
  Lemmas for the theorem vchords_holds, part 16 of 33.
-/
import Derived.Tactics
import Derived.Test.YtidfgdchcpmnfaaGreatCd03
import Derived.Test.YtidfgdchcpmnfaaGreatCd15
namespace Go.Proofs.YtidfgdchcpmnfaaGreat
open Go Go.RowKit
set_option linter.unusedSimpArgs false
set_option linter.unusedVariables false
abbrev Gam := List (Nat × K)
abbrev Rho := List (Nat × Res)
def getK : Gam → Nat → K
  | [],_ => .any
  | (s,k) :: G,q => if q = s then k else getK G q
def getR : Rho → Nat → Res
  | [],_ => .none
  | (s,x) :: R,q => if q = s then x else getR R q
def offR (r : Nat) (R : Rho) : Rho := R.filter fun p => p.1 != r
theorem getR_off {r q : Nat} (h : q ≠ r) : ∀ (R : Rho),getR (offR r R) q = getR R q
  | [] => rfl
  | (s,x) :: R => by
    unfold offR
    rw [List.filter_cons]
    split
    · simp only [getR]
      split
      · rfl
      · exact getR_off h R
    · rename_i hs
      have hs : s = r := by simpa using hs
      simp only [getR]
      rw [if_neg (by rw [hs];exact h)]
      exact getR_off h R
def aft (R : Rho) : List (Nat × Res) → Rho
  | [] => R
  | q :: l => aft (q :: offR q.1 R) l
theorem getR_aft : ∀ (l : List (Nat × Res)) (R : Rho),getR (aft R l) = after (getR R) l
  | [],_ => rfl
  | (r,x) :: l,R => by
    rw [aft,getR_aft l,after]
    congr 1
    funext q
    simp only [getR]
    unfold setF
    split
    · rfl
    · rename_i h;exact getR_off h R
def opK (G : Nat → K) : Operand → K
  | .tmp s => G s
  | .const v => constK v
  | .func f => .val (.clo f .unit) ()
  | .global _ => .any
def unW : K → K
  | .when _ k => k
  | k => k
def condW : K → List Prop
  | .when b _ => [b = true]
  | _ => []
def tmpsOf (op : Op) : List Nat := op.operands.toList.filterMap fun x => match x with
  | .tmp s => some s
  | _ => none
def onlyK (ts : List Nat) (G : Nat → K) (s : Nat) : K := if ts.contains s then G s else .any
def unG (G : Nat → K) (s : Nat) : K := unW (G s)
structure Book where
  P : Program
  C : FuncId → Option Ctr
  T : Told
  N : Nat
def Book.Ok (B : Book) : Prop := ∀ g c,B.C g = some c → CtrOk B.P g c
def eqb (c b : Bool) : Bool := c == b
def K.plain : K → Bool
  | .val _ _ => true
  | .tup _ _ => true
  | .any => true
  | .nil => true
  | _ => false
def dstB (N : Nat) : Option Nat → Bool
  | some d => decide (d < N)
  | none => true
def guardC (g : Bool) : List Prop → List Prop
  | [] => []
  | p :: ps => [g = true → allP (p :: ps)]
theorem guardC_ok {g : Bool} {l : List Prop} (h : allP (guardC g l)) (hg : g = true) : allP l := by
  cases l with
  | nil => trivial
  | cons p ps => exact h.1 hg
def oneOp (B : Book) (G : Nat → K) (ρ : Nat → Res) (ops : Array Oper) (o : Oper) : MK := if dstB B.N o.dst then (match o.guard with
  | none => stepOp B.P B.C B.T ρ (opK (onlyK (tmpsOf o.op) G)) o.dst o.op
  | some (j,b) => match (ops[j]?).bind (·.dst) with
    | some s => match G s with
      | .val .bool c => match stepOp B.P B.C B.T ρ (opK (onlyK (tmpsOf o.op) (unG G))) o.dst o.op with
        | some (vc,k,[]) => if k.plain then some (guardC (eqb c b) ((tmpsOf o.op).flatMap (fun s => condW (G s)) ++ vc),.when (eqb c b) k,[]) else none
        | _ => none
      | _ => none
    | none => none) else none
def upsK (d : Option Nat) (k : K) : List (Nat × K) := match d with
  | some d => [(d,k)]
  | none => []
def afterU {α : Type} (f : Nat → α) : List (Nat × α) → Nat → α
  | [] => f
  | (r,x) :: l => afterU (setF f r x) l
theorem after_eq : ∀ (l : List (Nat × Res)) (ρ : Nat → Res),after ρ l = afterU ρ l
  | [],_ => rfl
  | (_,_) :: l,_ => after_eq l _
def putG (d : Option Nat) (k : K) (G : Gam) : Gam := match d with
  | some d => (d,k) :: G
  | none => G
theorem getK_put (G : Gam) (d : Option Nat) (k : K) : getK (putG d k G) = afterU (getK G) (upsK d k) := by
  cases d with
  | none => rfl
  | some d =>
    funext q
    show getK ((d,k) :: G) q = setF (getK G) d k q
    simp only [getK]
    unfold setF
    split
    · rfl
    · rfl
structure Fits (E : Env) (ρ : Nat → Res) (w : World) (N : Nat) (a : Act) (G : Nat → K) : Prop where
  size : a.tmps.size = N
  defers : a.defers = []
  wf : ∀ s,(G s).wf ρ
  holds : ∀ s,(G s).holds E ρ w (a.eval (.tmp s))
section
variable {B : Book} {E : Env} {ρ : Nat → Res} {W w : World} {G : Nat → K} {a : Act}
theorem pickK_wf {c : Bool} {ka kb k : K} {vc : List Prop} (h : pickK c ka kb = some (vc,k)) : k.wf ρ := by
  cases ka <;> try (simp [pickK] at h;done)
  case val t x =>
    cases kb <;> try (simp [pickK] at h;done)
    case val t' y =>
      simp only [pickK,Option.map_eq_some_iff,Prod.mk.injEq] at h
      obtain ⟨y',h1,rfl,rfl⟩ := h
      trivial
    case when b kb =>
      cases kb <;> try (simp [pickK] at h;done)
      case val t' y =>
        simp only [pickK,Option.map_eq_some_iff,Prod.mk.injEq] at h
        obtain ⟨y',h1,rfl,rfl⟩ := h
        trivial
  case when b ka =>
    cases ka <;> try (simp [pickK] at h;done)
    case val t x =>
      cases kb <;> try (simp [pickK] at h;done)
      case val t' y =>
        simp only [pickK,Option.map_eq_some_iff,Prod.mk.injEq] at h
        obtain ⟨y',h1,rfl,rfl⟩ := h
        trivial
      case when b' kb =>
        cases kb <;> try (simp [pickK] at h;done)
        case val t' y =>
          simp only [pickK,Option.map_eq_some_iff,Prod.mk.injEq] at h
          obtain ⟨y',h1,rfl,rfl⟩ := h
          trivial
def K.isVal : K → Bool
  | .val _ _ => true
  | _ => false
theorem isVal_wf {k : K} (h : k.isVal = true) : k.wf ρ := by cases k <;> simp_all [K.isVal];trivial
theorem intK_val {op : BinOp} {k : IntKind} {a b : Int} {vc : List Prop} {kk : K} (h : intK op k a b = some (vc,kk)) : kk.isVal = true := by
  cases op <;> simp only [intK,Option.some.injEq,Prod.mk.injEq] at h <;> first | (cases h;done) | (obtain ⟨_,rfl⟩ := h;rfl)
theorem eqB_val {op : BinOp} {a b : Bool} {vc : List Prop} {kk : K} (h : eqB op a b = some (vc,kk)) : kk.isVal = true := by
  cases op <;> simp only [eqB,Option.some.injEq,Prod.mk.injEq] at h <;> first | (cases h;done) | (obtain ⟨_,rfl⟩ := h;rfl)
theorem fieldK_val {r : Bool} {P : Program} {s : TypeId} {i : Nat} {ty : Ty} {y : ty.den} {vc : List Prop} {kk : K} (h : fieldK r P s i ty y = some (vc,kk)) : kk.isVal = true := by
  unfold fieldK at h
  split at h <;> first | (cases h;done) | skip
  split at h <;> first | (cases h;done) | skip
  simp only [Option.some.injEq,Prod.mk.injEq] at h
  obtain ⟨_,rfl⟩ := h
  cases r <;> rfl
theorem pureOp_wf {P : Program} {k : Operand → K} {op : Op} {vc : List Prop} {kk : K} (h : pureOp P k op = some (vc,kk)) (hw : ∀ x,(k x).wf ρ) : kk.wf ρ := by
  cases op <;> try (simp [pureOp] at h;done)
  case move x => simp only [pureOp,Option.some.injEq,Prod.mk.injEq] at h;rw [← h.2];exact hw x
  case assign x => simp only [pureOp,Option.some.injEq,Prod.mk.injEq] at h;rw [← h.2];exact hw x
  case pick c a b =>
    simp only [pureOp] at h
    split at h <;> first | (cases h;done) | exact pickK_wf h
  case call c =>
    obtain ⟨cl,xs,ts⟩ := c
    cases cl <;> try (simp [pureOp] at h;done)
    rename_i bi
    cases bi <;> try (simp [pureOp] at h;done)
    simp only [pureOp] at h
    (repeat' split at h) <;> first | (cases h;done) | (simp only [lenK,Option.some.injEq,Prod.mk.injEq] at h;rw [← h.2];trivial)
  case unOp op t x =>
    cases op <;> simp only [pureOp] at h <;> first | (cases h;done) | skip
    all_goals (split at h <;> first | (cases h;done) | (simp only [notK,negK,wrapK,Option.some.injEq,Prod.mk.injEq] at h;rw [← h.2];trivial))
  case binOp op t x y yt =>
    simp only [pureOp] at h
    split at h <;> first | (cases h;done) | skip
    · split at h <;> first | (cases h;done) | exact isVal_wf (intK_val h)
    · split at h <;> first | (cases h;done) | exact isVal_wf (eqB_val h)
  case field s x i =>
    simp only [pureOp] at h
    split at h <;> first | (cases h;done) | exact isVal_wf (fieldK_val h)
  case fieldAddr s x i =>
    simp only [pureOp] at h
    split at h <;> first | (cases h;done) | exact isVal_wf (fieldK_val h)
  all_goals
    simp only [pureOp] at h
    (repeat' split at h) <;> first | (cases h;done) | (simp only [elemK,idxK,wrapK,Option.some.injEq,Prod.mk.injEq] at h;rw [← h.2];trivial)
theorem constK_wf (v : Value) : (constK v).wf ρ := by unfold constK;split <;> trivial
theorem opK_fits (hf : Fits E ρ w B.N a G) : (∀ x,(opK G x).wf ρ) ∧ ∀ x,(opK G x).holds E ρ w (a.eval x) := by
  constructor
  · intro x
    cases x with
    | tmp s => exact hf.wf s
    | const v => exact constK_wf v
    | func f => trivial
    | global g => trivial
  · intro x
    cases x with
    | tmp s => exact hf.holds s
    | const v => exact constK_ok v
    | func f => exact ⟨[.func (.func f) #[] #[]],rfl,[],rfl,rfl⟩
    | global g => trivial
theorem Fits.put {E' : Env} {ρ' : Nat → Res} {w' : World} {o : Oper} {k : K} {v : Value} (hf : Fits E ρ w B.N a G) (hx : Ext E ρ w E' ρ' w') (hd : dstB B.N o.dst = true) (hw : k.wf ρ') (hk : k.holds E' ρ' w' v) : Fits E' ρ' w' B.N (a.put o.dst v) (afterU G (upsK o.dst k)) := by
  cases hod : o.dst with
  | none => exact ⟨hf.size,hf.defers,fun s => hx.wf _ (hf.wf s),fun s => hx.holds _ _ (hf.wf s) (hf.holds s)⟩
  | some d =>
    rw [hod] at hd
    have hd : d < B.N := by simpa [dstB] using hd
    refine ⟨by simpa [Act.put] using hf.size,hf.defers,fun s => ?_,fun s => ?_⟩
    · show K.wf ρ' (setF G d k s)
      unfold setF
      split
      · exact hw
      · exact hx.wf _ (hf.wf s)
    · show K.holds E' ρ' w' (setF G d k s) _
      unfold setF
      split
      · rename_i e
        subst e
        have : (a.put (some s) v).eval (.tmp s) = v := by
          have hs9 := hf.size
          have hs8 : s < a.tmps.size := by rw [hs9];exact hd
          simp [Act.put,Act.eval,Array.getD_eq_getD_getElem?,hs8]
        rw [this];exact hk
      · rename_i e
        have : (a.put (some d) v).eval (.tmp s) = a.eval (.tmp s) := by
          simp [Act.put,Act.eval,Array.getD_eq_getD_getElem?,Array.getElem?_setIfInBounds,show ¬ d = s from fun e' => e e'.symm]
        rw [this];exact hx.holds _ _ (hf.wf s) (hf.holds s)
theorem unW_wf {k : K} (h : k.wf ρ) : (unW k).wf ρ := by cases k <;> exact h
theorem unW_holds {k : K} {v : Value} (h : k.holds E ρ w v) (hc : allP (condW k)) : (unW k).holds E ρ w v := by cases k <;> first | exact h | exact h hc.1
theorem allP_mem {l : List Prop} (h : allP l) {p : Prop} (hp : p ∈ l) : p := by
  induction l with
  | nil => cases hp
  | cons q l ih =>
    rcases List.mem_cons.1 hp with rfl | hp
    · exact h.1
    · exact ih h.2 hp
theorem allP_flat {f : Nat → List Prop} : ∀ {l : List Nat} {s : Nat},allP (l.flatMap f) → s ∈ l → allP (f s)
  | x :: l,s,h,hs => by
    rw [List.flatMap_cons] at h
    obtain ⟨h1,h2⟩ := allP_append.1 h
    rcases List.mem_cons.1 hs with rfl | hs
    · exact h1
    · exact allP_flat h2 hs
theorem only_fits {ts : List Nat} (hf : Fits E ρ w B.N a G) : Fits E ρ w B.N a (onlyK ts G) := by
  refine ⟨hf.size,hf.defers,fun s => ?_,fun s => ?_⟩
  · unfold onlyK;split
    · exact hf.wf s
    · trivial
  · unfold onlyK;split
    · exact hf.holds s
    · trivial
theorem onlyU_fits {ts : List Nat} (hf : Fits E ρ w B.N a G) (hc : allP (ts.flatMap fun s => condW (G s))) : Fits E ρ w B.N a (onlyK ts (unG G)) := by
  refine ⟨hf.size,hf.defers,fun s => ?_,fun s => ?_⟩
  · unfold onlyK;split
    · exact unW_wf (hf.wf s)
    · trivial
  · unfold onlyK;split
    · rename_i hs
      exact unW_holds (hf.holds s) (allP_flat hc (by simpa using hs))
    · trivial
theorem oneOp_ok (hB : B.Ok) {ops : Array Oper} {o : Oper} {vc : List Prop} {kk : K} {l : List (Nat × Res)} (h : oneOp B G ρ ops o = some (vc,kk,l)) (hv : allP vc) (hM : Mem E ρ W w) (hf : Fits E ρ w B.N a G)
    {next : Act → World → Prop} {Q : Exit → Act → World → Prop} (hn : ∀ v w' E',Mem E' (after ρ l) W w' → Ext E ρ w E' (after ρ l) w' → kk.wf (after ρ l) → kk.holds E' (after ρ l) w' v → next (a.put o.dst v) w') :
    if Region.wanted o (yielded ops a.tmps) then o.wp B.P a w next Q ∨ (o.asks B.P a w ∧ LetsOut Q) else next (a.put o.dst undef) w := by
  unfold oneOp at h
  split at h <;> first | (cases h;done) | skip
  rename_i hd
  cases hg : o.guard with
  | none =>
    simp only [hg] at h
    obtain ⟨h1,h2⟩ := opK_fits (only_fits (ts := tmpsOf o.op) hf)
    have hw : Region.wanted o (yielded ops a.tmps) = true := by simp [Region.wanted,hg]
    rw [if_pos hw]
    exact .inl (stepOp_ok hB h hv hM h1 h2 (fun vc' kk' hp => pureOp_wf hp h1) next Q hn)
  | some jb =>
    obtain ⟨j,b⟩ := jb
    simp only [hg] at h
    split at h <;> first | (cases h;done) | skip
    rename_i s hs
    split at h <;> first | (cases h;done) | skip
    rename_i c hks
    split at h <;> first | (cases h;done) | skip
    rename_i vc1 k1 hst
    split at h <;> first | (cases h;done) | skip
    rename_i hpl
    simp only [Option.some.injEq,Prod.mk.injEq] at h
    obtain ⟨rfl,rfl,rfl⟩ := h
    have hsv := hf.holds s
    rw [hks] at hsv
    have hsv := val_bool hsv
    have ht : a.tmps[s]? = some (.bool c) := by
      have h1 : a.tmps.getD s undef = .bool c := hsv
      rw [Array.getD_eq_getD_getElem?] at h1
      cases h2 : a.tmps[s]? with
      | none => rw [h2] at h1;cases h1
      | some v => rw [h2] at h1;exact congrArg some h1
    have hwn : Region.wanted o (yielded ops a.tmps) = eqb c b := by
      simp [Region.wanted,hg,yielded,hs,ht]
      rfl
    rw [hwn]
    by_cases hcb : eqb c b = true
    · rw [if_pos hcb]
      obtain ⟨hv1,hv2⟩ := allP_append.1 (guardC_ok hv hcb)
      obtain ⟨h1,h2⟩ := opK_fits (onlyU_fits hf hv1)
      exact .inl (stepOp_ok hB hst hv2 hM h1 h2 (fun vc' kk' hp => pureOp_wf hp h1) next Q (fun v w' E' m1 m2 m3 m4 => hn v w' E' m1 m2 m3 (fun _ => m4)))
    · rw [if_neg hcb]
      have hkw : k1.wf ρ := by cases k1 <;> first | trivial | simp [K.plain] at hpl
      exact hn undef w E hM (Ext.refl _ _ _) hkw (fun e => absurd e hcb)
def seqOps (B : Book) (ops : Array Oper) : List Oper → Gam → Rho → Option (List Prop × Gam × Rho)
  | [],G,R => some ([],G,R)
  | o :: rest,G,R => match oneOp B (getK G) (getR R) ops o with
    | some (vc,k,l) => match seqOps B ops rest (putG o.dst k G) (aft R l) with
      | some (vc',G',R') => some (vc ++ vc',G',R')
      | none => none
    | none => none
theorem oneOp_dst {ops : Array Oper} {o : Oper} {x : List Prop × K × List (Nat × Res)} (h : oneOp B G ρ ops o = some x) : dstB B.N o.dst = true := by
  unfold oneOp at h
  split at h
  · assumption
  · cases h
theorem seqOps_ok (hB : B.Ok) {ops : Array Oper} {Q : Exit → Act → World → Prop} : ∀ {l : List Oper} {G : Gam} {R : Rho} {E : Env} {w : World} {a : Act} {vc : List Prop} {G' : Gam} {R' : Rho},seqOps B ops l G R = some (vc,G',R') → allP vc → Mem E (getR R) W w → Fits E (getR R) w B.N a (getK G) →
    (∀ E' a' w',E'.base = E.base → Mem E' (getR R') W w' → Fits E' (getR R') w' B.N a' (getK G') → Q .normal a' w') → wpList B.P ops Q l a w
  | [],G,R,E,w,a,vc,G',R',h,hv,hM,hf,hq => by
    simp only [seqOps,Option.some.injEq,Prod.mk.injEq] at h
    obtain ⟨_,rfl,rfl⟩ := h
    exact hq E a w rfl hM hf
  | o :: rest,G,R,E,w,a,vc,G',R',h,hv,hM,hf,hq => by
    simp only [seqOps] at h
    split at h <;> first | (cases h;done) | skip
    rename_i vc1 k l1 h1
    split at h <;> first | (cases h;done) | skip
    rename_i vc2 G2 R2 h2
    simp only [Option.some.injEq,Prod.mk.injEq] at h
    obtain ⟨rfl,rfl,rfl⟩ := h
    obtain ⟨hv1,hv2⟩ := allP_append.1 hv
    exact oneOp_ok hB h1 hv1 hM hf (fun v w' E' m1 m2 m3 m4 => by
      rw [← getR_aft] at m1 m2 m3 m4
      exact seqOps_ok hB h2 hv2 m1 (by rw [getK_put];exact hf.put m2 (oneOp_dst h1) m3 m4) (fun E2 a2 w2 hb2 => hq E2 a2 w2 (hb2.trans m2.base)))
end
end Go.Proofs.YtidfgdchcpmnfaaGreat
namespace Go.Proofs.YtidfgdchcpmnfaaGreat
open Go Go.RowKit
set_option linter.unusedSimpArgs false
set_option linter.unusedVariables false
set_option maxRecDepth 20000
theorem wpAny_ind {P : Program} {md : Region.Mode} {ops : Array Oper} {Q : Exit → Act → World → Prop} (I : Array Bool → Act → World → Prop) (hd : edgesDown md ops = true)
    (hend : ∀ L a w,I L a w → (∀ i,i < ops.size → L.getD i true = true) → Q .normal a w)
    (hstep : ∀ L a w i o,I L a w → ops[i]? = some o → L.getD i true = false → (∀ e ∈ o.after,Region.binds md e = true → L.getD e.on false = true) → wpOp P ops Q i (I (L.setIfInBounds i true)) a w) :
    ∀ fuel L a w,undone L ≤ fuel → I L a w → wpAny P md ops Q fuel L a w := by
  intro fuel
  induction fuel with
  | zero =>
    intro L a w hu hI
    have hn : Region.ready md ops L = [] := by
      cases hr : Region.ready md ops L with
      | nil => rfl
      | cons i r =>
        exfalso
        obtain ⟨o,_,h2,_⟩ := ready_mem (by rw [hr];exact List.mem_cons_self)
        have := undone_set h2
        omega
    exact ⟨hn,hend L a w hI (all_of_unready hd hn)⟩
  | succ fuel ih =>
    intro L a w hu hI
    refine ⟨fun hn => hend L a w hI (all_of_unready hd hn),fun i hi => ?_⟩
    obtain ⟨o,h1,h2,h3⟩ := ready_mem hi
    refine wpOp_mono (fun a' w' h' => ih _ _ _ ?_ h') (hstep L a w i o hI h1 h2 h3)
    have := undone_set h2
    omega
def K.res : K → List Nat
  | .ptr r _ => [r]
  | .own r _ => [r]
  | .when _ k => k.res
  | _ => []
section
variable {P : Program} {C : FuncId → Option Ctr} {T : Told} {ρ ρ' : Nat → Res}
theorem afterU_same {α : Type} {f g : Nat → α} {r : Nat} (h : f r = g r) : ∀ (l : List (Nat × α)),afterU f l r = afterU g l r
  | [] => h
  | (q,x) :: l => by
    simp only [afterU]
    refine afterU_same ?_ l
    unfold setF;split
    · rfl
    · exact h
theorem afterU_off {α : Type} {r : Nat} : ∀ (l : List (Nat × α)) (f : Nat → α),r ∉ l.map (·.1) → afterU f l r = f r
  | [],_,_ => rfl
  | (q,x) :: l,f,h => by
    simp only [List.map_cons,List.mem_cons,not_or] at h
    simp only [afterU]
    rw [afterU_off l _ h.2,setF_other _ _ h.1]
theorem asVal_congr {k : K} (h : ∀ r ∈ k.res,ρ r = ρ' r) : asVal ρ k = asVal ρ' k := by
  cases k <;> try rfl
  rename_i r v
  simp only [asVal,h r (by simp [K.res])]
theorem asTy_congr {k : K} {t : Option Ty} (h : ∀ r ∈ k.res,ρ r = ρ' r) : asTy ρ t k = asTy ρ' t k := by
  cases k <;> first | rfl | exact asVal_congr h
theorem asTys_congr {t : Option Ty} : ∀ {ks : List K} {ρ ρ' : Nat → Res},(∀ k ∈ ks,∀ r ∈ k.res,ρ r = ρ' r) → asTys ρ t ks = asTys ρ' t ks
  | [],_,_,_ => rfl
  | k :: ks,ρ,ρ',h => by
    simp only [asTys,asTy_congr (h k (List.mem_cons_self ..))]
    split
    · rename_i p l _
      rw [asTys_congr (ρ := after ρ l) (ρ' := after ρ' l) (fun k' hk' r hr => by rw [after_eq,after_eq];exact afterU_same (h k' (List.mem_cons_of_mem _ hk') r hr) l)]
    · rfl
theorem argsK_congr : ∀ {ts : List Ty} {ks : List K} {ρ ρ' : Nat → Res},(∀ k ∈ ks,∀ r ∈ k.res,ρ r = ρ' r) → argsK ρ ts ks = argsK ρ' ts ks
  | [],[],_,_,_ => rfl
  | [],_ :: _,_,_,_ => rfl
  | _ :: _,[],_,_,_ => rfl
  | t :: ts,k :: ks,ρ,ρ',h => by
    simp only [argsK,asTy_congr (h k (List.mem_cons_self ..))]
    split
    · rename_i p l _
      rw [argsK_congr (ρ := after ρ l) (ρ' := after ρ' l) (fun k' hk' r hr => by rw [after_eq,after_eq];exact afterU_same (h k' (List.mem_cons_of_mem _ hk') r hr) l)]
    · rfl
theorem boxOp_congr {k : Operand → K} {d : Option Nat} {op : Op} (hk : ∀ x,∀ r ∈ (k x).res,ρ r = ρ' r) (hd : ∀ r,d = some r → ρ r = ρ' r) : boxOp P T ρ k d op = boxOp P T ρ' k d op := by
  cases op <;> try rfl
  case alloc t =>
    simp only [boxOp]
    split
    · rw [hd _ (by first | assumption | rfl)]
    · rfl
  case box t x =>
    simp only [boxOp,asTy_congr (hk x)]
    split
    · rw [hd _ (by first | assumption | rfl)]
    · rfl
  case load t x =>
    simp only [boxOp]
    split
    · rename_i r o hx;rw [hk x r (by rw [hx];simp [K.res])]
    · rfl
  case store t x y =>
    simp only [boxOp,asTy_congr (hk y)]
    split
    · rename_i r o _ _ hx _;rw [hk x r (by rw [hx];simp [K.res])]
    · rfl
  case fieldAddr s x i =>
    simp only [boxOp]
    split
    · rename_i r o hx;rw [hk x r (by rw [hx];simp [K.res])]
    · rfl
  case indexAddr s x i =>
    simp only [boxOp]
    split
    · rename_i r o _ _ hx _;rw [hk x r (by rw [hx];simp [K.res])]
    · rfl
theorem rowOp_congr {k : Operand → K} {d : Option Nat} {op : Op} (hk : ∀ x,∀ r ∈ (k x).res,ρ r = ρ' r) (hd : ∀ r,d = some r → ρ r = ρ' r) : rowOp P T ρ k d op = rowOp P T ρ' k d op := by
  cases op <;> try rfl
  case buildSlice t len parts =>
    simp only [rowOp]
    have h1 : asTys ρ (elemT P T t) (parts.toList.map fun q => k q.2) = asTys ρ' (elemT P T t) (parts.toList.map fun q => k q.2) := asTys_congr (fun k' hk' r hr => by
      obtain ⟨q,_,rfl⟩ := List.mem_map.1 hk'
      exact hk q.2 r hr)
    rw [h1]
    split
    · split
      · split
        · split
          · rw [hd _ (by first | assumption | rfl)]
          · rfl
        · rfl
      · rfl
      · rfl
    · rfl
  case call c =>
    obtain ⟨cl,xs,ts⟩ := c
    cases cl <;> try rfl
    rename_i bi
    cases bi <;> try rfl
    simp only [rowOp]
    split
    · rename_i s x t t' _ _
      split
      · simp only [asTy_congr (hk x),asVal_congr (hk x)]
        split
        · rename_i r v hs;rw [hk s r (by rw [hs];simp [K.res])]
        · split
          · rw [hd _ (by first | assumption | rfl)]
          · rfl
        · rfl
      · rfl
    · rfl
theorem callOp_congr {k : Operand → K} {op : Op} (hk : ∀ x,∀ r ∈ (k x).res,ρ r = ρ' r) : callOp P C ρ k op = callOp P C ρ' k op := by
  cases op <;> try rfl
  case makeFunc fn first caps => cases fn <;> rfl
  case call c =>
    obtain ⟨cl,xs,ts⟩ := c
    cases cl <;> try rfl
    rename_i f
    simp only [callOp]
    split
    · rename_i g t cx hf
      have h1 : ∀ c : Ctr,argsK ρ c.args (xs.toList.map k ++ capK t cx) = argsK ρ' c.args (xs.toList.map k ++ capK t cx) := fun c => argsK_congr (fun k' hk' r hr => by
        rcases List.mem_append.1 hk' with h | h
        · obtain ⟨q,_,rfl⟩ := List.mem_map.1 h;exact hk q r hr
        · exfalso
          have : ∀ (t : Ty) (x : t.den) (k' : K),k' ∈ capK t x → k'.res = [] := by
            intro t
            induction t with
            | pair a b _ ih =>
              intro x k' h
              rcases List.mem_cons.1 h with rfl | h
              · rfl
              · exact ih x.2 k' h
            | _ => intro x k' h;cases h
          rw [this t cx k' h] at hr
          cases hr)
      simp only [h1]
    · rfl
theorem stepOp_congr {k : Operand → K} {d : Option Nat} {op : Op} (hk : ∀ x,∀ r ∈ (k x).res,ρ r = ρ' r) (hd : ∀ r,d = some r → ρ r = ρ' r) : stepOp P C T ρ k d op = stepOp P C T ρ' k d op := by
  unfold stepOp
  rw [boxOp_congr hk hd,rowOp_congr hk hd,callOp_congr hk]
end
def guardSlot (ops : Array Oper) (o : Oper) : Option Nat := match o.guard with
  | some (j,_) => (ops[j]?).bind (·.dst)
  | none => none
def readsOf (ops : Array Oper) (o : Oper) : List Nat := tmpsOf o.op ++ (guardSlot ops o).toList
theorem unW_res (k : K) : ∀ r ∈ (unW k).res,r ∈ k.res := by cases k <;> simp [unW,K.res]
theorem oneOp_congr {B : Book} {G G' : Nat → K} {ρ ρ' : Nat → Res} {ops : Array Oper} {o : Oper} (hG : ∀ s ∈ readsOf ops o,G s = G' s) (hρ : ∀ s ∈ tmpsOf o.op,∀ r ∈ (G s).res,ρ r = ρ' r) (hd : ∀ r,o.dst = some r → ρ r = ρ' r) : oneOp B G ρ ops o = oneOp B G' ρ' ops o := by
  have h1 : onlyK (tmpsOf o.op) G = onlyK (tmpsOf o.op) G' := by
    funext s
    unfold onlyK
    split
    · rename_i h;exact hG s (List.mem_append_left _ (by simpa using h))
    · rfl
  have h2 : onlyK (tmpsOf o.op) (unG G) = onlyK (tmpsOf o.op) (unG G') := by
    funext s
    unfold onlyK
    split
    · rename_i h;unfold unG;rw [hG s (List.mem_append_left _ (by simpa using h))]
    · rfl
  have h3 : (tmpsOf o.op).flatMap (fun s => condW (G s)) = (tmpsOf o.op).flatMap (fun s => condW (G' s)) := by
    have : ∀ l : List Nat,(∀ s ∈ l,G s = G' s) → l.flatMap (fun s => condW (G s)) = l.flatMap (fun s => condW (G' s)) := by
      intro l
      induction l with
      | nil => intro _;rfl
      | cons x l ih => intro h;rw [List.flatMap_cons,List.flatMap_cons,h x (List.mem_cons_self ..),ih (fun s hs => h s (List.mem_cons_of_mem _ hs))]
    exact this _ (fun s hs => hG s (List.mem_append_left _ hs))
  have k1 : ∀ x,∀ r ∈ (opK (onlyK (tmpsOf o.op) G') x).res,ρ r = ρ' r := by
    rw [← h1]
    intro x r hr
    cases x with
    | tmp s =>
      have hr : r ∈ (onlyK (tmpsOf o.op) G s).res := hr
      unfold onlyK at hr
      split at hr
      · rename_i h;exact hρ s (by simpa using h) r hr
      · cases hr
    | const v => exfalso;have hr : r ∈ (constK v).res := hr;unfold constK at hr;split at hr <;> cases hr
    | func f => cases hr
    | global g => cases hr
  have k2 : ∀ x,∀ r ∈ (opK (onlyK (tmpsOf o.op) (unG G')) x).res,ρ r = ρ' r := by
    rw [← h2]
    intro x r hr
    cases x with
    | tmp s =>
      have hr : r ∈ (onlyK (tmpsOf o.op) (unG G) s).res := hr
      unfold onlyK at hr
      split at hr
      · rename_i h;exact hρ s (by simpa using h) r (unW_res _ r hr)
      · cases hr
    | const v => exfalso;have hr : r ∈ (constK v).res := hr;unfold constK at hr;split at hr <;> cases hr
    | func f => cases hr
    | global g => cases hr
  unfold oneOp
  rw [h1,h2,h3,stepOp_congr k1 hd,stepOp_congr k2 hd]
  cases hg : o.guard with
  | none => rfl
  | some jb =>
    obtain ⟨j,b⟩ := jb
    simp only
    cases hs : (ops[j]?).bind (·.dst) with
    | none => rfl
    | some s =>
      have : G s = G' s := hG s (List.mem_append_right _ (by simp [guardSlot,hg,hs]))
      simp only [this]
end Go.Proofs.YtidfgdchcpmnfaaGreat
namespace Go.Proofs.YtidfgdchcpmnfaaGreat
open Go Go.RowKit
set_option linter.unusedSimpArgs false
set_option linter.unusedVariables false
set_option maxRecDepth 20000
def foldU {α : Type} (done : Nat → Bool) : Nat → List (List (Nat × α)) → (Nat → α) → Nat → α
  | _,[],f => f
  | j,u :: us,f => foldU done (j + 1) us (if done j then afterU f u else f)
theorem foldU_at {α : Type} {d d' : Nat → Bool} {r : Nat} : ∀ (us : List (List (Nat × α))) (b : Nat) (f g : Nat → α),f r = g r → (∀ j u,us[j]? = some u → r ∈ u.map (·.1) → d (b + j) = d' (b + j)) → foldU d b us f r = foldU d' b us g r
  | [],b,f,g,h,_ => h
  | u :: us,b,f,g,h,hd => by
    simp only [foldU]
    refine foldU_at us (b + 1) _ _ ?_ (fun j u' hu hr => by have := hd (j + 1) u' hu hr;rwa [show b + (j + 1) = b + 1 + j by omega] at this)
    by_cases hr : r ∈ u.map (·.1)
    · have := hd 0 u rfl hr
      rw [Nat.add_zero] at this
      rw [← this]
      split
      · exact afterU_same h u
      · exact h
    · split <;> split <;> first
        | (rw [afterU_off u _ hr,afterU_off u _ hr];exact h)
        | (rw [afterU_off u _ hr];exact h)
        | exact h
theorem foldU_off {α : Type} {d : Nat → Bool} {r : Nat} : ∀ (us : List (List (Nat × α))) (b : Nat) (f : Nat → α),(∀ j u,us[j]? = some u → r ∈ u.map (·.1) → d (b + j) = false) → foldU d b us f r = f r
  | [],b,f,_ => rfl
  | u :: us,b,f,hd => by
    simp only [foldU]
    rw [foldU_off us (b + 1) _ (fun j u' hu hr => by have := hd (j + 1) u' hu hr;rwa [show b + (j + 1) = b + 1 + j by omega] at this)]
    by_cases hr : r ∈ u.map (·.1)
    · have := hd 0 u rfl hr
      rw [Nat.add_zero] at this
      rw [this];rfl
    · split
      · exact afterU_off u _ hr
      · rfl
theorem afterU_on {α : Type} {r : Nat} : ∀ (l : List (Nat × α)) (f g : Nat → α),r ∈ l.map (·.1) → afterU f l r = afterU g l r
  | [],_,_,h => by cases h
  | (q,x) :: l,f,g,h => by
    simp only [afterU]
    by_cases hr : r ∈ l.map (·.1)
    · exact afterU_on l _ _ hr
    · rw [afterU_off l _ hr,afterU_off l _ hr]
      have : r = q := by
        rcases List.mem_cons.1 h with h | h
        · exact h
        · exact absurd h hr
      subst this
      rw [setF_same,setF_same]
theorem foldU_more {α : Type} {d d' : Nat → Bool} {u : List (Nat × α)} : ∀ (us : List (List (Nat × α))) (b i : Nat) (f : Nat → α),us[i]? = some u → d (b + i) = false → d' (b + i) = true → (∀ j,j ≠ b + i → d' j = d j) → (∀ r ∈ u.map (·.1),∀ j v,us[j]? = some v → i < j → r ∈ v.map (·.1) → d (b + j) = false) → foldU d' b us f = afterU (foldU d b us f) u
  | v :: us,b,0,f,hi,hd,hd',he,hn => by
    simp only [List.getElem?_cons_zero,Option.some.injEq] at hi
    subst hi
    simp only [Nat.add_zero] at hd hd' he
    simp only [foldU,hd,hd',if_true,Bool.false_eq_true,if_false]
    funext r
    have h1 : foldU d' (b + 1) us (afterU f v) r = foldU d (b + 1) us (afterU f v) r := foldU_at us (b + 1) _ _ rfl (fun j u' hu hr => he _ (by omega))
    rw [h1]
    by_cases hr : r ∈ v.map (·.1)
    · rw [foldU_off us (b + 1) _ (fun j u' hu hr' => by have := hn r hr (j + 1) u' hu (by omega) hr';rwa [show b + (j + 1) = b + 1 + j by omega] at this)]
      exact afterU_on v _ _ hr
    · rw [afterU_off v _ hr]
      exact foldU_at us (b + 1) _ _ (afterU_off v _ hr) (fun j u' hu hr => rfl)
  | v :: us,b,i + 1,f,hi,hd,hd',he,hn => by
    simp only [foldU]
    have : (if d' b = true then afterU f v else f) = (if d b = true then afterU f v else f) := by rw [he b (by omega)]
    rw [this]
    exact foldU_more us (b + 1) i _ hi (by rwa [show b + 1 + i = b + (i + 1) by omega]) (by rwa [show b + 1 + i = b + (i + 1) by omega]) (fun j hj => he j (by omega)) (fun r hr j v' hv hlt hr' => by
      have := hn r hr (j + 1) v' hv (by omega) hr'
      rwa [show b + (j + 1) = b + 1 + j by omega] at this)
  | [],b,i,f,hi,hd,hd',he,hn => by simp at hi
theorem foldU_all {α : Type} {d : Nat → Bool} : ∀ (us : List (List (Nat × α))) (b : Nat) (f : Nat → α),(∀ j,j < us.length → d (b + j) = true) → foldU d b us f = us.foldl afterU f
  | [],b,f,h => rfl
  | u :: us,b,f,h => by
    have h0 := h 0 (by simp)
    rw [Nat.add_zero] at h0
    simp only [foldU,h0,if_true,List.foldl_cons]
    exact foldU_all us (b + 1) _ (fun j hj => by have := h (j + 1) (by simpa using hj);rwa [show b + (j + 1) = b + 1 + j by omega] at this)
structure Sim where
  k : K
  l : List (Nat × Res)
  touch : List Nat
def simOps (B : Book) (ops : Array Oper) : List Oper → Gam → Rho → Option (List Prop × List Sim × Gam × Rho)
  | [],G,R => some ([],[],G,R)
  | o :: rest,G,R => match oneOp B (getK G) (getR R) ops o with
    | some (vc,k,l) => match simOps B ops rest (putG o.dst k G) (aft R l) with
      | some (vc',ss,G',R') => some (vc ++ vc',⟨k,l,(tmpsOf o.op).flatMap (fun s => (getK G s).res) ++ o.dst.toList ++ l.map (·.1)⟩ :: ss,G',R')
      | none => none
    | none => none
def isDst (o : Oper) (l : List Nat) : Bool := match o.dst with
  | some s => l.contains s
  | none => false
def sameDst (o o' : Oper) : Bool := match o.dst,o'.dst with
  | some s,some s' => s == s'
  | _,_ => false
def clash (ops : Array Oper) (o o' : Oper) (s s' : Sim) : Bool := isDst o (readsOf ops o') || isDst o' (readsOf ops o) || s.l.any (fun q => s'.touch.contains q.1) || s'.l.any (fun q => s.touch.contains q.1)
def orderB (ops : Array Oper) (b : Array Nat) (ss : List Sim) : Bool := (List.range ops.size).all fun j => match ops[j]?,ss[j]? with
  | some o',some s' => (List.range j).all fun i => match ops[i]?,ss[i]? with
    | some o,some s => !sameDst o o' && (!clash ops o o' s s' || (b.getD j 0).testBit i)
    | _,_ => false
  | _,_ => false
def needB (ops : Array Oper) (b : Array Nat) : Bool := (List.range ops.size).all fun j => match ops[j]? with
  | some o => (List.range j).all fun i => !(b.getD j 0).testBit i || o.after.any fun e => Region.binds .any e && (e.on == i || (decide (e.on < j) && decide (i < e.on) && (b.getD e.on 0).testBit i))
  | none => false
def ClosedL (ops : Array Oper) (L : Array Bool) : Prop := ∀ j o,ops[j]? = some o → L.getD j false = true → ∀ e ∈ o.after,Region.binds .any e = true → L.getD e.on false = true
theorem needB_spec {ops : Array Oper} {b : Array Nat} (h : needB ops b = true) {L : Array Bool} (hc : ClosedL ops L) : ∀ (j : Nat) (o : Oper) (i : Nat),ops[j]? = some o → i < j → (b.getD j 0).testBit i = true → (∀ e ∈ o.after,Region.binds .any e = true → L.getD e.on false = true) → L.getD i false = true := by
  intro j
  induction j using Nat.strongRecOn with
  | _ j ih =>
    intro o i ho hij hb hd
    have hj : j < ops.size := (Array.getElem?_eq_some_iff.1 ho).1
    have h1 := (List.all_eq_true.1 h) j (List.mem_range.2 hj)
    rw [ho] at h1
    have h2 := (List.all_eq_true.1 h1) i (List.mem_range.2 hij)
    rw [hb] at h2
    simp only [Bool.not_true,Bool.false_or,Array.any_eq_true'] at h2
    obtain ⟨e,he,h3⟩ := h2
    simp only [Bool.and_eq_true,Bool.or_eq_true,beq_iff_eq,decide_eq_true_eq] at h3
    obtain ⟨h4,h5⟩ := h3
    have hdone := hd e he h4
    rcases h5 with h5 | ⟨⟨h5,hie⟩,h6⟩
    · rw [← h5];exact hdone
    · have ho' : ops[e.on]? = some ops[e.on] := Array.getElem?_eq_getElem (by omega)
      exact ih e.on h5 _ i ho' hie h6 (hc e.on _ ho' hdone)
theorem foldU_shift {α : Type} {d : Nat → Bool} : ∀ (us : List (List (Nat × α))) (b : Nat) (f : Nat → α),foldU d (b + 1) us f = foldU (fun j => d (j + 1)) b us f
  | [],b,f => rfl
  | u :: us,b,f => by simp only [foldU];exact foldU_shift us (b + 1) _
def kups (l : List Oper) (ss : List Sim) : List (List (Nat × K)) := List.zipWith (fun o s => upsK o.dst s.k) l ss
def lups (ss : List Sim) : List (List (Nat × Res)) := ss.map (·.l)
theorem simOps_at {B : Book} {ops : Array Oper} : ∀ {l : List Oper} {G : Gam} {R : Rho} {vc : List Prop} {ss : List Sim} {G' : Gam} {R' : Rho},simOps B ops l G R = some (vc,ss,G',R') →
    ss.length = l.length ∧ getK G' = (kups l ss).foldl afterU (getK G) ∧ getR R' = (lups ss).foldl afterU (getR R) ∧
    ∀ i o,l[i]? = some o → ∃ s vi,ss[i]? = some s ∧ (allP vc → allP vi) ∧ oneOp B (foldU (fun j => decide (j < i)) 0 (kups l ss) (getK G)) (foldU (fun j => decide (j < i)) 0 (lups ss) (getR R)) ops o = some (vi,s.k,s.l) ∧
      s.touch = (tmpsOf o.op).flatMap (fun q => (foldU (fun j => decide (j < i)) 0 (kups l ss) (getK G) q).res) ++ o.dst.toList ++ s.l.map (·.1)
  | [],G,R,vc,ss,G',R',h => by
    simp only [simOps,Option.some.injEq,Prod.mk.injEq] at h
    obtain ⟨_,rfl,rfl,rfl⟩ := h
    exact ⟨rfl,rfl,rfl,fun i o hi => by simp at hi⟩
  | o :: rest,G,R,vc,ss,G',R',h => by
    simp only [simOps] at h
    split at h <;> first | (cases h;done) | skip
    rename_i vc1 k l1 h1
    split at h <;> first | (cases h;done) | skip
    rename_i vc2 ss2 G2 R2 h2
    simp only [Option.some.injEq,Prod.mk.injEq] at h
    obtain ⟨rfl,rfl,rfl,rfl⟩ := h
    obtain ⟨k1,k2,k3,k4⟩ := simOps_at h2
    rw [getK_put] at k2 k4
    rw [getR_aft,after_eq] at k3 k4
    refine ⟨by simp [k1],k2,k3,fun i o' hi => ?_⟩
    cases i with
    | zero =>
      simp only [List.getElem?_cons_zero,Option.some.injEq] at hi
      subst hi
      have e1 : ∀ {α : Type} (us : List (List (Nat × α))) (f : Nat → α),foldU (fun j => decide (j < 0)) 0 us f = f := fun us f => by
        funext r
        exact foldU_off us 0 f (fun j u _ _ => by simp)
      exact ⟨_,vc1,rfl,fun hv => (allP_append.1 hv).1,by rw [e1,e1];exact h1,by rw [e1]⟩
    | succ i =>
      obtain ⟨s,vi,j1,j2,j3,j4⟩ := k4 i o' (by simpa using hi)
      have e1 : ∀ {α : Type} (u : List (Nat × α)) (us : List (List (Nat × α))) (f : Nat → α),foldU (fun j => decide (j < i + 1)) 0 (u :: us) f = foldU (fun j => decide (j < i)) 0 us (afterU f u) := fun u us f => by
        simp only [foldU]
        rw [if_pos (by simp),foldU_shift]
        congr 1
        funext j
        simp
      refine ⟨s,vi,by simpa using j1,fun hv => j2 (allP_append.1 hv).2,?_,?_⟩
      · show oneOp B (foldU _ 0 (upsK o.dst k :: kups rest ss2) (getK G)) (foldU _ 0 (l1 :: lups ss2) (getR R)) ops o' = _
        rw [e1,e1];exact j3
      · show s.touch = (tmpsOf o'.op).flatMap (fun q => (foldU _ 0 (upsK o.dst k :: kups rest ss2) (getK G) q).res) ++ _ ++ _
        rw [e1];exact j4
theorem kups_at {l : List Oper} {ss : List Sim} {j : Nat} {u : List (Nat × K)} (h : (kups l ss)[j]? = some u) : ∃ o s,l[j]? = some o ∧ ss[j]? = some s ∧ u = upsK o.dst s.k := by
  unfold kups at h
  rw [List.getElem?_zipWith] at h
  cases h1 : l[j]? with
  | none => rw [h1] at h;cases h
  | some o =>
    cases h2 : ss[j]? with
    | none => rw [h1,h2] at h;cases h
    | some s => rw [h1,h2] at h;simp at h;exact ⟨o,s,rfl,rfl,h.symm⟩
theorem lups_at {ss : List Sim} {j : Nat} {u : List (Nat × Res)} (h : (lups ss)[j]? = some u) : ∃ s,ss[j]? = some s ∧ u = s.l := by
  unfold lups at h
  rw [List.getElem?_map] at h
  cases h2 : ss[j]? with
  | none => rw [h2] at h;cases h
  | some s => rw [h2] at h;simp at h;exact ⟨s,rfl,h.symm⟩
theorem upsK_mem {d : Option Nat} {k : K} {r : Nat} (h : r ∈ (upsK d k).map (·.1)) : d = some r := by
  cases d with
  | none => cases h
  | some s => simp [upsK] at h;rw [h]
theorem isDst_of {o : Oper} {l : List Nat} {s : Nat} (h : o.dst = some s) (hs : s ∈ l) : isDst o l = true := by simp [isDst,h,hs]
theorem anyL_of {l : List (Nat × Res)} {t : List Nat} {r : Nat} (h : r ∈ l.map (·.1)) (ht : r ∈ t) : l.any (fun q => t.contains q.1) = true := by
  obtain ⟨q,hq,rfl⟩ := List.mem_map.1 h
  exact List.any_eq_true.2 ⟨q,hq,by simpa using ht⟩
theorem orderB_spec {ops : Array Oper} {b : Array Nat} {ss : List Sim} (h : orderB ops b ss = true) {i j : Nat} {o o' : Oper} {s s' : Sim} (hij : i < j) (hi : ops[i]? = some o) (hj : ops[j]? = some o') (hs : ss[i]? = some s) (hs' : ss[j]? = some s') : sameDst o o' = false ∧ (clash ops o o' s s' = true → (b.getD j 0).testBit i = true) := by
  have hjl : j < ops.size := (Array.getElem?_eq_some_iff.1 hj).1
  have h1 := (List.all_eq_true.1 h) j (List.mem_range.2 hjl)
  rw [hj,hs'] at h1
  have h2 := (List.all_eq_true.1 h1) i (List.mem_range.2 hij)
  rw [hi,hs] at h2
  simp only [Bool.and_eq_true,Bool.not_eq_true',Bool.or_eq_true] at h2
  refine ⟨h2.1,fun hc => ?_⟩
  rcases h2.2 with h3 | h3
  · rw [hc] at h3;cases h3
  · exact h3
theorem clash_w {ops : Array Oper} {o o' : Oper} {s s' : Sim} (h : s.l.any (fun q => s'.touch.contains q.1) = true) : clash ops o o' s s' = true := by unfold clash;rw [h];simp
theorem clash_x {ops : Array Oper} {o o' : Oper} {s s' : Sim} (h : s'.l.any (fun q => s.touch.contains q.1) = true) : clash ops o o' s s' = true := by unfold clash;rw [h];simp
section
variable {B : Book} {W : World}
theorem anyOps_ok (hB : B.Ok) (hm : B.P.follows .mixedOrders = true) {id : Nat} {ops : Array Oper} {b : Array Nat} {Q : Exit → Act → World → Prop} {G : Gam} {R : Rho} {E : Env} {w : World} {a : Act} {vc : List Prop} {ss : List Sim} {G' : Gam} {R' : Rho}
    (h : simOps B ops ops.toList G R = some (vc,ss,G',R')) (hd : edgesDown .any ops = true) (ho : orderB ops b ss = true) (hn : needB ops b = true) (hv : allP vc) (hM : Mem E (getR R) W w) (hf : Fits E (getR R) w B.N a (getK G))
    (hq : ∀ E' a' w',E'.base = E.base → Mem E' (getR R') W w' → Fits E' (getR R') w' B.N a' (getK G') → Q .normal a' w') : (Code.region id ops true).wp B.P Q a w := by
  obtain ⟨hlen,hG',hR',hat⟩ := simOps_at h
  have hlen' : ss.length = ops.size := by simpa using hlen
  refine wp_region_any hm ?_
  refine wpAny_ind (fun L a w => L.size = ops.size ∧ ClosedL ops L ∧ ∃ E',E'.base = E.base ∧ Mem E' (foldU (fun j => L.getD j false) 0 (lups ss) (getR R)) W w ∧ Fits E' (foldU (fun j => L.getD j false) 0 (lups ss) (getR R)) w B.N a (foldU (fun j => L.getD j false) 0 (kups ops.toList ss) (getK G))) hd ?_ ?_ _ _ _ _ (by rw [undone_new];exact Nat.le_refl _) ?_
  · rintro L a w ⟨hL,_,E9,m0,m1,m2⟩ hall
    have hdone : ∀ j,j < ops.size → L.getD j false = true := fun j hj => getD_true_of hL hj (hall j hj)
    have e1 : foldU (fun j => L.getD j false) 0 (lups ss) (getR R) = getR R' := by
      rw [hR']
      exact foldU_all _ 0 _ (fun j hj => by rw [Nat.zero_add];exact hdone j (by simpa [lups,hlen'] using hj))
    have e2 : foldU (fun j => L.getD j false) 0 (kups ops.toList ss) (getK G) = getK G' := by
      rw [hG']
      exact foldU_all _ 0 _ (fun j hj => by rw [Nat.zero_add];exact hdone j (by simp [kups,hlen'] at hj;exact hj))
    rw [e1] at m1 m2
    rw [e2] at m2
    exact hq E9 a w m0 m1 m2
  · rintro L a w i o ⟨hL,hC,E9,m0,m1,m2⟩ hio hl hdep
    obtain ⟨s,vi,hs,hvi,hone,htouch⟩ := hat i o (by simpa using hio)
    have hi : i < ops.size := (Array.getElem?_eq_some_iff.1 hio).1
    have hif : L.getD i false = false := getD_false_of hl
    have hbefore : ∀ j oj sj,j < i → ops[j]? = some oj → ss[j]? = some sj → clash ops oj o sj s = true → L.getD j false = true := fun j oj sj hji hoj hsj hcl =>
      needB_spec hn hC i o j hio hji ((orderB_spec ho hji hoj hio hsj hs).2 hcl) hdep
    have hbehind : ∀ j oj sj,i < j → ops[j]? = some oj → ss[j]? = some sj → clash ops o oj s sj = true → L.getD j false = false := fun j oj sj hij hoj hsj hcl => by
      cases hjd : L.getD j false with
      | false => rfl
      | true =>
        have := needB_spec hn hC j oj i hoj hij ((orderB_spec ho hij hio hoj hs hsj).2 hcl) (hC j oj hoj hjd)
        rw [this] at hif;cases hif
    have hsameK : ∀ q ∈ readsOf ops o,foldU (fun j => decide (j < i)) 0 (kups ops.toList ss) (getK G) q = foldU (fun j => L.getD j false) 0 (kups ops.toList ss) (getK G) q := fun q hq => foldU_at _ 0 _ _ rfl (fun j u hu hr => by
      obtain ⟨oj,sj,h1,h2,rfl⟩ := kups_at hu
      have hdj := upsK_mem hr
      have h1' : ops[j]? = some oj := by simpa using h1
      rw [Nat.zero_add]
      by_cases hji : j < i
      · simp only [hji,decide_true]
        exact (hbefore j oj sj hji h1' h2 (by simp [clash,isDst_of hdj hq])).symm
      · simp only [hji,decide_false]
        by_cases e : j = i
        · rw [e];exact hif.symm
        · exact (hbehind j oj sj (by omega) h1' h2 (by simp [clash,isDst_of hdj hq])).symm)
    have hsameR : ∀ r ∈ s.touch,foldU (fun j => decide (j < i)) 0 (lups ss) (getR R) r = foldU (fun j => L.getD j false) 0 (lups ss) (getR R) r := fun r hr => foldU_at _ 0 _ _ rfl (fun j u hu hr' => by
      obtain ⟨sj,h2,rfl⟩ := lups_at hu
      have hjl : j < ops.size := by rw [← hlen'];exact (List.getElem?_eq_some_iff.1 h2).1
      have h1' : ops[j]? = some ops[j] := Array.getElem?_eq_getElem hjl
      rw [Nat.zero_add]
      by_cases hji : j < i
      · simp only [hji,decide_true]
        exact (hbefore j _ sj hji h1' h2 (clash_w (anyL_of hr' hr))).symm
      · simp only [hji,decide_false]
        by_cases e : j = i
        · rw [e];exact hif.symm
        · exact (hbehind j _ sj (by omega) h1' h2 (clash_x (anyL_of hr' hr))).symm)
    have hone2 : oneOp B (foldU (fun j => L.getD j false) 0 (kups ops.toList ss) (getK G)) (foldU (fun j => L.getD j false) 0 (lups ss) (getR R)) ops o = some (vi,s.k,s.l) := by
      rw [← hone]
      refine (oneOp_congr hsameK (fun q hq r hr => hsameR r ?_) (fun r hr => hsameR r ?_)).symm
      · rw [htouch];exact List.mem_append_left _ (List.mem_append_left _ (List.mem_flatMap.2 ⟨q,hq,hr⟩))
      · rw [htouch];exact List.mem_append_left _ (List.mem_append_right _ (by rw [hr];simp))
    have hmoreR : foldU (fun j => (L.setIfInBounds i true).getD j false) 0 (lups ss) (getR R) = afterU (foldU (fun j => L.getD j false) 0 (lups ss) (getR R)) s.l := by
      refine foldU_more _ 0 i _ (by unfold lups;rw [List.getElem?_map,hs];rfl) (by rw [Nat.zero_add];exact hif) (by rw [Nat.zero_add];exact getD_set_same hl) (fun j hj => getD_set_other (by omega)) (fun r hr j v hv hij hr' => ?_)
      obtain ⟨sj,h2,rfl⟩ := lups_at hv
      have hjl : j < ops.size := by rw [← hlen'];exact (List.getElem?_eq_some_iff.1 h2).1
      have hjt : r ∈ sj.touch := by
        obtain ⟨sj',_,h3,_,_,h4⟩ := hat j ops[j] (by simp [hjl])
        rw [h2] at h3
        cases h3
        rw [h4];exact List.mem_append_right _ hr'
      rw [Nat.zero_add]
      exact hbehind j _ sj hij (Array.getElem?_eq_getElem hjl) h2 (clash_w (anyL_of hr hjt))
    have hmoreK : foldU (fun j => (L.setIfInBounds i true).getD j false) 0 (kups ops.toList ss) (getK G) = afterU (foldU (fun j => L.getD j false) 0 (kups ops.toList ss) (getK G)) (upsK o.dst s.k) := by
      refine foldU_more _ 0 i _ (by unfold kups;rw [List.getElem?_zipWith,hs];simp [hio]) (by rw [Nat.zero_add];exact hif) (by rw [Nat.zero_add];exact getD_set_same hl) (fun j hj => getD_set_other (by omega)) (fun r hr j v hv hij hr' => ?_)
      obtain ⟨oj,sj,h1,h2,rfl⟩ := kups_at hv
      have h1' : ops[j]? = some oj := by simpa using h1
      have hd1 := upsK_mem hr
      have hd2 := upsK_mem hr'
      have := (orderB_spec ho hij hio h1' hs h2).1
      simp [sameDst,hd1,hd2] at this
    have hCl : ClosedL ops (L.setIfInBounds i true) := by
      intro j oj hoj hj e he hb'
      have hset : ∀ q,L.getD q false = true → (L.setIfInBounds i true).getD q false = true := fun q hq => by
        by_cases e1 : i = q
        · subst e1;rw [hif] at hq;cases hq
        · rw [getD_set_other e1];exact hq
      by_cases e1 : j = i
      · subst e1
        rw [hio] at hoj
        cases hoj
        exact hset _ (hdep e he hb')
      · rw [getD_set_other (fun e2 => e1 e2.symm)] at hj
        exact hset _ (hC j oj hoj hj e he hb')
    unfold wpOp
    rw [hio]
    refine oneOp_ok hB hone2 (hvi hv) m1 m2 (fun v w' E' n1 n2 n3 n4 => ⟨by simpa using hL,hCl,E',n2.base.trans m0,?_,?_⟩)
    · rw [hmoreR,← after_eq];exact n1
    · rw [hmoreR,hmoreK,← after_eq];exact m2.put n2 (oneOp_dst hone2) n3 n4
  · have hnew : ∀ j,(Array.replicate ops.size false).getD j false = false := fun j => getD_new _ j
    have e1 : ∀ {α : Type} (us : List (List (Nat × α))) (f : Nat → α),foldU (fun j => (Array.replicate ops.size false).getD j false) 0 us f = f := fun us f => by
      funext r
      exact foldU_off us 0 f (fun j u _ _ => hnew _)
    rw [e1,e1]
    obtain ⟨n1,n2⟩ := hM.grows (Below.refl w.heap.size w).drew
    have hcl0 : ClosedL ops (Array.replicate ops.size false) := fun j o hj hj2 => by rw [hnew] at hj2;cases hj2
    exact ⟨by simp,hcl0,E,rfl,n1,hf.size,hf.defers,fun s => n2.wf _ (hf.wf s),fun s => n2.holds _ _ (hf.wf s) (hf.holds s)⟩
end
end Go.Proofs.YtidfgdchcpmnfaaGreat
