/-
  Lemmas for the theorem vchords_holds, part 18 of 33.
-/
import Derived.Test.YtidfgdchcpmnfaaGreatCd03
import Derived.Test.YtidfgdchcpmnfaaGreatCd06
import Derived.Test.YtidfgdchcpmnfaaGreatCd17
namespace Go.Proofs.YtidfgdchcpmnfaaGreat
open Go Go.RowKit
set_option linter.unusedSimpArgs false
set_option linter.unusedVariables false
set_option maxRecDepth 20000
noncomputable def tyOf (rt : Ty) : Nat → TypeId → Option Ty
  | 0,_ => none
  | n + 1,t => if t = 30 then some rt else if t = 28 then some (.lf .big) else match Tryz.prog.underlying t with
    | some .bool => some .bool
    | some (.int k) => some (.int k)
    | some .string => some (.lf .str)
    | some (.slice e) => (tyOf rt n e).map .list
    | some (.array m e) => (tyOf rt n e).map (.arr m)
    | some (.struct fs) => fs.toList.foldr (fun f acc => match tyOf rt n f.type,acc with
      | some a,some b => some (.pair a b)
      | _,_ => none) (some .unit)
    | _ => none
noncomputable def told (wr : List Nat) : Told := ⟨tyOf (.lf .rrat) 8,tyOf (.lf .rat) 8,fun s => wr.contains s⟩
structure Lib where
  l : List (FuncId × Ctr)
  ok : ∀ p ∈ l,CtrOk Tryz.prog p.1 p.2
def findC : List (FuncId × Ctr) → FuncId → Option Ctr
  | [],_ => none
  | (f,c) :: l,g => if g = f then some c else findC l g
theorem findC_mem : ∀ {l : List (FuncId × Ctr)} {g : FuncId} {c : Ctr},findC l g = some c → (g,c) ∈ l
  | (f,c') :: l,g,c,h => by
    simp only [findC] at h
    split at h
    · rename_i e
      cases h
      rw [e];exact List.mem_cons_self ..
    · exact List.mem_cons_of_mem _ (findC_mem h)
  | [],g,c,h => by cases h
def Lib.nil : Lib := ⟨[],fun p hp => by cases hp⟩
def Lib.add (L : Lib) (f : FuncId) (c : Ctr) (h : CtrOk Tryz.prog f c) : Lib := ⟨(f,c) :: L.l,fun p hp => by
  rcases List.mem_cons.1 hp with rfl | hp
  · exact h
  · exact L.ok p hp⟩
noncomputable def Lib.book (L : Lib) (N : Nat) (wr : List Nat) : Book := ⟨Tryz.prog,findC L.l,told wr,N⟩
theorem Lib.good (L : Lib) (N : Nat) (wr : List Nat) : (L.book N wr).Ok := fun g c h => L.ok (g,c) (findC_mem h)
theorem mixed : Tryz.prog.follows .mixedOrders = true := by kernel_rfl
theorem ctr_fn (L : Lib) {f : FuncId} {fn : Func} {code : Code} {c : Ctr} (wr : List Nat) (hf : Tryz.prog.funcs[f]? = some fn) (hb : fn.body = some code) (hargs : c.args.length ≤ fn.ntmps) (A : (nest c.args).den → List Ann)
    (h : ∀ x,c.pre x → vwp (L.book fn.ntmps wr) code (A x) (retQ (L.book fn.ntmps wr) c.res fn.results.toList (c.fn x)) (argG 0 c.args x) []) : CtrOk Tryz.prog f c :=
  ctr_of (B := L.book fn.ntmps wr) (L.good fn.ntmps wr) mixed hf hb rfl hargs A h
theorem rat_v {F : Nat → Prop} {w : World} {v : Value} {x : Rat} (h : vrep F w (.lf .rat) v x) : RQ w v x := by
  obtain ⟨cs,rfl,h2⟩ := h
  exact h2
theorem v_rat {F : Nat → Prop} {w : World} {v : Value} {x : Rat} (h : RQ w v x) : vrep F w (.lf .rat) v x := by
  obtain ⟨b,p,n,c,b',p',n',c',rfl⟩ := h.form
  exact ⟨_,rfl,h⟩
theorem v_bool {F : Nat → Prop} {w : World} (b : Bool) : vrep F w .bool (.bool b) b := ⟨_,rfl,rfl⟩
theorem bool_v {F : Nat → Prop} {w : World} {v : Value} {b : Bool} (h : vrep F w .bool v b) : v = .bool b := by
  obtain ⟨cs,rfl,h2⟩ := h
  rw [show cs = _ from h2];rfl
theorem v_int {F : Nat → Prop} {w : World} {k : IntKind} (b : Int) : vrep F w (.int k) (.int k b) b := ⟨_,rfl,rfl⟩
theorem int_v {F : Nat → Prop} {w : World} {k : IntKind} {v : Value} {b : Int} (h : vrep F w (.int k) v b) : v = .int k b := by
  obtain ⟨cs,rfl,h2⟩ := h
  rw [show cs = _ from h2];rfl
abbrev tQ : Ty := .lf .rat
abbrev tI : Ty := .int .i64
def cQ2 (pre : Rat → Rat → Prop) (g : Rat → Rat → Rat) : Ctr := ⟨[tQ,tQ],[tQ],fun x => pre x.1 x.2.1,fun x => (g x.1 x.2.1,())⟩
theorem cQ2_ok {f : FuncId} {pre : Rat → Rat → Prop} {g : Rat → Rat → Rat} (h : ∀ (v u : Value) (x y : Rat) (w : World),RQ w v x → RQ w u y → pre x y → Calls Tryz.prog f #[v,u] w (GQ (g x y) w)) : CtrOk Tryz.prog f (cQ2 pre g) := by
  intro F w vs x hF hvs hp
  obtain ⟨v,vs',rfl,h1,u,vs'',rfl,h2,h3⟩ := hvs
  have h3 : vs'' = [] := h3
  subst h3
  refine (h v u x.1 x.2.1 w (rat_v h1) (rat_v h2) hp).mono ?_
  rintro e w' ⟨r,rfl,hr,hb⟩
  exact ⟨r,rfl,v_rat hr,hb⟩
def cQ1 (pre : Rat → Prop) (g : Rat → Rat) : Ctr := ⟨[tQ],[tQ],fun x => pre x.1,fun x => (g x.1,())⟩
theorem cQ1_ok {f : FuncId} {pre : Rat → Prop} {g : Rat → Rat} (h : ∀ (v : Value) (x : Rat) (w : World),RQ w v x → pre x → Calls Tryz.prog f #[v] w (GQ (g x) w)) : CtrOk Tryz.prog f (cQ1 pre g) := by
  intro F w vs x hF hvs hp
  obtain ⟨v,vs',rfl,h1,h3⟩ := hvs
  have h3 : vs' = [] := h3
  subst h3
  refine (h v x.1 w (rat_v h1) hp).mono ?_
  rintro e w' ⟨r,rfl,hr,hb⟩
  exact ⟨r,rfl,v_rat hr,hb⟩
def cIQ (pre : Int → Prop) (g : Int → Rat) : Ctr := ⟨[tI],[tQ],fun x => pre x.1,fun x => (g x.1,())⟩
theorem cIQ_ok {f : FuncId} {pre : Int → Prop} {g : Int → Rat} (h : ∀ (x : Int) (w : World),pre x → Calls Tryz.prog f #[.int .i64 x] w (GQ (g x) w)) : CtrOk Tryz.prog f (cIQ pre g) := by
  intro F w vs x hF hvs hp
  obtain ⟨v,vs',rfl,h1,h3⟩ := hvs
  have h3 : vs' = [] := h3
  subst h3
  rw [int_v h1]
  refine (h x.1 w hp).mono ?_
  rintro e w' ⟨r,rfl,hr,hb⟩
  exact ⟨r,rfl,v_rat hr,hb⟩
end Go.Proofs.YtidfgdchcpmnfaaGreat
namespace Go.Proofs.YtidfgdchcpmnfaaGreat
open Go.RowKit Go.Shelf
set_option maxRecDepth 100000
set_option maxHeartbeats 4000000
set_option linter.unusedSimpArgs false
set_option linter.unusedVariables false
attribute [local go_sem] Oper.semAt_some
def smallV (x : Int) : Int := if -9223372036854775808 ≤ x ∧ x < 9223372036854775808 then x else 0
def smallB (x : Int) : Bool := decide (-9223372036854775808 ≤ x ∧ x < 9223372036854775808)
def top63 : Nat := 9223372036854775808
theorem top63_eq : top63 = 9223372036854775808 := rfl
structure SBx (B NB : Nat) (b : Bool) (v z : Int) (r : Bool) (W : World) : Prop where
  q : W.cell? ⟨B,0,none⟩ = some (.bool b)
  c2 : W.cell? ⟨B + 1,0,none⟩ = some (.int .i64 z)
  f2 : W.frozen? ⟨B + 1,0,none⟩ = false
  c3 : W.cell? ⟨B + 1 + 1,0,none⟩ = some (.bool r)
  f3 : W.frozen? ⟨B + 1 + 1,0,none⟩ = false
  n : W.cell? ⟨NB,0,none⟩ = some (.int .u64 v)
  fn : W.frozen? ⟨NB,0,none⟩ = false
theorem SBx.kept {B NB : Nat} {b r : Bool} {v z : Int} {A W : World} {row : Option Nat} (hs : SBx B NB b v z r A) (hg : A.grownBy W row) (hr : ∀ k,row = some k → ∃ o,A.heap[k]? = some o ∧ o.isCells = false) : SBx B NB b v z r W :=
  ⟨cell_kept hs.q hg hr,cell_kept hs.c2 hg hr,(frozen_kept hs.c2 hg hr).trans hs.f2,cell_kept hs.c3 hg hr,(frozen_kept hs.c3 hg hr).trans hs.f3,cell_kept hs.n hg hr,(frozen_kept hs.n hg hr).trans hs.fn⟩
theorem SBx.setN {B NB : Nat} {b r : Bool} {v z : Int} {W : World} (h : SBx B NB b v z r W) (hn : B + 1 + 1 < NB) (v' : Int) : SBx B NB b v' z r (W.setCell ⟨NB,0,none⟩ (.int .u64 v')) := by
  refine ⟨?_,?_,?_,?_,?_,?_,?_⟩
  · rw [World.cell?_setCell_far _ _ _ _ (by simp;omega)];exact h.q
  · rw [World.cell?_setCell_far _ _ _ _ (by simp;omega)];exact h.c2
  · rw [World.frozen?_setCell];exact h.f2
  · rw [World.cell?_setCell_far _ _ _ _ (by simp;omega)];exact h.c3
  · rw [World.frozen?_setCell];exact h.f3
  · exact World.cell?_setCell_same' _ _ _ (by rw [h.n];rfl)
  · rw [World.frozen?_setCell];exact h.fn
theorem SBx.setR {B NB : Nat} {b r : Bool} {v z : Int} {W : World} (h : SBx B NB b v z r W) (hn : B + 1 + 1 < NB) (z' : Int) (r' : Bool) : SBx B NB b v z' r' ((W.setCell ⟨B + 1,0,none⟩ (.int .i64 z')).setCell ⟨B + 1 + 1,0,none⟩ (.bool r')) := by
  refine ⟨?_,?_,?_,?_,?_,?_,?_⟩
  · rw [World.cell?_setCell_far _ _ _ _ (by simp;omega),World.cell?_setCell_far _ _ _ _ (by simp)];exact h.q
  · rw [World.cell?_setCell_far _ _ _ _ (by simp)];exact World.cell?_setCell_same' _ _ _ (by rw [h.c2];rfl)
  · rw [World.frozen?_setCell,World.frozen?_setCell];exact h.f2
  · exact World.cell?_setCell_same' _ _ _ (by rw [World.cell?_setCell_far _ _ _ _ (by simp)];rw [h.c3];rfl)
  · rw [World.frozen?_setCell,World.frozen?_setCell];exact h.f3
  · rw [World.cell?_setCell_far _ _ _ _ (by simp;omega),World.cell?_setCell_far _ _ _ _ (by simp;omega)];exact h.n
  · rw [World.frozen?_setCell,World.frozen?_setCell];exact h.fn
theorem wrap_u64S {k : Nat} (h : k ≤ 18446744073709551615) : IntKind.u64.wrap (k : Int) = k := by simp [IntKind.wrap,IntKind.bits,IntKind.signed];omega
theorem wrap_u64I {z : Int} (h0 : 0 ≤ z) (h1 : z ≤ 18446744073709551615) : IntKind.u64.wrap z = z := by simp [IntKind.wrap,IntKind.bits,IntKind.signed];omega
theorem wrap_i64S {k : Nat} (h : k ≤ 9223372036854775807) : IntKind.i64.wrap (k : Int) = k := by simp [IntKind.wrap,IntKind.bits,IntKind.signed];omega
theorem wrap_neg63 {A : Nat} (h0 : 0 < A) (h1 : A ≤ 9223372036854775808) : IntKind.i64.wrap (IntKind.u64.wrap (-(A : Int))) = -(A : Int) := by simp [IntKind.wrap,IntKind.bits,IntKind.signed];omega
theorem hval_le_all {l : List Nat} (hl : Low l) {pre : List (Fin l.length)} (h : IsBack l.length pre) (hle : pre.length ≤ l.length) : hval l pre ≤ val l := by
  rw [hval_back h hle]
  have e := val_append (l.take (l.length - pre.length)) (l.drop (l.length - pre.length))
  rw [List.take_append_drop] at e
  have h1 : 1 ≤ BB ^ (l.take (l.length - pre.length)).length := Nat.pow_pos BB_pos
  have h2 : val (l.drop (l.length - pre.length)) ≤ BB ^ (l.take (l.length - pre.length)).length * val (l.drop (l.length - pre.length)) := Nat.le_mul_of_pos_left _ h1
  omega
theorem small_in (x : Int) (b : Bool) (p : Option Addr) (n c : Nat) (w : World) (hv : Raw w (.agg #[.bool b,.slice p n c]) x) (hlen : (dig x.natAbs).length ≤ 3) (hbx : x ≠ 0 → b = decide (x < 0)) :
    CallsIn Fence.wide 3 Tryz.prog 135 #[.agg #[.bool b,.slice p n c]] w fun e W' => e = .returned (.tuple #[.int .i64 (smallV x),.bool (smallB x)]) ∧ Below w.heap.size w W' := by
  have hro : Fence.wide.round = none := rfl
  refine callsIn_of_wp_marks Tryz.func135 rfl trivial ?_ hro
  simp only [Tryz.ntmps135,List.size_toArray,List.length_cons,List.length_nil,Nat.reduceAdd,Nat.reduceSub,Array.replicate_succ,Array.replicate_zero,List.push_toArray,List.append_toArray,List.nil_append,List.cons_append]
  have hd3 : decide ((3 : Int) < (dig x.natAbs).length) = false := by simp;omega
  have hv1 := ((hv.alloc (.cells #[.bool b,.slice p n c] 28)).alloc (.cells #[.int .i64 0] 3)).alloc (.cells #[.bool false] 4)
  have q0 : Bx (((w.alloc (.cells #[.bool b,.slice p n c] 28)).alloc (.cells #[.int .i64 0] 3)).alloc (.cells #[.bool false] 4)) w.heap.size [.bool b,.slice p n c] := ((Bx.new w [.bool b,.slice p n c] 28).alloc _).alloc _
  have q1 : Bx (((w.alloc (.cells #[.bool b,.slice p n c] 28)).alloc (.cells #[.int .i64 0] 3)).alloc (.cells #[.bool false] 4)) (w.heap.size + 1) [.int .i64 0] := by simpa using (Bx.new (w.alloc (.cells #[.bool b,.slice p n c] 28)) [.int .i64 0] 3).alloc (.cells #[.bool false] 4)
  have q2 : Bx (((w.alloc (.cells #[.bool b,.slice p n c] 28)).alloc (.cells #[.int .i64 0] 3)).alloc (.cells #[.bool false] 4)) (w.heap.size + 1 + 1) [.bool false] := by simpa using Bx.new ((w.alloc (.cells #[.bool b,.slice p n c] 28)).alloc (.cells #[.int .i64 0] 3)) [.bool false] 4
  have hB0 : Below w.heap.size w (((w.alloc (.cells #[.bool b,.slice p n c] 28)).alloc (.cells #[.int .i64 0] 3)).alloc (.cells #[.bool false] 4)) := (((Below.refl _ _).alloc (Nat.le_refl _) _).alloc (by simp) _).alloc (by simp;omega) _
  gi_wp2_with (refine ⟨trivial,?_⟩;gi_at_call 119;refine (callsIn_wide.2 (groups_any _ x _ hv1)).mono ?_;rintro e w1 ⟨s1,rfl,hs1,hb1⟩;obtain ⟨p1,c1,rfl,hl1,hm1⟩ := hs1.form)
  gi_wp2_with (refine ⟨trivial,?_⟩;gi_at_call 164;refine (backward_in Fence.wide 2 trivial hro _ _ _ _).mono ?_;rintro e w' ⟨rfl,rfl⟩)
  have hlow := dig_low x.natAbs
  have HX := Lib.hid (val_dig x.natAbs)
  have HC := Lib.hid (dig_canon x.natAbs)
  have k0 := q0.to hb1
  have k1 := q1.to hb1
  have k2 := q2.to hb1
  have hBw1 := hB0.trans (hb1.mono (by simp;omega))
  have hz1 := k2.1
  clear hv hv1 q0 q1 q2 hB0 hb1
  generalize hll : dig x.natAbs = l at *
  have bN := Bx.new w1 [.int .u64 0] 109
  have bS := Boxed.new (w1.alloc (.cells #[.int .u64 0] 109)) 26 (.slice p1 l.length c1)
  rw [World.size_alloc] at bS
  have hA : Below w1.heap.size w1 ((w1.alloc (.cells #[.int .u64 0] 109)).alloc (.cells #[.slice p1 l.length c1] 26)) := ((Below.refl _ w1).alloc (Nat.le_refl _) _).alloc (by simp) _
  refine wpIn_rangeFunc_ownG (n := 3) (α := Fin l.length) hro (by omega) (gf := 178) (lb := #[.pointer (some ⟨w1.heap.size + 1,0,none⟩)]) rfl trivial (enters_of Tryz.func178 (by kernel_rfl) rfl)
    (back_stops Fence.wide 2 trivial hro (by omega) (w1.heap.size + 1) w1.heap.size _ l _ (by simp) (by simp;omega) bS.cell (hs1.b.below hA)) (fun h k => KB.trans h k) (KB.b (by simp;omega) (by simp)) (Below.refl _ _) (fun _ => rfl)
    (fun (pre : List (Fin l.length)) W => (SBx w.heap.size w1.heap.size b (hval l pre : Nat) 0 false W ∧ hval l pre ≤ top63) ∧ Below w.heap.size w W)
    (fun cd (pre : List (Fin l.length)) W => (cd = .ret ∧ (∃ v,SBx w.heap.size w1.heap.size b v 0 false W) ∧ top63 < hval l pre) ∧ Below w.heap.size w W)
    (OwnFrom.and (Own.from (fun s A B row hs hg hr => ⟨hs.1.kept hg hr,hs.2⟩) _) (ownFrom_below (Nat.le_refl _) (by simp;omega)))
    (fun c => OwnFrom.and (Own.from (fun s A B row hs hg hr => by obtain ⟨hc,⟨v,h1⟩,h2⟩ := hs;exact ⟨hc,⟨v,h1.kept hg hr⟩,h2⟩) _) (ownFrom_below (Nat.le_refl _) (by simp;omega)))
    ⟨⟨by
        have kk0 := k0.to hA
        have kk1 := k1.to hA
        have kk2 := k2.to hA
        have nn := bN.alloc (.cells #[.slice p1 l.length c1] 26)
        exact ⟨kk0.c0,kk1.c0,kk1.f0,kk2.c0,kk2.f0,nn.c0,nn.f0⟩,by simp [hval,top63]⟩,hBw1.trans (hA.mono (by omega))⟩
    (fun (x : Fin l.length) => { tmps := #[.agg #[.bool b,.slice p n c],.pointer (some ⟨w.heap.size,0,none⟩),.pointer (some ⟨w.heap.size + 1,0,none⟩),.pointer (some ⟨w.heap.size + 1 + 1,0,none⟩),.slice p1 l.length c1,.pointer (some ⟨w1.heap.size,0,none⟩),undef,.int .u32 (gr l x.1 : Nat),.agg #[.bool b,.slice p n c],.slice p1 l.length c1,.slice p1 l.length c1,.int .i64 (l.length : Nat),.bool false,.slice p1 l.length c1,.func (.func 178) #[] #[.pointer (some ⟨w1.heap.size + 1,0,none⟩)],.int .i64 (x.1 : Nat),.int .u32 (gr l x.1 : Nat),undef,undef,undef,undef,undef,undef,undef,undef,undef,undef,undef,undef,undef,undef,undef,undef,undef,undef,undef,undef,undef,undef,undef,undef,undef,undef,undef],defers := [] }) ?assign ?body ?done ?stop
  case assign =>
    intro l x W K hK
    gi_wp2
    exact hK
  case body =>
    rintro lo pre y W ⟨⟨hS,hT⟩,hB⟩ hpl
    have hg := gr_le hlow y.1
    have HS := Lib.hid (hval_snoc l pre y)
    obtain ⟨hv,hhv⟩ : ∃ hv,hval l pre = hv := ⟨_,rfl⟩
    rw [hhv] at hS hT HS
    obtain ⟨g,hgg⟩ : ∃ g,gr l y.1 = g := ⟨_,rfl⟩
    rw [hgg] at hg HS ⊢
    have c1' := hS.n
    have f1' := hS.fn
    have c2' := hS.c2
    have f2' := hS.f2
    have c3' := hS.c3
    have f3' := hS.f3
    obtain ⟨m,hm⟩ : ∃ m : Nat,(9223372036854775808 : Int) - g = m := ⟨9223372036854775808 - g,by omega⟩
    obtain ⟨t,ht⟩ : ∃ t : Nat,(m : Int) / 1000000000 = t := ⟨m / 1000000000,by simp⟩
    have hmn : m + g = 9223372036854775808 := by omega
    have htn : m / 1000000000 = t := by omega
    have ht9 : t ≤ 9223372036 := by omega
    by_cases hle : hv ≤ t
    · have hv9 : hv ≤ 9223372036 := by omega
      have hs9 : hv * 1000000000 + g ≤ 9223372036854775808 := by omega
      have d1 : decide ((t : Int) < hv) = false := by simp;omega
      have d2 : decide (t < hv) = false := by simp;omega
      have HT := Lib.hid (show hv * BB + g ≤ top63 by rw [BB_eq,top63_eq];exact hs9)
      have e1 : IntKind.u64.wrap ((hv : Int) * 1000000000) = (hv : Int) * 1000000000 := wrap_u64I (by omega) (by omega)
      have e2 : IntKind.u64.wrap ((hv : Int) * 1000000000 + g) = (hv : Int) * 1000000000 + g := wrap_u64I (by omega) (by omega)
      have e3 : IntKind.u64.wrap (m : Int) = m := wrap_u64S (by omega)
      have e4 : IntKind.u64.wrap (t : Int) = t := wrap_u64S (by omega)
      clear hmn htn hs9 hT
      gi_wp2
      exact ⟨(KeepsOthers.setCell _ _ _).from _,KB.setCell (p := ⟨w1.heap.size,0,none⟩) (Nat.le_refl _) (by simp) _,⟨by rw [HS.out,BB_eq];simpa using hS.setN hz1 ((hv : Int) * 1000000000 + g),by rw [HS.out];exact HT.out⟩,hB.setCell (p := ⟨w1.heap.size,0,none⟩) (by simp;omega) _⟩
    · have d1 : decide ((t : Int) < hv) = true := by simp;omega
      have d2 : decide (t < hv) = true := by simp;omega
      have e3 : IntKind.u64.wrap (m : Int) = m := wrap_u64S (by omega)
      have e4 : IntKind.u64.wrap (t : Int) = t := wrap_u64S (by omega)
      have HT := Lib.hid (show top63 < hv * BB + g by rw [BB_eq,top63_eq];omega)
      clear hmn htn hT hle
      gi_wp2
      exact ⟨((KeepsOthers.setCell _ _ _).trans (KeepsOthers.setCell _ _ _)).from _,⟨rfl,⟨_,hS.setR hz1 0 false⟩,by rw [HS.out];exact HT.out⟩,(hB.setCell (p := ⟨w.heap.size + 1,0,none⟩) (by simp) _).setCell (p := ⟨w.heap.size + 1 + 1,0,none⟩) (by simp;omega) _⟩
  case done =>
    rintro D ys W hD ⟨hbk,hyl⟩ ⟨⟨hS,hT⟩,hB⟩ hK
    rw [hval_all hbk hyl] at hS hT
    obtain ⟨A,hA'⟩ : ∃ A,val l = A := ⟨_,rfl⟩
    rw [hA'] at hS hT HX
    have hxA := HX.out
    have q1' := hS.q
    have c1' := hS.n
    have f1' := hS.fn
    have c2' := hS.c2
    have f2' := hS.f2
    have c3' := hS.c3
    have f3' := hS.f3
    have hA0 : l = [] ↔ A = 0 := by
      rw [← hll,dig_eq_nil];omega
    have hT63 : A ≤ 9223372036854775808 := hT
    have hlz : l.length = 0 ↔ A = 0 := by rw [← hA0];exact List.length_eq_zero_iff
    by_cases hneg : x < 0
    · have hb : b = true := by rw [hbx (by omega)];simpa using hneg
      subst hb
      have hl0 : decide ((0 : Int) < l.length) = true := by simp;omega
      have hl0' : decide (0 < l.length) = true := by simp;omega
      have hw := wrap_neg63 (A := A) (by omega) hT63
      have HF : Hid (smallV x = -(A : Int) ∧ smallB x = true) := by
        unfold Hid smallV smallB
        rw [if_pos (by omega)]
        exact ⟨by omega,by simp;omega⟩
      have hpos : 0 < l.length := by simpa using hl0'
      clear hT hT63 hlz hA0 hxA hneg
      gi_wp2
      have hS2 := hS.setR hz1 (-(A : Int)) true
      have hK' := ((KeepsOthers.setCell W ⟨w.heap.size + 1,0,none⟩ (.int .i64 (-(A : Int)))).trans (KeepsOthers.setCell _ ⟨w.heap.size + 1 + 1,0,none⟩ (.bool true))).same D _ hK rfl
      refine ⟨by simp,.inl ⟨_,_,rfl,run_takeDeferred hK',?_⟩⟩
      have hS' := hS2.kept (grownBy_putObj' _ D (.deferred none)) (fun r e => by cases e;exact ⟨_,hK',rfl⟩)
      refine ⟨.tuple #[.int .i64 (-(A : Int)),.bool true],?_,by rw [HF.out.1,HF.out.2],((hB.setCell (p := ⟨w.heap.size + 1,0,none⟩) (by simp) _).setCell (p := ⟨w.heap.size + 1 + 1,0,none⟩) (by simp;omega) _).trans (belowK_b (w := w) (Nat.le_refl _) _ D _ _ (by simp at hD;omega) hK' rfl rfl)⟩
      simp [results,Tryz.results135,go_sem,hS'.c2,hS'.c3]
    · have hxe : x = (A : Int) := by omega
      by_cases ht : A = 9223372036854775808
      · have hb : b = false := by rw [hbx (by omega)];simpa using hneg
        subst hb
        have hl0 : decide ((0 : Int) < l.length) = true := by simp;omega
        have hl0' : decide (0 < l.length) = true := by simp;omega
        have hpos : 0 < l.length := by simpa using hl0'
        have hq : ((A : Int) == 9223372036854775808) = true := by simp;omega
        have HF : Hid (smallV x = 0 ∧ smallB x = false) := by
          unfold Hid smallV smallB
          rw [if_neg (by omega)]
          exact ⟨rfl,by simp;omega⟩
        have HT := Lib.hid ht
        clear hT hT63 hlz hA0 hxA hneg hxe ht
        gi_wp2
        have hS2 := hS.setR hz1 (0) false
        have hK' := ((KeepsOthers.setCell W ⟨w.heap.size + 1,0,none⟩ (.int .i64 (0))).trans (KeepsOthers.setCell _ ⟨w.heap.size + 1 + 1,0,none⟩ (.bool false))).same D _ hK rfl
        refine ⟨by simp,.inl ⟨_,_,rfl,run_takeDeferred hK',?_⟩⟩
        have hS' := hS2.kept (grownBy_putObj' _ D (.deferred none)) (fun r e => by cases e;exact ⟨_,hK',rfl⟩)
        refine ⟨.tuple #[.int .i64 (0),.bool false],?_,by rw [HF.out.1,HF.out.2],((hB.setCell (p := ⟨w.heap.size + 1,0,none⟩) (by simp) _).setCell (p := ⟨w.heap.size + 1 + 1,0,none⟩) (by simp;omega) _).trans (belowK_b (w := w) (Nat.le_refl _) _ D _ _ (by simp at hD;omega) hK' rfl rfl)⟩
        simp [results,Tryz.results135,go_sem,hS'.c2,hS'.c3]
      · have hq : ((A : Int) == 9223372036854775808) = false := by simp;omega
        have hw : IntKind.i64.wrap (A : Int) = A := wrap_i64S (by omega)
        have hA9 : A ≤ 9223372036854775807 := by omega
        have HF : Hid (smallV x = (A : Int) ∧ smallB x = true) := by
          unfold Hid smallV smallB
          rw [if_pos (by omega)]
          exact ⟨hxe,by simp;omega⟩
        by_cases hl : l = []
        · have hl0 : decide ((0 : Int) < l.length) = false := by rw [hl];rfl
          have hl0' : decide (0 < l.length) = false := by rw [hl];rfl
          have hl9 : ¬ 0 < l.length := by simpa using hl0'
          have HT := Lib.hid ht
          have HL := Lib.hid hl
          clear hT hT63 hlz hA0 hxA hneg hxe ht hl
          gi_wp2
          have hS2 := hS.setR hz1 (A : Int) true
          have hK' := ((KeepsOthers.setCell W ⟨w.heap.size + 1,0,none⟩ (.int .i64 (A : Int))).trans (KeepsOthers.setCell _ ⟨w.heap.size + 1 + 1,0,none⟩ (.bool true))).same D _ hK rfl
          refine ⟨by simp,.inl ⟨_,_,rfl,run_takeDeferred hK',?_⟩⟩
          have hS' := hS2.kept (grownBy_putObj' _ D (.deferred none)) (fun r e => by cases e;exact ⟨_,hK',rfl⟩)
          refine ⟨.tuple #[.int .i64 (A : Int),.bool true],?_,by rw [HF.out.1,HF.out.2],((hB.setCell (p := ⟨w.heap.size + 1,0,none⟩) (by simp) _).setCell (p := ⟨w.heap.size + 1 + 1,0,none⟩) (by simp;omega) _).trans (belowK_b (w := w) (Nat.le_refl _) _ D _ _ (by simp at hD;omega) hK' rfl rfl)⟩
          simp [results,Tryz.results135,go_sem,hS'.c2,hS'.c3]
        · have hl8 : 0 < l.length := List.length_pos_iff.2 hl
          have hb : b = false := by rw [hbx (by omega)];simpa using hneg
          subst hb
          have hl0 : decide ((0 : Int) < l.length) = true := by simp;omega
          have hl0' : decide (0 < l.length) = true := by simp;omega
          have HT := Lib.hid ht
          have HL := Lib.hid hl
          clear hT hT63 hlz hA0 hxA hneg hxe ht hl
          gi_wp2
          have hS2 := hS.setR hz1 (A : Int) true
          have hK' := ((KeepsOthers.setCell W ⟨w.heap.size + 1,0,none⟩ (.int .i64 (A : Int))).trans (KeepsOthers.setCell _ ⟨w.heap.size + 1 + 1,0,none⟩ (.bool true))).same D _ hK rfl
          refine ⟨by simp,.inl ⟨_,_,rfl,run_takeDeferred hK',?_⟩⟩
          have hS' := hS2.kept (grownBy_putObj' _ D (.deferred none)) (fun r e => by cases e;exact ⟨_,hK',rfl⟩)
          refine ⟨.tuple #[.int .i64 (A : Int),.bool true],?_,by rw [HF.out.1,HF.out.2],((hB.setCell (p := ⟨w.heap.size + 1,0,none⟩) (by simp) _).setCell (p := ⟨w.heap.size + 1 + 1,0,none⟩) (by simp;omega) _).trans (belowK_b (w := w) (Nat.le_refl _) _ D _ _ (by simp at hD;omega) hK' rfl rfl)⟩
          simp [results,Tryz.results135,go_sem,hS'.c2,hS'.c3]
  case stop =>
    rintro D cd pre W hD ⟨hbk,hpl⟩ ⟨⟨rfl,⟨v,hS⟩,hgt⟩,hB⟩ hK
    have hle := hval_le_all hlow hbk hpl
    have HF : Hid (smallV x = 0 ∧ smallB x = false) := by
      have h1 := HX.out
      rw [top63_eq] at hgt
      unfold Hid smallV smallB
      rw [if_neg (by omega)]
      exact ⟨rfl,by simp;omega⟩
    clear hle hgt
    gi_wp2
    refine ⟨by simp,.inl ⟨_,_,rfl,run_takeDeferred hK,?_⟩⟩
    have hS' := hS.kept (grownBy_putObj' _ D (.deferred none)) (fun r e => by cases e;exact ⟨_,hK,rfl⟩)
    refine ⟨.tuple #[.int .i64 0,.bool false],?_,by rw [HF.out.1,HF.out.2],hB.trans (belowK_b (w := w) (Nat.le_refl _) W D _ _ (by simp at hD;omega) hK rfl rfl)⟩
    simp [results,Tryz.results135,go_sem,hS'.c2,hS'.c3]
theorem small_long (x : Int) (b : Bool) (p : Option Addr) (n c : Nat) (w : World) (hv : Raw w (.agg #[.bool b,.slice p n c]) x) (hlen : 3 < (dig x.natAbs).length) :
    Calls Tryz.prog 135 #[.agg #[.bool b,.slice p n c]] w fun e W' => e = .returned (.tuple #[.int .i64 (smallV x),.bool (smallB x)]) ∧ Below w.heap.size w W' := by
  have hd3 : decide ((3 : Int) < (dig x.natAbs).length) = true := by simp;omega
  have hv1 := ((hv.alloc (.cells #[.bool b,.slice p n c] 28)).alloc (.cells #[.int .i64 0] 3)).alloc (.cells #[.bool false] 4)
  have q1 : Bx (((w.alloc (.cells #[.bool b,.slice p n c] 28)).alloc (.cells #[.int .i64 0] 3)).alloc (.cells #[.bool false] 4)) (w.heap.size + 1) [.int .i64 0] := by simpa using (Bx.new (w.alloc (.cells #[.bool b,.slice p n c] 28)) [.int .i64 0] 3).alloc (.cells #[.bool false] 4)
  have q2 : Bx (((w.alloc (.cells #[.bool b,.slice p n c] 28)).alloc (.cells #[.int .i64 0] 3)).alloc (.cells #[.bool false] 4)) (w.heap.size + 1 + 1) [.bool false] := by simpa using Bx.new ((w.alloc (.cells #[.bool b,.slice p n c] 28)).alloc (.cells #[.int .i64 0] 3)) [.bool false] 4
  have hB0 : Below w.heap.size w (((w.alloc (.cells #[.bool b,.slice p n c] 28)).alloc (.cells #[.int .i64 0] 3)).alloc (.cells #[.bool false] 4)) := (((Below.refl _ _).alloc (Nat.le_refl _) _).alloc (by simp) _).alloc (by simp;omega) _
  have HF : Hid (smallV x = 0 ∧ smallB x = false) := by
    have h1 := le_of_dig_length hlen
    rw [BB_eq] at h1
    unfold Hid smallV smallB
    rw [if_neg (by omega)]
    exact ⟨rfl,by simp;omega⟩
  go_enter Tryz.func135,Tryz.ntmps135
  go_wp2_with fail
  refine (groups_any _ x _ hv1).mono ?_
  rintro e w1 ⟨s1,rfl,hs1,hb1⟩
  obtain ⟨p1,c1,rfl,hl1,hm1⟩ := hs1.form
  have k1 := q1.to hb1
  have k2 := q2.to hb1
  have r0 := k1.c0
  have f0 := k1.f0
  have r1 := k2.c0
  have f1 := k2.f0
  have hBw1 := Below.tr hB0 hb1
  go_wp2_with fail
  exact bodyPost_ret (v := .tuple #[.int .i64 0,.bool false]) (by simp [results,Tryz.results135,go_sem,r0,r1]) rfl ⟨by rw [HF.out.1,HF.out.2],(hBw1.setCell (p := ⟨w.heap.size + 1,0,none⟩) (by simp) _).setCell (p := ⟨w.heap.size + 1 + 1,0,none⟩) (by simp;omega) _⟩
theorem small_any (v : Value) (x : Int) (w : World) (hv : Raw w v x) :
    Calls Tryz.prog 135 #[v] w fun e W' => e = .returned (.tuple #[.int .i64 (smallV x),.bool (smallB x)]) ∧ Below w.heap.size w W' := by
  obtain ⟨b,p,n,c,rfl⟩ := hv.form
  by_cases h : (dig x.natAbs).length ≤ 3
  · exact callsIn_wide.1 (small_in x b p n c w hv h (fun h => hv.sign h))
  · exact small_long x b p n c w hv (by omega)
end Go.Proofs.YtidfgdchcpmnfaaGreat
