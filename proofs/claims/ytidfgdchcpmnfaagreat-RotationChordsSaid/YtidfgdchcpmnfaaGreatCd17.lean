/-
  Lemmas for the theorem vchords_holds, part 17 of 33.
-/
import Derived.LoopN
import Derived.Test.YtidfgdchcpmnfaaGreatCd16
namespace Go.Proofs.YtidfgdchcpmnfaaGreat
open Go Go.RowKit
set_option linter.unusedSimpArgs false
set_option linter.unusedVariables false
set_option maxRecDepth 20000
def runRegion (B : Book) (ops : Array Oper) (draw : Bool) (G : Gam) (R : Rho) : Option (List Prop × Gam × Rho) :=
  if draw then (match simOps B ops ops.toList G R with
    | some (vc,ss,G',R') => if edgesDown .any ops && orderB ops (Region.before ops) ss && needB ops (Region.before ops) then some (vc,G',R') else none
    | none => none)
  else seqOps B ops ops.toList G R
def asg : Code → List Nat
  | .region _ ops _ => ops.toList.filterMap (·.dst)
  | .seq a b => asg a ++ asg b
  | .cond _ a b => asg a ++ asg b
  | .block _ c => asg c
  | .loop c => asg c
  | .scope c => asg c
  | .rangeFunc _ ps a b => ps.toList ++ asg a ++ asg b
  | _ => []
def cut (l : List Nat) (G : Gam) : Gam := G.filter fun p => !l.contains p.1
def Res.isNil : Res → Prop
  | .row _ _ xs 0 => xs = []
  | _ => False
def Res.isNil' : Res → Prop
  | .none => True
  | _ => False
def leK (R R' : Rho) : K → K → Prop
  | _,.any => True
  | .val t x,.val t' y => castD t t' x = some y
  | .nil,.nil => True
  | .nil,.own r 0 => (getR R r).isNil' ∧ (getR R' r).isNil
  | .nil,.val (.list t) ys => (ys : List t.den) = []
  | .ptr r o,.ptr r' o' => r = r' ∧ o = o' ∧ (getR R r).isBox ∧ (getR R' r).isBox
  | .own r v,.own r' v' => r = r' ∧ v' = 0 ∧ Res.isRow v (getR R r) ∧ Res.isRow 0 (getR R' r)
  | _,_ => False
def leP : List Part → List Part → Prop
  | [],[] => True
  | p :: ps,q :: qs => castD p.t q.t p.x = some q.x ∧ leP ps qs
  | _,_ => False
def leR : Res → Res → Prop
  | _,.none => True
  | .box ps,.box qs => leP ps qs
  | .row e t xs _,.row e' t' ys v => e = e' ∧ v = 0 ∧ castD (.list t) (.list t') xs = some ys
  | .fro t xs _,.fro t' ys v => v = 0 ∧ castD (.list t) (.list t') xs = some ys
  | .none,.row _ t ys v => (ys : List t.den) = [] ∧ v = 0 ∧ t.still = true
  | _,_ => False
def St (B : Book) (W : World) (base : Nat → Prop) (G : Gam) (R : Rho) (a : Act) (w : World) : Prop := ∃ E : Env,E.base = base ∧ Mem E (getR R) W w ∧ Fits E (getR R) w B.N a (getK G)
section
variable {B : Book} {W : World} {base : Nat → Prop}
theorem getK_cut {l : List Nat} : ∀ (G : Gam) (s : Nat),getK (cut l G) s = getK G s ∨ getK (cut l G) s = .any
  | [],s => .inl rfl
  | (q,k) :: G,s => by
    unfold cut
    rw [List.filter_cons]
    split
    · simp only [getK]
      split
      · exact .inl rfl
      · exact getK_cut G s
    · rename_i hq
      simp only [getK]
      split
      · rename_i e
        subst e
        right
        have hq : l.contains s = true := by simpa using hq
        have : ∀ (G : Gam),getK (G.filter fun p => !l.contains p.1) s = .any := by
          intro G
          induction G with
          | nil => rfl
          | cons p G ih =>
            rw [List.filter_cons]
            split
            · rename_i hp
              simp only [getK]
              split
              · rename_i e;rw [← e,hq] at hp;cases hp
              · exact ih
            · exact ih
        exact this G
      · exact getK_cut G s
theorem St.cut {l : List Nat} {G : Gam} {R : Rho} {a : Act} {w : World} (h : St B W base G R a w) : St B W base (cut l G) R a w := by
  obtain ⟨E,h0,h1,h2⟩ := h
  refine ⟨E,h0,h1,h2.size,h2.defers,fun s => ?_,fun s => ?_⟩
  · rcases getK_cut (l := l) G s with e | e
    · rw [e];exact h2.wf s
    · rw [e];trivial
  · rcases getK_cut (l := l) G s with e | e
    · rw [e];exact h2.holds s
    · rw [e];trivial
theorem getK_mem : ∀ (G : Gam) (s : Nat),getK G s = .any ∨ ∃ p ∈ G,p.1 = s
  | [],s => .inl rfl
  | (q,k) :: G,s => by
    simp only [getK]
    split
    · rename_i e;exact .inr ⟨_,List.mem_cons_self ..,e.symm⟩
    · rcases getK_mem G s with h | ⟨p,h1,h2⟩
      · exact .inl h
      · exact .inr ⟨p,List.mem_cons_of_mem _ h1,h2⟩
theorem getR_mem : ∀ (R : Rho) (s : Nat),getR R s = .none ∨ ∃ p ∈ R,p.1 = s
  | [],s => .inl rfl
  | (q,k) :: R,s => by
    simp only [getR]
    split
    · rename_i e;exact .inr ⟨_,List.mem_cons_self ..,e.symm⟩
    · rcases getR_mem R s with h | ⟨p,h1,h2⟩
      · exact .inl h
      · exact .inr ⟨p,List.mem_cons_of_mem _ h1,h2⟩
theorem leP_chunks {F : Nat → Prop} {w : World} : ∀ {ps qs : List Part} {cs : List Value},leP ps qs → chunks (PartOk F w) cs ps → chunks (PartOk F w) cs qs
  | [],[],_,_,h => h
  | p :: ps,q :: qs,cs,⟨h1,h2⟩,⟨c1,c2,k1,k2,k3⟩ => by
    refine ⟨c1,c2,k1,?_,leP_chunks h2 k3⟩
    obtain ⟨pt,px⟩ := p
    obtain ⟨qt,qx⟩ := q
    obtain ⟨e,h3⟩ := castD_eq h1
    simp only at e
    subst e
    have h3 : px = qx := h3
    subst h3
    exact k2
  | [],_ :: _,_,h,_ => h.elim
  | _ :: _,[],_,h,_ => h.elim
theorem ResOk.keep0 {E E' : Env} {Bs : Nat} {w : World} {r : Nat} {x : Res} (hF : ∀ b,fz w E b → fz w E' b) (hs : Stay (fz w E) w w) (h1 : E'.blk r = E.blk r) (h2 : (match x with | .row _ _ _ _ => True | .fro _ _ _ => True | _ => False) → E'.sl r = E.sl r) (h : ResOk E Bs w r x) : ResOk E' Bs w r x := by
  cases x with
  | none => exact h1.trans h
  | box ps =>
    obtain ⟨b,cs,e,k1,k2,k3,k4⟩ := h
    exact ⟨b,cs,e,h1.trans k1,k2,k3,chunks_mono (fun c p => PartOk.mono hF hs) _ _ k4⟩
  | row e t xs v =>
    have h2 := h2 trivial
    obtain ⟨k1,k2,cs,k3,k4,k5⟩ := h
    exact ⟨by rw [h1,h2];exact k1,k2,cs,by rw [h2];exact k3,chunks_mono (fun c y => rep_stay hF hs t c y) _ _ k4,by rw [h2];exact k5⟩
  | fro t xs v =>
    have h2 := h2 trivial
    exact ⟨h1.trans h.1,by rw [h2];exact vrep_stay hF hs h.2⟩
theorem le_ok {G G' : Gam} {R R' : Rho} {a : Act} {w : World} (h : St B W base G R a w) (hk : ∀ s,leK R R' (getK G s) (getK G' s) ∨ (getK G' s = getK G s ∧ ∀ r ∈ (getK G s).res,getR R' r = getR R r)) (hr : ∀ r,leR (getR R r) (getR R' r) ∨ getR R' r = getR R r) : St B W base G' R' a w := by
  obtain ⟨E,h0,h1,h2⟩ := h
  let E' : Env := ⟨fun r => if (getR R' r).isNone then none else E.blk r,fun r => if (getR R r).isNone then .slice none 0 0 else E.sl r,E.base⟩
  have hblk : ∀ r q,E'.blk r = some q → E.blk r = some q := fun r q e => by
    have e : (if (getR R' r).isNone then none else E.blk r) = some q := e
    split at e
    · cases e
    · exact e
  have hF : ∀ q,fz w E q → fz w E' q := fun q hq => ⟨hq.1,fun r e => hq.2 r (hblk r q e)⟩
  have hs := Stay.refl (fz w E) w
  have hres : ∀ r,ResOk E' W.heap.size w r (getR R' r) := fun r => by
    have k2 := h1.res r
    rcases hr r with k1 | keq
    case inr =>
      have hbl : E'.blk r = E.blk r := by
        show (if (getR R' r).isNone then none else E.blk r) = E.blk r
        rw [keq]
        split
        · rename_i hn
          have := Res.isNone_eq hn
          rw [this] at k2
          exact k2.symm
        · rfl
      rw [keq]
      cases hrn : getR R r with
      | none => rw [hrn] at k2;exact hbl.trans k2
      | box ps => rw [hrn] at k2;exact ResOk.keep0 hF hs hbl (fun hn => hn.elim) k2
      | row e9 t9 xs9 v9 => rw [hrn] at k2;exact ResOk.keep0 hF hs hbl (fun _ => by show (if (getR R r).isNone then _ else _) = _;rw [hrn];rfl) k2
      | fro t9 xs9 v9 => rw [hrn] at k2;exact ResOk.keep0 hF hs hbl (fun _ => by show (if (getR R r).isNone then _ else _) = _;rw [hrn];rfl) k2
    cases e' : getR R' r with
    | none => show (if (getR R' r).isNone then none else E.blk r) = none;rw [e'];rfl
    | box qs =>
      rw [e'] at k1
      cases e : getR R r with
      | none => rw [e] at k1;exact k1.elim
      | row _ _ _ _ => rw [e] at k1;exact k1.elim
      | fro _ _ _ => rw [e] at k1;exact k1.elim
      | box ps =>
        rw [e] at k1 k2
        obtain ⟨b,cs,el,j1,j2,j3,j4⟩ := k2
        exact ⟨b,cs,el,by show (if (getR R' r).isNone then none else E.blk r) = _;rw [e'];exact j1,j2,j3,leP_chunks k1 (chunks_mono (fun c p => PartOk.mono hF hs) _ _ j4)⟩
    | row el t ys v =>
      rw [e'] at k1
      cases e : getR R r with
      | box _ => rw [e] at k1;exact k1.elim
      | fro _ _ _ => rw [e] at k1;exact k1.elim
      | none =>
        rw [e] at k1 k2
        obtain ⟨j1,j2,j3⟩ := k1
        have hsl : E'.sl r = .slice none 0 0 := by show (if (getR R r).isNone then _ else _) = _;rw [e];rfl
        have hbl : E'.blk r = none := by show (if (getR R' r).isNone then none else E.blk r) = _;rw [e'];exact k2
        refine ⟨by rw [hbl,hsl];rfl,j3,[],?_,?_,?_⟩
        · rw [hsl,j1];exact World.ownsRow_nil w _ _ _
        · rw [j1];exact rfl
        · rw [hsl];intro g hg;cases hg
      | row el0 t0 xs v0 =>
        rw [e] at k1 k2
        obtain ⟨j1,j2,j3⟩ := k1
        subst j1
        obtain ⟨ee,j3⟩ := castD_eq j3
        simp only [Ty.list.injEq] at ee
        subst ee
        have j3 : xs = ys := j3
        subst j3
        obtain ⟨n1,n2,cs,n3,n4,n5⟩ := k2
        have hsl : E'.sl r = E.sl r := by show (if (getR R r).isNone then _ else _) = _;rw [e];rfl
        have hbl : E'.blk r = E.blk r := by show (if (getR R' r).isNone then none else E.blk r) = _;rw [e'];rfl
        exact ⟨by rw [hbl,hsl];exact n1,n2,cs,by rw [hsl];exact n3,chunks_mono (fun c y => rep_stay hF hs t0 c y) _ _ n4,by rw [hsl];exact n5⟩
    | fro t ys v =>
      rw [e'] at k1
      cases e : getR R r with
      | box _ => rw [e] at k1;exact k1.elim
      | none => rw [e] at k1;exact k1.elim
      | row _ _ _ _ => rw [e] at k1;exact k1.elim
      | fro t0 xs v0 =>
        rw [e] at k1 k2
        obtain ⟨j2,j3⟩ := k1
        obtain ⟨ee,j3⟩ := castD_eq j3
        simp only [Ty.list.injEq] at ee
        subst ee
        have j3 : xs = ys := j3
        subst j3
        have hsl : E'.sl r = E.sl r := by show (if (getR R r).isNone then _ else _) = _;rw [e];rfl
        have hbl : E'.blk r = E.blk r := by show (if (getR R' r).isNone then none else E.blk r) = _;rw [e'];rfl
        exact ⟨hbl.trans k2.1,by rw [hsl];exact vrep_stay hF hs k2.2⟩
  refine ⟨E',h0,⟨h1.below,hres,fun r r' q e1 e2 => h1.inj r r' q (hblk r q e1) (hblk r' q e2),h1.base⟩,h2.size,h2.defers,fun s => ?_,fun s => ?_⟩
  · rcases hk s with k1 | ⟨keq,kres⟩
    case inr =>
      rw [keq]
      have hw := h2.wf s
      revert hw kres
      generalize getK G s = k9
      intro kres hw
      induction k9 with
      | ptr r o => show (getR R' r).isBox;rw [kres r (by simp [K.res])];exact hw
      | own r v => show Res.hasVer v (getR R' r);rw [kres r (by simp [K.res])];exact hw
      | when b k ih => exact ih kres hw
      | _ => trivial
    cases e' : getK G' s with
    | ptr r o =>
      rw [e'] at k1
      cases e : getK G s <;> rw [e] at k1 <;> first | exact k1.elim | skip
      obtain ⟨rfl,rfl,j1,j2⟩ := k1
      exact j2
    | own r v =>
      rw [e'] at k1
      have : Res.isRow 0 (getR R' r) ∧ v = 0 := by
        cases v with
        | succ n =>
          cases e : getK G s <;> rw [e] at k1 <;> first | exact k1.elim | skip
          obtain ⟨_,j2,_⟩ := k1
          cases j2
        | zero =>
          cases e : getK G s <;> rw [e] at k1 <;> first | exact k1.elim | skip
          · refine ⟨?_,rfl⟩
            have k1 := k1.2
            cases e3 : getR R' r <;> rw [e3] at k1 <;> first | exact k1.elim | skip
            rename_i v
            cases v with
            | zero => rfl
            | succ n => exact k1.elim
          · obtain ⟨rfl,_,j1,j2⟩ := k1
            exact ⟨j2,rfl⟩
      obtain ⟨j1,rfl⟩ := this
      show Res.hasVer 0 (getR R' r)
      cases e3 : getR R' r <;> rw [e3] at j1 <;> first | exact j1.elim | exact Nat.zero_le _
    | when b k =>
      rw [e'] at k1
      cases e : getK G s <;> rw [e] at k1 <;> exact k1.elim
    | any => trivial
    | val _ _ => trivial
    | nil => trivial
    | tup _ _ => trivial
  · have k2 := h2.holds s
    rcases hk s with k1 | ⟨keq,kres⟩
    case inr =>
      rw [keq]
      have hw := h2.wf s
      revert k2 kres hw
      generalize getK G s = k9
      intro k2 kres hw
      revert k2
      induction k9 with
      | any => intro _;trivial
      | val t y => intro k2;exact vrep_stay hF hs k2
      | nil => intro k2;exact k2
      | tup ts y => intro ⟨vs,j1,j2⟩;exact ⟨vs,j1,tupRep_stay hF hs ts vs y j2⟩
      | when b k ih => intro k2 hb;exact ih kres hw (k2 hb)
      | ptr r o =>
        intro ⟨b,n1,n2⟩
        refine ⟨b,?_,n2⟩
        show (if (getR R' r).isNone then none else E.blk r) = _
        rw [kres r (by simp [K.res])]
        have hw : (getR R r).isBox := hw
        cases e3 : getR R r <;> rw [e3] at hw <;> first | exact hw.elim | exact n1
      | own r v =>
        intro k2 hrow
        rw [kres r (by simp [K.res])] at hrow
        have : E'.sl r = E.sl r := by
          show (if (getR R r).isNone then _ else _) = _
          have hw : Res.hasVer v (getR R r) := hw
          cases e3 : getR R r <;> rw [e3] at hw <;> first | exact hw.elim | rfl
        rw [this];exact k2 hrow
    cases e' : getK G' s with
    | any => trivial
    | val t y =>
      rw [e'] at k1
      cases e : getK G s <;> rw [e] at k1 k2 <;> first | exact k1.elim | skip
      · obtain ⟨rfl,rfl⟩ := castD_eq k1
        exact vrep_stay hF hs k2
      · cases t <;> first | exact k1.elim | skip
        have k1 : y = [] := k1
        subst k1
        exact ⟨[.slice none 0 0],k2,none,0,rfl,by simp,by omega,.inl rfl⟩
    | nil =>
      rw [e'] at k1
      cases e : getK G s <;> rw [e] at k1 k2 <;> first | exact k1.elim | exact k2
    | ptr r o =>
      rw [e'] at k1
      cases e : getK G s <;> rw [e] at k1 k2 <;> first | exact k1.elim | skip
      obtain ⟨rfl,rfl,j1,j2⟩ := k1
      obtain ⟨b,n1,n2⟩ := k2
      refine ⟨b,?_,n2⟩
      show (if (getR R' _).isNone then none else E.blk _) = _
      cases e3 : getR R' _ <;> rw [e3] at j2 <;> first | exact j2.elim | exact n1
    | own r v =>
      rw [e'] at k1
      cases v with
      | succ n =>
        cases e : getK G s <;> rw [e] at k1 <;> first | exact k1.elim | skip
        obtain ⟨_,j2,_⟩ := k1
        cases j2
      | zero =>
        cases e : getK G s <;> rw [e] at k1 k2 <;> first | exact k1.elim | skip
        · intro hrow
          have j1 : (getR R r).isNil' := k1.1
          have : E'.sl r = .slice none 0 0 := by
            show (if (getR R r).isNone then _ else _) = _
            cases e3 : getR R r <;> rw [e3] at j1 <;> first | exact j1.elim | rfl
          rw [this];exact k2
        · rename_i r9 v9
          obtain ⟨rfl,_,j1,j2⟩ := k1
          intro _
          have : E'.sl r9 = E.sl r9 := by
            show (if (getR R r9).isNone then _ else _) = _
            cases e3 : getR R r9 <;> rw [e3] at j1 <;> first | exact j1.elim | rfl
          rw [this];exact k2 j1
    | when b k =>
      rw [e'] at k1
      cases e : getK G s <;> rw [e] at k1 <;> exact k1.elim
    | tup ts x =>
      rw [e'] at k1
      cases e : getK G s <;> rw [e] at k1 <;> exact k1.elim
def Post (B : Book) (W : World) (base : Nat → Prop) (Q : Exit → Gam → Rho → Prop) (e : Exit) (a : Act) (w : World) : Prop := ∃ G R,Q e G R ∧ St B W base G R a w
theorem runRegion_ok (hB : B.Ok) (hm : B.P.follows .mixedOrders = true) {id : Nat} {ops : Array Oper} {draw : Bool} {G : Gam} {R : Rho} {vc : List Prop} {G' : Gam} {R' : Rho} {Q : Exit → Gam → Rho → Prop} {a : Act} {w : World}
    (h : runRegion B ops draw G R = some (vc,G',R')) (hv : allP vc) (hq : Q .normal G' R') (hs : St B W base G R a w) : (Code.region id ops draw).wp B.P (Post B W base Q) a w := by
  obtain ⟨E,h0,h1,h2⟩ := hs
  unfold runRegion at h
  cases draw with
  | true =>
    simp only [if_true] at h
    split at h <;> first | (cases h;done) | skip
    rename_i vc1 ss G1 R1 hsim
    split at h <;> first | (cases h;done) | skip
    rename_i hb
    simp only [Bool.and_eq_true] at hb
    simp only [Option.some.injEq,Prod.mk.injEq] at h
    obtain ⟨rfl,rfl,rfl⟩ := h
    exact anyOps_ok hB hm hsim hb.1.1 hb.1.2 hb.2 hv h1 h2 (fun E' a' w' m0 m1 m2 => ⟨_,_,hq,E',m0.trans h0,m1,m2⟩)
  | false =>
    simp only [Bool.false_eq_true,if_false] at h
    exact wp_region_list (seqOps_ok hB h hv h1 h2 (fun E' a' w' m0 m1 m2 => ⟨_,_,hq,E',m0.trans h0,m1,m2⟩))
theorem rounds_of {c : Code} {ι : Type} (I : ι → Act → World → Prop) (m : ι → Nat) {Q : Exit → Act → World → Prop} (h : ∀ i a w,I i a w → c.wp B.P (Exit.then (fun a' w' => ∃ i',m i' < m i ∧ I i' a' w') Q) a w) : ∀ n i a w,m i < n → I i a w → Code.rounds B.P c Q n a w
  | 0,i,a,w,hn,hi => by omega
  | n + 1,i,a,w,hn,hi => by
    rw [rounds_succ]
    refine wp_mono (h i a w hi) (fun e a' w' hq => ?_)
    cases e with
    | normal =>
      obtain ⟨i',h1,h2⟩ := hq
      exact rounds_of I m h n i' a' w' (by omega) h2
    | _ => exact hq
def leL (G : Gam) (R : Rho) (S : Gam) (Z : Rho) (l : List Nat) : List Prop :=
  S.map (fun p => leK R Z (getK G p.1) p.2) ++ (cut (S.map (·.1) ++ l) G).flatMap (fun p => if p.2.res.isEmpty then [] else [leK R Z p.2 p.2]) ++ Z.map (fun p => leR (getR R p.1) p.2)
theorem getK_app : ∀ (S G : Gam) (s : Nat),(∃ p ∈ S,p.1 = s ∧ getK (S ++ G) s = getK S s) ∨ ((∀ p ∈ S,p.1 ≠ s) ∧ getK (S ++ G) s = getK G s)
  | [],G,s => .inr ⟨fun p hp => (by cases hp),rfl⟩
  | (q,k) :: S,G,s => by
    simp only [List.cons_append,getK]
    by_cases e : s = q
    · left
      exact ⟨(q,k),List.mem_cons_self ..,e.symm,by rw [if_pos e,if_pos e]⟩
    · rw [if_neg e,if_neg e]
      rcases getK_app S G s with ⟨p,h1,h2,h3⟩ | ⟨h1,h2⟩
      · exact .inl ⟨p,List.mem_cons_of_mem _ h1,h2,h3⟩
      · refine .inr ⟨fun p hp => ?_,h2⟩
        rcases List.mem_cons.1 hp with rfl | hp
        · exact fun e' => e e'.symm
        · exact h1 p hp
theorem getK_first : ∀ {S : Gam} {s : Nat},(∃ p ∈ S,p.1 = s) → ∃ p ∈ S,p.1 = s ∧ getK S s = p.2
  | (q,k) :: S,s,⟨p,hp,he⟩ => by
    simp only [getK]
    by_cases e : s = q
    · exact ⟨(q,k),List.mem_cons_self ..,e.symm,by rw [if_pos e]⟩
    · rw [if_neg e]
      rcases List.mem_cons.1 hp with rfl | hp
      · exact absurd he.symm e
      · obtain ⟨p',h1,h2,h3⟩ := getK_first ⟨p,hp,he⟩
        exact ⟨p',List.mem_cons_of_mem _ h1,h2,h3⟩
  | [],s,⟨p,hp,_⟩ => by cases hp
theorem getR_first : ∀ {S : Rho} {s : Nat},(∃ p ∈ S,p.1 = s) → ∃ p ∈ S,p.1 = s ∧ getR S s = p.2
  | (q,k) :: S,s,⟨p,hp,he⟩ => by
    simp only [getR]
    by_cases e : s = q
    · exact ⟨(q,k),List.mem_cons_self ..,e.symm,by rw [if_pos e]⟩
    · rw [if_neg e]
      rcases List.mem_cons.1 hp with rfl | hp
      · exact absurd he.symm e
      · obtain ⟨p',h1,h2,h3⟩ := getR_first ⟨p,hp,he⟩
        exact ⟨p',List.mem_cons_of_mem _ h1,h2,h3⟩
  | [],s,⟨p,hp,_⟩ => by cases hp
theorem leL_ok {G : Gam} {R : Rho} {S : Gam} {Z : Rho} {l : List Nat} {a : Act} {w : World} (h : St B W base G R a w) (hl : allP (leL G R S Z l)) : St B W base (S ++ cut (S.map (·.1) ++ l) G) Z a w := by
  obtain ⟨h12,h3⟩ := allP_append.1 hl
  obtain ⟨h1,h2⟩ := allP_append.1 h12
  have hRr : ∀ r,leR (getR R r) (getR Z r) := fun r => by
    rcases getR_mem Z r with e | hm
    · rw [e];cases getR R r <;> trivial
    · obtain ⟨p',j1,rfl,j3⟩ := getR_first hm
      rw [j3]
      exact allP_mem h3 (List.mem_map.2 ⟨p',j1,rfl⟩)
  refine le_ok h (fun s => ?_) (fun r => .inl (hRr r))
  rcases getK_app S (cut (S.map (·.1) ++ l) G) s with ⟨p,k1,k2,k3⟩ | ⟨k1,k2⟩
  · left
    rw [k3]
    obtain ⟨p',j1,rfl,j3⟩ := getK_first ⟨p,k1,k2⟩
    rw [j3]
    exact allP_mem h1 (List.mem_map.2 ⟨p',j1,rfl⟩)
  · rw [k2]
    rcases getK_cut (l := S.map (·.1) ++ l) G s with e | e
    · rcases getK_mem (cut (S.map (·.1) ++ l) G) s with e2 | hm
      · left;rw [e2];cases getK G s <;> trivial
      · obtain ⟨p',j1,rfl,j3⟩ := getK_first hm
        by_cases hc : p'.2.res.isEmpty = true
        · right
          refine ⟨e,fun r hr => ?_⟩
          rw [← e,j3] at hr
          rw [List.isEmpty_iff.1 hc] at hr
          cases hr
        · left
          rw [e.symm.trans j3,j3]
          exact allP_mem h2 (List.mem_flatMap.2 ⟨p',j1,by rw [if_neg hc];exact List.mem_singleton.2 rfl⟩)
    · left;rw [e];cases getK G s <;> trivial
theorem St.congr {G G' : Gam} {R : Rho} {a : Act} {w : World} (h : St B W base G R a w) (hg : ∀ s,getK G' s = getK G s) : St B W base G' R a w := by
  obtain ⟨E,h0,h1,h2⟩ := h
  exact ⟨E,h0,h1,h2.size,h2.defers,fun s => by rw [hg];exact h2.wf s,fun s => by rw [hg];exact h2.holds s⟩
end
end Go.Proofs.YtidfgdchcpmnfaaGreat
namespace Go.Proofs.YtidfgdchcpmnfaaGreat
open Go Go.RowKit
set_option linter.unusedSimpArgs false
set_option linter.unusedVariables false
set_option maxRecDepth 20000
def thenQ (n : Gam → Rho → Prop) (Q : Exit → Gam → Rho → Prop) : Exit → Gam → Rho → Prop
  | .normal,G,R => n G R
  | e,G,R => Q e G R
def blockQ (id : Nat) (Q : Exit → Gam → Rho → Prop) : Exit → Gam → Rho → Prop
  | .exit i,G,R => if i = id then Q .normal G R else Q (.exit i) G R
  | e,G,R => Q e G R
inductive Ann : Type 1 where
  | inv (ι : Type) (S : ι → Gam) (Z : ι → Rho) (m : ι → Nat) (i0 : ι) (sub : ι → List Ann)
  | rounds (n : Nat) (l : List Nat) (sub : List Ann)
  | turns (n : Nat) (l k : List Nat) (sub : List Ann)
def nl : Code → Nat
  | .seq a b => nl a + nl b
  | .cond _ a b => nl a + nl b
  | .block _ c => nl c
  | .loop _ => 1
  | _ => 0
def vRounds (F : (Exit → Gam → Rho → Prop) → Gam → Rho → Prop) (l : List Nat) (Q : Exit → Gam → Rho → Prop) : Nat → Gam → Rho → Prop
  | 0,_,_ => False
  | n + 1,G,R => F (thenQ (fun G R => vRounds F l Q n (cut l G) R) Q) G R
def resetK : K → K
  | .own r _ => .own r 0
  | k => k
def resetR : Res → Res
  | .row e t xs _ => .row e t xs 0
  | .fro t xs _ => .fro t xs 0
  | x => x
def turnS (G : Gam) : List Nat → Gam
  | [] => []
  | s :: l => match (getK G s).res with
    | [] => turnS G l
    | _ => (s,resetK (getK G s)) :: turnS G l
def turnZ (R : Rho) : List Nat → Rho
  | [] => []
  | r :: k => (r,resetR (getR R r)) :: turnZ R k
def less (l k : List Nat) : List Nat := l.filter fun s => !k.contains s
def subB (S : Gam) (l : List Nat) : Bool := S.all fun p => l.contains p.1
def Res.isBoxB : Res → Bool
  | .box _ => true
  | _ => false
def rowVB (v : Nat) : Res → Bool
  | .row _ _ _ v' => v' == v
  | .fro _ _ v' => v' == v
  | _ => false
theorem Res.isBoxB_ok {x : Res} (h : x.isBoxB = true) : x.isBox := by cases x <;> simp_all [Res.isBoxB,Res.isBox]
theorem rowVB_ok {v : Nat} {x : Res} (h : rowVB v x = true) : Res.isRow v x := by cases x <;> simp_all [rowVB,Res.isRow]
def leKb (R R' : Rho) : K → K → Bool
  | _,.any => true
  | .nil,.nil => true
  | .ptr r o,.ptr r' o' => r == r' && o == o' && (getR R r).isBoxB && (getR R' r).isBoxB
  | .own r v,.own r' v' => r == r' && v' == 0 && rowVB v (getR R r) && rowVB 0 (getR R' r)
  | _,_ => false
theorem leKb_ok {R R' : Rho} : ∀ {k k' : K},leKb R R' k k' = true → leK R R' k k'
  | k,.any,_ => by cases k <;> trivial
  | .nil,.nil,_ => trivial
  | .ptr r o,.ptr r' o',h => by
    simp only [leKb,Bool.and_eq_true,beq_iff_eq] at h
    exact ⟨h.1.1.1,h.1.1.2,Res.isBoxB_ok h.1.2,Res.isBoxB_ok h.2⟩
  | .own r v,.own r' v',h => by
    simp only [leKb,Bool.and_eq_true,beq_iff_eq] at h
    obtain ⟨⟨⟨h1,h2⟩,h3⟩,h4⟩ := h
    subst h2
    simp only [leK]
    exact ⟨h1,trivial,rowVB_ok h3,rowVB_ok h4⟩
def eqC (t t' : Ty) (x : t.den) (y : t'.den) : List Prop := if h : t = t' then [h ▸ x = y] else [False]
theorem eqC_ok {t t' : Ty} {x : t.den} {y : t'.den} (h : allP (eqC t t' x y)) : castD t t' x = some y := by
  unfold eqC at h
  split at h
  · rename_i e
    subst e
    unfold castD
    rw [dif_pos rfl]
    exact congrArg some h.1
  · exact h.1.elim
def leKp (R R' : Rho) (k k' : K) : List Prop := if leKb R R' k k' then [] else match k,k' with
  | .val t x,.val t' y => eqC t t' x y
  | k,k' => [leK R R' k k']
theorem leKp_ok {R R' : Rho} {k k' : K} (h : allP (leKp R R' k k')) : leK R R' k k' := by
  unfold leKp at h
  split at h
  · rename_i e;exact leKb_ok e
  · split at h
    · exact eqC_ok h
    · exact h.1
def lePp : List Part → List Part → List Prop
  | [],[] => []
  | p :: ps,q :: qs => eqC p.t q.t p.x q.x ++ lePp ps qs
  | _,_ => [False]
theorem lePp_ok : ∀ {ps qs : List Part},allP (lePp ps qs) → leP ps qs
  | [],[],_ => trivial
  | p :: ps,q :: qs,h => ⟨eqC_ok (allP_append.1 h).1,lePp_ok (allP_append.1 h).2⟩
  | [],_ :: _,h => h.1.elim
  | _ :: _,[],h => h.1.elim
def leRp : Res → Res → List Prop
  | _,.none => []
  | .box ps,.box qs => lePp ps qs
  | .row e t xs _,.row e' t' ys v => if e = e' ∧ v = 0 then eqC (.list t) (.list t') xs ys else [False]
  | .fro t xs _,.fro t' ys v => if v = 0 then eqC (.list t) (.list t') xs ys else [False]
  | x,y => [leR x y]
theorem leRp_ok : ∀ {x y : Res},allP (leRp x y) → leR x y
  | x,.none,_ => by cases x <;> trivial
  | .box ps,.box qs,h => lePp_ok h
  | .row e t xs v,.row e' t' ys v',h => by
    simp only [leRp] at h
    split at h
    · rename_i hh;exact ⟨hh.1,hh.2,eqC_ok h⟩
    · exact h.1.elim
  | .fro t xs v,.fro t' ys v',h => by
    simp only [leRp] at h
    split at h
    · rename_i hh;exact ⟨hh,eqC_ok h⟩
    · exact h.1.elim
  | .none,.box _,h => h.1
  | .none,.row ..,h => h.1
  | .none,.fro ..,h => h.1
  | .box _,.row ..,h => h.1
  | .box _,.fro ..,h => h.1
  | .row ..,.box _,h => h.1
  | .row ..,.fro ..,h => h.1
  | .fro ..,.box _,h => h.1
  | .fro ..,.row ..,h => h.1
theorem allP_fm {α : Type} {f g : α → List Prop} (h : ∀ a,allP (f a) → allP (g a)) : ∀ {l : List α},allP (l.flatMap f) → allP (l.flatMap g)
  | [],_ => trivial
  | a :: l,h1 => by
    rw [List.flatMap_cons] at h1 ⊢
    exact allP_append.2 ⟨h a (allP_append.1 h1).1,allP_fm h (allP_append.1 h1).2⟩
theorem allP_fm1 {α : Type} {f : α → List Prop} {g : α → Prop} (h : ∀ a,allP (f a) → g a) : ∀ {l : List α},allP (l.flatMap f) → allP (l.map g)
  | [],_ => trivial
  | a :: l,h1 => by
    rw [List.flatMap_cons] at h1
    exact ⟨h a (allP_append.1 h1).1,allP_fm1 h (allP_append.1 h1).2⟩
def leLs (G : Gam) (R : Rho) (S : Gam) (Z : Rho) (l : List Nat) : List Prop :=
  S.flatMap (fun p => leKp R Z (getK G p.1) p.2) ++ (cut (S.map (·.1) ++ l) G).flatMap (fun p => if p.2.res.isEmpty then [] else leKp R Z p.2 p.2) ++ Z.flatMap (fun p => leRp (getR R p.1) p.2)
theorem leLs_ok {G : Gam} {R : Rho} {S : Gam} {Z : Rho} {l : List Nat} (h : allP (leLs G R S Z l)) : allP (leL G R S Z l) := by
  obtain ⟨h12,h3⟩ := allP_append.1 h
  obtain ⟨h1,h2⟩ := allP_append.1 h12
  refine allP_append.2 ⟨allP_append.2 ⟨allP_fm1 (fun p hp => leKp_ok hp) h1,allP_fm (fun p hp => ?_) h2⟩,allP_fm1 (fun p hp => leRp_ok hp) h3⟩
  by_cases e : p.2.res.isEmpty = true
  · rw [if_pos e];trivial
  · rw [if_neg e] at hp ⊢
    exact ⟨leKp_ok hp,trivial⟩
def vTurns (F : (Exit → Gam → Rho → Prop) → Gam → Rho → Prop) (L l k : List Nat) (Q : Exit → Gam → Rho → Prop) : Nat → Gam → Rho → Prop
  | 0,_,_ => False
  | n + 1,G,R => F (thenQ (fun G R => allP (leLs G R (turnS G l) (turnZ R k) (less L l)) ∧ subB (turnS G l) L = true ∧ vTurns F L l k Q n (turnS G l ++ cut ((turnS G l).map (·.1) ++ less L l) G) (turnZ R k)) Q) G R
def ifB (b : Bool) (p q : Prop) : Prop := match b with
  | true => p
  | false => q
theorem ifB_iff {b : Bool} {p q : Prop} : ifB b p q ↔ (b = true → p) ∧ (b = false → q) := by cases b <;> simp [ifB]
def vwp (B : Book) : Code → List Ann → (Exit → Gam → Rho → Prop) → Gam → Rho → Prop
  | .skip,_,Q,G,R => Q .normal G R
  | .label _,_,Q,G,R => Q .normal G R
  | .exit i,_,Q,G,R => Q (.exit i) G R
  | .ret,_,Q,G,R => Q .ret G R
  | .region _ ops draw,_,Q,G,R => match runRegion B ops draw G R with
    | some ([],G',R') => Q .normal G' R'
    | some (vc,G',R') => allP vc ∧ Q .normal G' R'
    | none => False
  | .seq a b,A,Q,G,R => vwp B a (A.take (nl a)) (thenQ (vwp B b (A.drop (nl a)) Q) Q) G R
  | .cond c t e,A,Q,G,R => match opK (getK G) c with
    | .val .bool b => ifB b (vwp B t (A.take (nl t)) Q G R) (vwp B e (A.drop (nl t)) Q G R)
    | _ => False
  | .block i c,A,Q,G,R => vwp B c A (blockQ i Q) G R
  | .loop c,A,Q,G,R => match A with
    | .inv ι S Z m i0 sub :: _ => allP (leLs G R (S i0) (Z i0) (asg c)) ∧
      ∀ i,subB (S i) (asg c) = true ∧ vwp B c (sub i) (thenQ (fun G' R' => ∃ i',m i' < m i ∧ allP (leLs G' R' (S i') (Z i') (asg c))) Q) (S i ++ cut ((S i).map (·.1) ++ asg c) G) (Z i)
    | .rounds n l sub :: _ => vRounds (vwp B c sub) (less (asg c) l) Q n G R
    | .turns n l k sub :: _ => vTurns (vwp B c sub) (asg c) l k Q n G R
    | [] => False
  | _,_,_,_,_ => False
section
variable {B : Book} {W : World} {base : Nat → Prop}
def Fr (l : List Nat) (G G' : Gam) : Prop := ∀ s,s ∉ l → getK G' s = getK G s
theorem Fr.trans {l m : List Nat} {G G' G'' : Gam} (h : Fr l G G') (k : Fr m G' G'') : Fr (l ++ m) G G'' := fun s hs => by
  simp only [List.mem_append,not_or] at hs
  exact (k s hs.2).trans (h s hs.1)
theorem seqOps_fr {ops : Array Oper} : ∀ {l : List Oper} {G : Gam} {R : Rho} {vc : List Prop} {G' : Gam} {R' : Rho},seqOps B ops l G R = some (vc,G',R') → Fr (l.filterMap (·.dst)) G G'
  | [],G,R,vc,G',R',h => by
    simp only [seqOps,Option.some.injEq,Prod.mk.injEq] at h
    obtain ⟨_,rfl,_⟩ := h
    exact fun s _ => rfl
  | o :: rest,G,R,vc,G',R',h => by
    simp only [seqOps] at h
    split at h <;> first | (cases h;done) | skip
    rename_i vc1 k l1 h1
    split at h <;> first | (cases h;done) | skip
    rename_i vc2 G2 R2 h2
    simp only [Option.some.injEq,Prod.mk.injEq] at h
    obtain ⟨_,rfl,_⟩ := h
    intro s hs
    have ih := seqOps_fr h2
    cases hd : o.dst with
    | none =>
      rw [List.filterMap_cons_none hd] at hs
      rw [ih s hs,getK_put,hd];rfl
    | some d =>
      rw [List.filterMap_cons_some hd] at hs
      simp only [List.mem_cons,not_or] at hs
      rw [ih s hs.2,getK_put,hd]
      exact setF_other _ _ hs.1
theorem simOps_fr {ops : Array Oper} : ∀ {l : List Oper} {G : Gam} {R : Rho} {vc : List Prop} {ss : List Sim} {G' : Gam} {R' : Rho},simOps B ops l G R = some (vc,ss,G',R') → Fr (l.filterMap (·.dst)) G G'
  | [],G,R,vc,ss,G',R',h => by
    simp only [simOps,Option.some.injEq,Prod.mk.injEq] at h
    obtain ⟨_,_,rfl,_⟩ := h
    exact fun s _ => rfl
  | o :: rest,G,R,vc,ss,G',R',h => by
    simp only [simOps] at h
    split at h <;> first | (cases h;done) | skip
    rename_i vc1 k l1 h1
    split at h <;> first | (cases h;done) | skip
    rename_i vc2 ss2 G2 R2 h2
    simp only [Option.some.injEq,Prod.mk.injEq] at h
    obtain ⟨_,_,rfl,_⟩ := h
    intro s hs
    have ih := simOps_fr h2
    cases hd : o.dst with
    | none =>
      rw [List.filterMap_cons_none hd] at hs
      rw [ih s hs,getK_put,hd];rfl
    | some d =>
      rw [List.filterMap_cons_some hd] at hs
      simp only [List.mem_cons,not_or] at hs
      rw [ih s hs.2,getK_put,hd]
      exact setF_other _ _ hs.1
theorem runRegion_fr {id : Nat} {ops : Array Oper} {draw : Bool} {G : Gam} {R : Rho} {vc : List Prop} {G' : Gam} {R' : Rho} (h : runRegion B ops draw G R = some (vc,G',R')) : Fr (asg (.region id ops draw)) G G' := by
  unfold runRegion at h
  cases draw with
  | true =>
    simp only [if_true] at h
    split at h <;> first | (cases h;done) | skip
    rename_i vc1 ss G1 R1 hsim
    split at h <;> first | (cases h;done) | skip
    simp only [Option.some.injEq,Prod.mk.injEq] at h
    obtain ⟨_,rfl,_⟩ := h
    exact simOps_fr hsim
  | false =>
    simp only [Bool.false_eq_true,if_false] at h
    exact seqOps_fr h
def PostF (B : Book) (W : World) (base : Nat → Prop) (Q : Exit → Gam → Rho → Prop) (l : List Nat) (G : Gam) (e : Exit) (a : Act) (w : World) : Prop := ∃ G' R,Q e G' R ∧ Fr l G G' ∧ St B W base G' R a w
theorem getK_cut_in {l : List Nat} {s : Nat} (h : s ∈ l) : ∀ (G : Gam),getK (cut l G) s = .any
  | [] => rfl
  | (q,k) :: G => by
    unfold cut
    rw [List.filter_cons]
    have ih := getK_cut_in h G
    unfold cut at ih
    split
    · rename_i hq
      simp only [getK]
      rw [if_neg]
      · exact ih
      · rintro rfl
        have : l.contains s = true := by simpa using h
        rw [this] at hq;cases hq
    · exact ih
theorem getK_cut_out {l : List Nat} {s : Nat} (h : s ∉ l) : ∀ (G : Gam),getK (cut l G) s = getK G s
  | [] => rfl
  | (q,k) :: G => by
    unfold cut
    rw [List.filter_cons]
    have ih := getK_cut_out h G
    unfold cut at ih
    split
    · simp only [getK]
      split
      · rfl
      · exact ih
    · rename_i hq
      simp only [getK]
      rw [if_neg]
      · exact ih
      · rintro rfl
        have : l.contains s = true := by simpa using hq
        exact h (by simpa using this)
theorem head_fr {S : Gam} {l : List Nat} {G : Gam} (h : subB S l = true) : Fr l G (S ++ cut (S.map (·.1) ++ l) G) := fun s hs => by
  rcases getK_app S (cut (S.map (·.1) ++ l) G) s with ⟨p,k1,rfl,k3⟩ | ⟨k1,k2⟩
  · exfalso
    have := List.all_eq_true.1 h p k1
    exact hs (by simpa using this)
  · rw [k2]
    refine getK_cut_out (fun hm => ?_) G
    rcases List.mem_append.1 hm with hm | hm
    · obtain ⟨p,hp,rfl⟩ := List.mem_map.1 hm
      exact k1 p hp rfl
    · exact hs hm
theorem turn_fr {S : Gam} {L l : List Nat} {G : Gam} (h : subB S L = true) (hl : ∀ s ∈ l,s ∈ L) : Fr L G (S ++ cut (S.map (·.1) ++ l) G) := fun s hs => by
  rcases getK_app S (cut (S.map (·.1) ++ l) G) s with ⟨p,k1,rfl,k3⟩ | ⟨k1,k2⟩
  · exfalso
    have := List.all_eq_true.1 h p k1
    exact hs (by simpa using this)
  · rw [k2]
    refine getK_cut_out (fun hm => ?_) G
    rcases List.mem_append.1 hm with hm | hm
    · obtain ⟨p,hp,rfl⟩ := List.mem_map.1 hm
      exact k1 p hp rfl
    · exact hs (hl s hm)
theorem head_same {S : Gam} {l : List Nat} {G G' : Gam} (h : Fr l G G') (s : Nat) : getK (S ++ cut (S.map (·.1) ++ l) G) s = getK (S ++ cut (S.map (·.1) ++ l) G') s := by
  have e : getK (cut (S.map (·.1) ++ l) G) s = getK (cut (S.map (·.1) ++ l) G') s := by
    by_cases hm : s ∈ S.map (·.1) ++ l
    · rw [getK_cut_in hm,getK_cut_in hm]
    · rw [getK_cut_out hm,getK_cut_out hm]
      exact (h s (fun h' => hm (List.mem_append_right _ h'))).symm
  have : ∀ (S : Gam) (X Y : Gam),getK X s = getK Y s → getK (S ++ X) s = getK (S ++ Y) s := by
    intro S
    induction S with
    | nil => intro X Y h;exact h
    | cons p S ih =>
      intro X Y h
      simp only [List.cons_append,getK]
      split
      · rfl
      · exact ih X Y h
  exact this S _ _ e
theorem vwp_ok (hB : B.Ok) (hm : B.P.follows .mixedOrders = true) : ∀ (c : Code) {A : List Ann} {Q : Exit → Gam → Rho → Prop} {G : Gam} {R : Rho} {a : Act} {w : World},vwp B c A Q G R → St B W base G R a w → c.wp B.P (PostF B W base Q (asg c) G) a w := by
  intro c
  induction c with
  | skip => intro A Q G R a w h hs;exact wp_skip ⟨G,R,h,fun s _ => rfl,hs⟩
  | label l => intro A Q G R a w h hs;exact wp_label ⟨G,R,h,fun s _ => rfl,hs⟩
  | exit i => intro A Q G R a w h hs;exact wp_exit ⟨G,R,h,fun s _ => rfl,hs⟩
  | ret => intro A Q G R a w h hs;exact wp_ret ⟨G,R,h,fun s _ => rfl,hs⟩
  | region id ops draw =>
    intro A Q G R a w h hs
    have key : ∀ (vc : List Prop) (G' : Gam) (R' : Rho),runRegion B ops draw G R = some (vc,G',R') → allP vc → Q .normal G' R' → (Code.region id ops draw).wp B.P (PostF B W base Q (asg (.region id ops draw)) G) a w := fun vc G' R' hr hv hq =>
      wp_mono (runRegion_ok (id := id) hB hm (Q := fun e G2 R2 => e = .normal ∧ G2 = G' ∧ R2 = R') hr hv ⟨rfl,rfl,rfl⟩ hs) (fun e a' w' hp => by
        obtain ⟨G2,R2,⟨rfl,rfl,rfl⟩,k2⟩ := hp
        exact ⟨_,_,hq,runRegion_fr (id := id) hr,k2⟩)
    simp only [vwp] at h
    split at h
    · rename_i G' R' hr;exact key [] G' R' hr trivial h
    · rename_i vc G' R' _ hr;exact key vc G' R' hr h.1 h.2
    · exact h.elim
  | seq x y ihx ihy =>
    intro A Q G R a w h hs
    refine wp_seq (wp_mono (ihx h hs) (fun e a' w' hq => ?_))
    obtain ⟨G',R',k1,k2,k3⟩ := hq
    have hfr : Fr (asg (.seq x y)) G G' := fun s hs' => k2 s (fun h' => hs' (List.mem_append_left _ h'))
    cases e with
    | normal =>
      refine wp_mono (ihy k1 k3) (fun e2 a2 w2 hq2 => ?_)
      obtain ⟨G2,R2,j1,j2,j3⟩ := hq2
      exact ⟨G2,R2,j1,k2.trans j2,j3⟩
    | _ => exact ⟨G',R',k1,hfr,k3⟩
  | cond c t e iht ihe =>
    intro A Q G R a w h hs
    simp only [vwp] at h
    split at h <;> first | exact h.elim | skip
    rename_i b hk
    have h := ifB_iff.1 h
    have hs2 := hs
    obtain ⟨E,h0,h1,h2⟩ := hs2
    have hv := (opK_fits h2).2 c
    rw [hk] at hv
    refine wp_cond_split (val_bool hv) (fun hb => wp_mono (iht (h.1 hb) hs) (fun e a' w' hq => ?_)) (fun hb => wp_mono (ihe (h.2 hb) hs) (fun e a' w' hq => ?_))
    all_goals
      obtain ⟨G',R',k1,k2,k3⟩ := hq
    · exact ⟨G',R',k1,fun s hs' => k2 s (fun h' => hs' (List.mem_append_left _ h')),k3⟩
    · exact ⟨G',R',k1,fun s hs' => k2 s (fun h' => hs' (List.mem_append_right _ h')),k3⟩
  | block id c ih =>
    intro A Q G R a w h hs
    refine wp_block (wp_mono (ih h hs) (fun e a' w' hq => ?_))
    obtain ⟨G',R',k1,k2,k3⟩ := hq
    cases e with
    | exit i =>
      simp only [blockQ] at k1
      simp only [Exit.inBlock]
      split
      · rename_i e;rw [if_pos e] at k1;exact ⟨G',R',k1,k2,k3⟩
      · rename_i e;rw [if_neg e] at k1;exact ⟨G',R',k1,k2,k3⟩
    | _ => exact ⟨G',R',k1,k2,k3⟩
  | loop c ih =>
    intro A Q G R a w h hs
    simp only [vwp] at h
    split at h
    · rename_i ι S Z m i0 sub rest
      obtain ⟨h1,h2⟩ := h
      refine wp_loop_rounds (m i0 + 1) (rounds_of (B := B) (fun i a w => St B W base (S i ++ cut ((S i).map (·.1) ++ asg c) G) (Z i) a w) m (fun i a' w' hi => ?_) (m i0 + 1) i0 a w (by omega) (leL_ok hs (leLs_ok h1)))
      obtain ⟨h3,h4⟩ := h2 i
      refine wp_mono (ih h4 hi) (fun e a2 w2 hq => ?_)
      obtain ⟨G',R',k1,k2,k3⟩ := hq
      have hfr : Fr (asg c) G G' := fun s hs' => (k2 s hs').trans (head_fr h3 s hs')
      cases e with
      | normal =>
        obtain ⟨i',k4,k5⟩ := k1
        exact ⟨i',k4,(leL_ok k3 (leLs_ok k5)).congr (fun s => head_same hfr s)⟩
      | _ => exact ⟨G',R',k1,hfr,k3⟩
    · rename_i n l sub rest
      refine wp_loop_rounds n ?_
      have key : ∀ n G1 R a w,Fr (asg c) G G1 → vRounds (vwp B c sub) (less (asg c) l) Q n G1 R → St B W base G1 R a w → Code.rounds B.P c (PostF B W base Q (asg (.loop c)) G) n a w := by
        intro n
        induction n with
        | zero => intro G1 R a w _ h _;exact h.elim
        | succ n ihn =>
          intro G1 R a w hf h hs
          rw [rounds_succ]
          refine wp_mono (ih h hs) (fun e a2 w2 hq => ?_)
          obtain ⟨G',R',k1,k2,k3⟩ := hq
          have hfr : Fr (asg c) G G' := fun s hs' => (k2 s hs').trans (hf s hs')
          cases e with
          | normal =>
            refine ihn _ _ _ _ (fun s hs' => ?_) k1 (k3.cut (l := less (asg c) l))
            have hns : s ∉ less (asg c) l := fun h' => hs' (List.mem_filter.1 h').1
            rw [getK_cut_out hns]
            exact hfr s hs'
          | _ => exact ⟨G',R',k1,hfr,k3⟩
      exact key n G R a w (fun s _ => rfl) h hs
    · rename_i n l k sub rest
      refine wp_loop_rounds n ?_
      have key : ∀ n G1 R a w,Fr (asg c) G G1 → vTurns (vwp B c sub) (asg c) l k Q n G1 R → St B W base G1 R a w → Code.rounds B.P c (PostF B W base Q (asg (.loop c)) G) n a w := by
        intro n
        induction n with
        | zero => intro G1 R a w _ h _;exact h.elim
        | succ n ihn =>
          intro G1 R a w hf h hs
          rw [rounds_succ]
          refine wp_mono (ih h hs) (fun e a2 w2 hq => ?_)
          obtain ⟨G',R',k1,k2,k3⟩ := hq
          have hfr : Fr (asg c) G G' := fun s hs' => (k2 s hs').trans (hf s hs')
          cases e with
          | normal =>
            obtain ⟨k4,k5,k6⟩ := k1
            refine ihn _ _ _ _ (fun s hs' => ?_) k6 (leL_ok k3 (leLs_ok k4))
            exact (turn_fr k5 (fun s h' => (List.mem_filter.1 h').1) s hs').trans (hfr s hs')
          | _ => exact ⟨G',R',k1,hfr,k3⟩
      exact key n G R a w (fun s _ => rfl) h hs
    · exact h.elim
  | scope c ih => intro A Q G R a w h hs;simp only [vwp] at h
  | goto l => intro A Q G R a w h hs;simp only [vwp] at h
  | rangeFunc f ps x y _ _ => intro A Q G R a w h hs;simp only [vwp] at h
  | refuse s => intro A Q G R a w h hs;simp only [vwp] at h
end
attribute [irreducible] vwp
end Go.Proofs.YtidfgdchcpmnfaaGreat
namespace Go.Proofs.YtidfgdchcpmnfaaGreat
open Go Go.RowKit
set_option linter.unusedSimpArgs false
set_option linter.unusedVariables false
set_option maxRecDepth 20000
def resVal (B : Book) (G : Nat → K) (ρ : Nat → Res) (t : Ty) : ResultVar → Option (Part × List (Nat × Res))
  | .tmp s => asTy ρ (some t) (G s)
  | .cell s ty => match G s with
    | .ptr r o => match ρ r with
      | .box ps => (loadP B.P B.T ty ps o).map fun p => (p,[])
      | _ => none
    | .val (.ref u) y => if fitsT B.P ty u then some (⟨u,y⟩,[]) else none
    | _ => none
def resP (B : Book) (G : Nat → K) : (Nat → Res) → (ts : List Ty) → List ResultVar → (nest ts).den → Prop
  | _,[],[],_ => True
  | ρ,t :: ts,r :: rs,y => match resVal B G ρ t r with
    | some (p,l) => match coeD p.t t with
      | some q => allP (q.c p.x) ∧ q.f p.x = y.1 ∧ resP B G (after ρ l) ts rs y.2
      | none => False
    | none => False
  | _,_,_,_ => False
def retQ (B : Book) (ts : List Ty) (rs : List ResultVar) (y : (nest ts).den) : Exit → Gam → Rho → Prop
  | .normal,G,R => resP B (getK G) (getR R) ts rs y
  | .ret,G,R => resP B (getK G) (getR R) ts rs y
  | _,_,_ => False
def argG : Nat → (ts : List Ty) → (nest ts).den → Gam
  | _,[],_ => []
  | i,t :: ts,x => (i,.val t x.1) :: argG (i + 1) ts x.2
section
variable {B : Book} {W : World}
def resOne (P : Program) (a : Act) : ResultVar → Sem Value
  | .tmp t => pure (a.tmps.getD t undef)
  | .cell s t => do loadVar t (← asAddr (a.tmps.getD s undef))
theorem mapM_run {P : Program} {w : World} {f : ResultVar → Sem Value} : ∀ {rs : List ResultVar} {vs : List Value},All2 (fun r v => (f r).run P w = .ok v w) rs vs → (rs.mapM f).run P w = .ok vs w
  | _,_,.nil => by simp
  | _,_,.cons h1 h2 => by
    rw [List.mapM_cons,Sem.run_bind,h1]
    simp only [Result.andThen_ok,Sem.run_bind,mapM_run h2]
    rfl
theorem results_run {P : Program} {fn : Func} {a : Act} {w : World} {vs : List Value} (h : All2 (fun r v => (resOne P a r).run P w = .ok v w) fn.results.toList vs) : (results fn a.tmps).run P w = .ok (if h : vs.toArray.size = 1 then vs.toArray[0] else .tuple vs.toArray) w := by
  have e : results fn a.tmps = (do let us ← fn.results.mapM (resOne P a);pure (if h : us.size = 1 then us[0] else .tuple us)) := by
    unfold results
    congr 2
  rw [e,Array.mapM_eq_mapM_toList]
  simp only [Sem.run_bind,map_eq_pure_bind,mapM_run h,Result.andThen_ok,Sem.run_pure]
theorem resVal_ok {G : Nat → K} {ρ : Nat → Res} {E : Env} {w : World} {a : Act} {t : Ty} {r : ResultVar} {p : Part} {l : List (Nat × Res)} (h : resVal B G ρ t r = some (p,l)) (hM : Mem E ρ W w) (hf : Fits E ρ w B.N a G) :
    ∃ v E',(resOne B.P a r).run B.P w = .ok v w ∧ Mem E' (after ρ l) W w ∧ Ext E ρ w E' (after ρ l) w ∧ vrep (fz w E') w p.t v p.x := by
  cases r with
  | tmp s =>
    obtain ⟨E',m1,m2,m3⟩ := asTy_ok h hM (hf.holds s)
    exact ⟨_,E',rfl,m1,m2,m3⟩
  | cell s ty =>
    simp only [resVal] at h
    have hs := hf.holds s
    have hs' : a.tmps.getD s undef = a.eval (.tmp s) := rfl
    split at h <;> first | (cases h;done) | skip
    · rename_i rr o hk
      rw [hk] at hs
      split at h <;> first | (cases h;done) | skip
      rename_i ps hr
      simp only [Option.map_eq_some_iff,Prod.mk.injEq] at h
      obtain ⟨p',h1,rfl,rfl⟩ := h
      obtain ⟨b,hb,hp⟩ := hs
      have hres := hM.res rr
      rw [hr] at hres
      obtain ⟨b',cs,e,k1,k2,k3,k4⟩ := hres
      rw [hb] at k1;cases k1
      obtain ⟨hft,c,hc,hrep⟩ := loadP_ok h1 k4
      have hrg : w.rangeAt b o c := fun j v hv => by
        rw [cell_of_row _ _ _ _ _ _ k3,← hv]
        simp only [List.getElem?_toArray]
        rw [← hc,List.getElem?_take,if_pos (by have := (List.getElem?_eq_some_iff.1 hv).1;exact this),List.getElem?_drop]
      refine ⟨p'.t.toV c,E,?_,hM,Ext.refl _ _ _,c,rfl,hrep⟩
      simp only [resOne,hs',hp,asAddr,Sem.run_bind,Sem.run_pure,Result.andThen_ok]
      exact run_loadVar_ty hft hrg hrep
    · rename_i u y hk
      rw [hk] at hs
      split at h <;> first | (cases h;done) | skip
      rename_i hft
      simp only [Option.some.injEq,Prod.mk.injEq] at h
      obtain ⟨rfl,rfl⟩ := h
      obtain ⟨b,o,ds,hp,k1,k2,k3⟩ := val_ref hs
      refine ⟨u.toV ds,E,?_,hM,Ext.refl _ _ _,ds,rfl,k3⟩
      simp only [resOne,hs',hp,asAddr,Sem.run_bind,Sem.run_pure,Result.andThen_ok]
      exact run_loadVar_ty hft k2 k3
theorem resP_ok {G : Nat → K} {w : World} {a : Act} : ∀ {ts : List Ty} {rs : List ResultVar} {y : (nest ts).den} {ρ : Nat → Res} {E : Env},resP B G ρ ts rs y → Mem E ρ W w → Fits E ρ w B.N a G →
    ∃ vs E',All2 (fun r v => (resOne B.P a r).run B.P w = .ok v w) rs vs ∧ E'.base = E.base ∧ tupRep (fz w E') w ts vs y ∧ ∀ q,fz w E q → fz w E' q
  | [],[],y,ρ,E,h,hM,hf => ⟨[],E,.nil,rfl,rfl,fun _ h => h⟩
  | t :: ts,r :: rs,y,ρ,E,h,hM,hf => by
    simp only [resP] at h
    split at h <;> first | exact h.elim | skip
    rename_i p l h1
    split at h <;> first | exact h.elim | skip
    rename_i q hq
    obtain ⟨hc,hy,h2⟩ := h
    obtain ⟨v,E1,k1,m1,m2,m3⟩ := resVal_ok h1 hM hf
    obtain ⟨vs,E2,j1,j2,j3,j4⟩ := resP_ok h2 m1 ⟨hf.size,hf.defers,fun s => m2.wf _ (hf.wf s),fun s => m2.holds _ _ (hf.wf s) (hf.holds s)⟩
    refine ⟨v :: vs,E2,.cons k1 j1,j2.trans m2.base,⟨v,vs,rfl,?_,j3⟩,fun q hq => j4 q (m2.fz q hq)⟩
    obtain ⟨cs,rfl,hr⟩ := vrep_stay j4 (Stay.refl _ _) m3
    refine ⟨cs,by unfold Ty.toV;rw [coeD_agg _ _ _ hq],?_⟩
    rw [← hy]
    exact coeD_ok _ _ _ hq cs _ hr hc
  | [],_ :: _,y,ρ,E,h,hM,hf => by simp [resP] at h
  | _ :: _,[],y,ρ,E,h,hM,hf => by simp [resP] at h
theorem tup_len {F : Nat → Prop} {w : World} : ∀ {ts : List Ty} {vs : List Value} {y : (nest ts).den},tupRep F w ts vs y → vs.length = ts.length
  | [],vs,y,h => by rw [show vs = [] from h];rfl
  | t :: ts,vs,y,⟨v,vs',h1,h2,h3⟩ => by rw [h1,List.length_cons,tup_len h3];rfl
theorem ret_of {F : Nat → Prop} {w : World} {ts : List Ty} {vs : List Value} {y : (nest ts).den} (h : tupRep F w ts vs y) : retRep F w ts (if h : vs.toArray.size = 1 then vs.toArray[0] else .tuple vs.toArray) y := by
  have hl := tup_len h
  match ts,y,h with
  | [t],y,⟨v,vs',h1,h2,h3⟩ =>
    have h3 : vs' = [] := h3
    subst h3
    subst h1
    exact h2
  | [],y,h =>
    have h : vs = [] := h
    subst h
    exact ⟨[],rfl,rfl⟩
  | t1 :: t2 :: ts,y,h =>
    refine ⟨vs,?_,h⟩
    rw [dif_neg (by simp [hl])]
theorem argG_get {F : Nat → Prop} {w : World} {E : Env} {ρ : Nat → Res} (hF : ∀ q,F q → fz w E q) : ∀ {ts : List Ty} {vs : List Value} {x : (nest ts).den} (i s : Nat),tupRep F w ts vs x → (getK (argG i ts x) s).wf ρ ∧ (i ≤ s → (getK (argG i ts x) s).holds E ρ w (vs.getD (s - i) undef)) ∧ (s < i → getK (argG i ts x) s = .any)
  | [],vs,x,i,s,h => ⟨trivial,fun _ => trivial,fun _ => rfl⟩
  | t :: ts,vs,x,i,s,⟨v,vs',h1,h2,h3⟩ => by
    obtain ⟨k1,k2,k3⟩ := argG_get hF (i + 1) s h3
    simp only [argG,getK]
    split
    · rename_i e
      subst e
      refine ⟨trivial,fun _ => ?_,fun h => by omega⟩
      rw [h1,Nat.sub_self]
      exact vrep_stay hF (Stay.refl _ _) h2
    · rename_i e
      refine ⟨k1,fun h => ?_,fun h => k3 (by omega)⟩
      have := k2 (by omega)
      rw [h1]
      have e2 : s - i = (s - (i + 1)) + 1 := by omega
      rw [e2,List.getD_cons_succ]
      exact this
theorem ctr_of (hB : B.Ok) (hm : B.P.follows .mixedOrders = true) {f : FuncId} {fn : Func} {code : Code} {c : Ctr} (hf : B.P.funcs[f]? = some fn) (hb : fn.body = some code) (hN : fn.ntmps = B.N) (hargs : c.args.length ≤ fn.ntmps) (A : (nest c.args).den → List Ann)
    (h : ∀ x,c.pre x → vwp B code (A x) (retQ B c.res fn.results.toList (c.fn x)) (argG 0 c.args x) []) : CtrOk B.P f c := by
  intro F w vs x hF hvs hpre
  have hl := tup_len hvs
  let E : Env := ⟨fun _ => none,fun _ => undef,fun q => F q ∨ w.heap.size ≤ q⟩
  have hFz : ∀ q,F q → fz w E q := fun q hq => ⟨⟨hF q hq,.inl hq⟩,fun r e => by cases e⟩
  have hM : Mem E (getR []) w w := ⟨Below.refl _ _,fun r => rfl,fun r r' b e => (by cases e),fun q hq => .inr hq⟩
  refine calls_of_wp hf hb (wp_mono (vwp_ok (W := w) (base := E.base) hB hm code (h x hpre) ⟨E,rfl,hM,?_⟩) (fun e a w' hq => ?_))
  · refine ⟨by simp [hN];omega,rfl,fun s => (argG_get hFz 0 s hvs).1,fun s => ?_⟩
    have h1 := (argG_get (ρ := getR []) hFz 0 s hvs).2.1 (Nat.zero_le _)
    rw [Nat.sub_zero] at h1
    by_cases hs : s < vs.length
    · have : (({ tmps := vs.toArray ++ Array.replicate (fn.ntmps - vs.toArray.size) undef,defers := [] } : Act).eval (.tmp s)) = vs.getD s undef := by
        simp [Act.eval,Array.getD_eq_getD_getElem?,Array.getElem?_append,hs]
      rw [this];exact h1
    · have hany : getK (argG 0 c.args x) s = .any := by
        have : ∀ (ts : List Ty) (x : (nest ts).den) (i : Nat),i + ts.length ≤ s → getK (argG i ts x) s = .any := by
          intro ts
          induction ts with
          | nil => intro x i _;rfl
          | cons t ts ih =>
            intro x i hi
            simp only [List.length_cons] at hi
            simp only [argG,getK]
            rw [if_neg (by omega)]
            exact ih x.2 (i + 1) (by omega)
        exact this c.args x 0 (by omega)
      rw [hany];trivial
  · obtain ⟨G',R',k1,_,E',k2,k3,k4⟩ := hq
    have fin : resP B (getK G') (getR R') c.res fn.results.toList (c.fn x) → a.defers = [] ∧ ∃ v,(results fn a.tmps).run B.P w' = .ok v w' ∧ ∃ v',Ending.returned v = .returned v' ∧ retRep (newF F w w') w' c.res v' (c.fn x) ∧ Below w.heap.size w w' := fun hr => by
      obtain ⟨us,E2,j1,j2,j3,_⟩ := resP_ok hr k3 k4
      refine ⟨k4.defers,_,results_run j1,_,rfl,ret_of (tupRep_stay (fun q hq => ⟨?_,hq.1.1⟩) (Stay.refl _ _) _ _ _ j3),k3.below⟩
      have := hq.1.2
      rw [j2,k2] at this
      exact this
    cases e with
    | normal => exact fin k1
    | ret => exact fin k1
    | exit i => exact k1.elim
    | goto l => exact k1.elim
    | panic ch => exact k1.elim
    | outgrown => exact k1.elim
end
end Go.Proofs.YtidfgdchcpmnfaaGreat
