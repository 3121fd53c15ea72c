/-
  Lemmas for the theorem vchords_holds, part 13 of 33.
-/
import Derived.Test.YtidfgdchcpmnfaaGreatCd09
import Derived.Test.YtidfgdchcpmnfaaGreatCd12
namespace Go.Proofs.YtidfgdchcpmnfaaGreat
open Go Go.RowKit
set_option linter.unusedSimpArgs false
set_option linter.unusedVariables false
def PartOk (F : Nat → Prop) (w : World) (c : List Value) (p : Part) : Prop := rep F w p.t c p.x ∧ p.t.still = true
def ResOk (E : Env) (B : Nat) (w : World) (r : Nat) : Res → Prop
  | .none => E.blk r = none
  | .box ps => ∃ b cs e,E.blk r = some b ∧ B ≤ b ∧ w.heap[b]? = some (.cells cs.toArray e (0,0)) ∧ chunks (PartOk (fz w E) w) cs ps
  | .row e t xs _ => E.blk r = (E.sl r).ownBlock ∧ t.still = true ∧ ∃ cs,w.ownsRow B e t.n (E.sl r) xs.length cs ∧ chunks (rep (fz w E) w t) cs xs ∧ CAv okCell w (E.sl r)
  | .fro t xs _ => E.blk r = none ∧ vrep (fz w E) w (.list t) (E.sl r) xs
structure Mem (E : Env) (ρ : Nat → Res) (W w : World) : Prop where
  below : Below W.heap.size W w
  res : ∀ r,ResOk E W.heap.size w r (ρ r)
  inj : ∀ r r' b,E.blk r = some b → E.blk r' = some b → r = r'
  base : ∀ q,W.heap.size ≤ q → E.base q
structure Goes (E : Env) (w w' : World) (r0 : Option Nat) : Prop where
  os : w'.os = w.os
  tape : w'.tape = w.tape
  output : w'.output = w.output
  size : w.heap.size ≤ w'.heap.size
  blk : ∀ b,b < w.heap.size → (∀ r,r0 = some r → E.blk r ≠ some b) → w'.heap[b]? = w.heap[b]?
  dig : ∀ b o n,w.cell? ⟨b,o,none⟩ = some (.int .u32 n) → w'.cell? ⟨b,o,none⟩ = some (.int .u32 n)
theorem Goes.below {E : Env} {w w' : World} (h : Below w.heap.size w w') : Goes E w w' none := ⟨h.os,h.tape,h.output,h.size,fun b hb _ => h.block b hb,fun b o n hc => (h.cell (p := ⟨b,o,none⟩) (cell_lt hc)).trans hc⟩
theorem Goes.stay {E : Env} {w w' : World} {r0 : Option Nat} (h : Goes E w w' r0) : Stay (fz w E) w w' := ⟨fun b hb => h.blk b hb.1.1 (fun r _ => hb.2 r),h.dig,h.size⟩
def setF {α : Type} (f : Nat → α) (r : Nat) (x : α) : Nat → α := fun q => if q = r then x else f q
theorem setF_same {α : Type} (f : Nat → α) (r : Nat) (x : α) : setF f r x r = x := if_pos rfl
theorem setF_other {α : Type} (f : Nat → α) {r q : Nat} (x : α) (h : q ≠ r) : setF f r x q = f q := if_neg h
def Env.put (E : Env) (r : Nat) (b : Option Nat) (s : Value) : Env := ⟨setF E.blk r b,setF E.sl r s,E.base⟩
theorem PartOk.mono {F F' : Nat → Prop} {w w' : World} (hF : ∀ b,F b → F' b) (hs : Stay F w w') {c : List Value} {p : Part} (h : PartOk F w c p) : PartOk F' w' c p := ⟨rep_stay hF hs _ _ _ h.1,h.2⟩
theorem ResOk.keep {E E' : Env} {B : Nat} {w w' : World} {r : Nat} {x : Res} (hF : ∀ b,fz w E b → fz w' E' b) (hs : Stay (fz w E) w w') (h1 : E'.blk r = E.blk r) (h2 : E'.sl r = E.sl r) (hb : ∀ b,E.blk r = some b → w'.heap[b]? = w.heap[b]?) (h : ResOk E B w r x) : ResOk E' B w' r x := by
  cases x with
  | none => exact h1.trans h
  | box ps =>
    obtain ⟨b,cs,e,k1,k2,k3,k4⟩ := h
    exact ⟨b,cs,e,h1.trans k1,k2,(hb b k1).trans k3,chunks_mono (fun c p => PartOk.mono hF hs) _ _ k4⟩
  | row e t xs v =>
    obtain ⟨k1,k2,cs,k3,k4,k5⟩ := h
    refine ⟨by rw [h1,h2];exact k1,k2,cs,?_,chunks_mono (fun c y => rep_stay hF hs t c y) _ _ k4,?_⟩
    · rw [h2]
      obtain ⟨j1,j2⟩ := k3
      refine ⟨j1,j2.imp id ?_⟩
      rintro ⟨g,cap,cur,e1,e2,e3,e4⟩
      exact ⟨g,cap,cur,e1,e2,(hb g (by rw [k1,e1];rfl)).trans e3,e4⟩
    · rw [h2]
      intro g hg i u hu
      rw [World.cell?_of_block (w := w) (hb g (by rw [k1,hg]))] at hu
      exact k5 g hg i u hu
  | fro t xs v =>
    obtain ⟨k1,k2⟩ := h
    exact ⟨h1.trans k1,by rw [h2];exact vrep_stay hF hs k2⟩
def K.wf (ρ : Nat → Res) : K → Prop
  | .ptr r _ => (ρ r).isBox
  | .own r v => Res.hasVer v (ρ r)
  | .when _ k => k.wf ρ
  | _ => True
structure Ext (E : Env) (ρ : Nat → Res) (w : World) (E' : Env) (ρ' : Nat → Res) (w' : World) : Prop where
  fz : ∀ b,fz w E b → Go.Proofs.YtidfgdchcpmnfaaGreat.fz w' E' b
  stay : Stay (Go.Proofs.YtidfgdchcpmnfaaGreat.fz w E) w w'
  ptr : ∀ r,(ρ r).isBox → (ρ' r).isBox ∧ E'.blk r = E.blk r
  ver : ∀ r v,Res.hasVer v (ρ r) → Res.hasVer v (ρ' r)
  own : ∀ r v,Res.hasVer v (ρ r) → Res.isRow v (ρ' r) → Res.isRow v (ρ r) ∧ E'.sl r = E.sl r
  base : E'.base = E.base
theorem Ext.wf {E E' : Env} {ρ ρ' : Nat → Res} {w w' : World} (h : Ext E ρ w E' ρ' w') : (k : K) → k.wf ρ → k.wf ρ'
  | .any,_ => trivial
  | .val _ _,_ => trivial
  | .nil,_ => trivial
  | .ptr r _,hk => (h.ptr r hk).1
  | .own r v,hk => h.ver r v hk
  | .when _ k,hk => h.wf k hk
  | .tup _ _,_ => trivial
theorem Ext.holds {E E' : Env} {ρ ρ' : Nat → Res} {w w' : World} (h : Ext E ρ w E' ρ' w') : (k : K) → (v : Value) → k.wf ρ → k.holds E ρ w v → k.holds E' ρ' w' v
  | .any,_,_,_ => trivial
  | .val _ _,_,_,hh => vrep_stay h.fz h.stay hh
  | .nil,_,_,hh => hh
  | .ptr r _,v,hk,⟨b,h3,h4⟩ => ⟨b,(h.ptr r hk).2.trans h3,h4⟩
  | .own r ver,v,hk,hh => fun hb => by
    obtain ⟨h1,h2⟩ := h.own r ver hk hb
    rw [h2];exact hh h1
  | .when _ k,v,hk,hh => fun hb => h.holds k v hk (hh hb)
  | .tup ts x,v,_,⟨vs,h1,h2⟩ => ⟨vs,h1,tupRep_stay h.fz h.stay ts vs x h2⟩
theorem Ext.refl (E : Env) (ρ : Nat → Res) (w : World) : Ext E ρ w E ρ w := ⟨fun _ h => h,Stay.refl _ _,fun _ h => ⟨h,rfl⟩,fun _ _ h => h,fun _ _ _ h => ⟨h,rfl⟩,rfl⟩
theorem Ext.trans {E E' E'' : Env} {ρ ρ' ρ'' : Nat → Res} {w w' w'' : World} (h : Ext E ρ w E' ρ' w') (k : Ext E' ρ' w' E'' ρ'' w'') : Ext E ρ w E'' ρ'' w'' :=
  ⟨fun b hb => k.fz b (h.fz b hb),h.stay.trans (k.stay.less h.fz),
   fun r hr => ⟨(k.ptr r (h.ptr r hr).1).1,(k.ptr r (h.ptr r hr).1).2.trans (h.ptr r hr).2⟩,
   fun r v hr => k.ver r v (h.ver r v hr),
   fun r v hr hb => by
    obtain ⟨h1,h2⟩ := k.own r v (h.ver r v hr) hb
    obtain ⟨h3,h4⟩ := h.own r v hr h1
    exact ⟨h3,h2.trans h4⟩,k.base.trans h.base⟩
theorem Mem.grows {E : Env} {ρ : Nat → Res} {W w w' : World} (h : Mem E ρ W w) (hb : Below w.heap.size w w') : Mem E ρ W w' ∧ Ext E ρ w E ρ w' := by
  have hF : ∀ b,fz w E b → fz w' E b := fun b hb' => ⟨⟨Nat.lt_of_lt_of_le hb'.1.1 hb.size,hb'.1.2⟩,hb'.2⟩
  have hs := (Goes.below (E := E) hb).stay
  have hlt : ∀ r b,E.blk r = some b → b < w.heap.size := fun r b hr => by
    have h1 := h.res r
    cases hx : ρ r with
    | none => rw [hx] at h1;rw [show E.blk r = none from h1] at hr;cases hr
    | box ps =>
      rw [hx] at h1
      obtain ⟨b',cs,e,k1,k2,k3,k4⟩ := h1
      rw [k1] at hr;cases hr
      exact (Array.getElem?_eq_some_iff.1 k3).1
    | row e t xs v =>
      rw [hx] at h1
      obtain ⟨k1,k2,cs,⟨j1,j2⟩,k4,k5⟩ := h1
      rw [k1] at hr
      rcases j2 with ⟨j2,_⟩ | ⟨g,cap,cur,e1,e2,e3,_⟩
      · rw [j2] at hr;cases hr
      · rw [e1] at hr;cases hr
        exact (Array.getElem?_eq_some_iff.1 e3).1
    | fro t xs v => rw [hx] at h1;rw [h1.1] at hr;cases hr
  exact ⟨⟨h.below.trans (hb.mono h.below.size),fun r => (h.res r).keep hF hs rfl rfl (fun b hb' => hb.block b (hlt r b hb')),h.inj,h.base⟩,
    ⟨hF,hs,fun _ h => ⟨h,rfl⟩,fun _ _ h => h,fun _ _ _ h => ⟨h,rfl⟩,rfl⟩⟩
theorem Mem.lt {E : Env} {ρ : Nat → Res} {W w : World} (h : Mem E ρ W w) {r b : Nat} (hr : E.blk r = some b) : b < w.heap.size ∧ W.heap.size ≤ b := by
  have h1 := h.res r
  cases hx : ρ r with
  | none => rw [hx] at h1;rw [show E.blk r = none from h1] at hr;cases hr
  | box ps =>
    rw [hx] at h1
    obtain ⟨b',cs,e,k1,k2,k3,k4⟩ := h1
    rw [k1] at hr;cases hr
    exact ⟨(Array.getElem?_eq_some_iff.1 k3).1,k2⟩
  | row e t xs v =>
    rw [hx] at h1
    obtain ⟨k1,k2,cs,⟨j1,j2⟩,k4,k5⟩ := h1
    rw [k1] at hr
    rcases j2 with ⟨j2,_⟩ | ⟨g,cap,cur,e1,e2,e3,_⟩
    · rw [j2] at hr;cases hr
    · rw [e1] at hr;cases hr
      exact ⟨(Array.getElem?_eq_some_iff.1 e3).1,e2⟩
  | fro t xs v => rw [hx] at h1;rw [h1.1] at hr;cases hr
theorem Mem.turn {E : Env} {ρ : Nat → Res} {W w w' : World} (h : Mem E ρ W w) (r : Nat) (hg : Goes E w w' (some r)) (b : Option Nat) (s : Value) (x : Res) (hx : ResOk (E.put r b s) W.heap.size w' r x)
    (hb : b = none ∨ b = E.blk r ∨ b = some w.heap.size)
    (hp : (ρ r).isBox → x.isBox ∧ b = E.blk r) (hv : ∀ v,Res.hasVer v (ρ r) → Res.hasVer v x) (ho : ∀ v,Res.hasVer v (ρ r) → Res.isRow v x → Res.isRow v (ρ r) ∧ s = E.sl r) :
    Mem (E.put r b s) (setF ρ r x) W w' ∧ Ext E ρ w (E.put r b s) (setF ρ r x) w' := by
  have hs := hg.stay
  have hF : ∀ q,fz w E q → fz w' (E.put r b s) q := fun q hq => ⟨⟨Nat.lt_of_lt_of_le hq.1.1 hg.size,hq.1.2⟩,fun r' => by
    by_cases e : r' = r
    · subst e
      show setF E.blk r' b r' ≠ _
      rw [setF_same]
      rcases hb with rfl | rfl | rfl
      · simp
      · exact hq.2 r'
      · have := hq.1.1;simp;omega
    · show setF E.blk r b r' ≠ _
      rw [setF_other _ _ e];exact hq.2 r'⟩
  refine ⟨⟨?_,fun r' => ?_,fun r1 r2 q h1 h2 => ?_,h.base⟩,⟨hF,hs,fun r' hr' => ?_,fun r' v hr' => ?_,fun r' v hr' hb' => ?_,rfl⟩⟩
  · refine h.below.trans ⟨hg.os,hg.tape,hg.output,hg.size,fun k hk => hg.blk k (Nat.lt_of_lt_of_le hk h.below.size) (fun r' _ e => ?_)⟩
    have := (h.lt e).2;omega
  · by_cases e : r' = r
    · subst e;rw [setF_same];exact hx
    · rw [setF_other _ _ e]
      refine (h.res r').keep hF hs (setF_other _ _ e) (setF_other _ _ e) (fun q hq => hg.blk q (h.lt hq).1 (fun r'' e' e2 => ?_))
      cases e'
      exact e (h.inj _ _ _ hq e2)
  · have key : ∀ r',r' ≠ r → setF E.blk r b r' = some q → setF E.blk r b r = some q → False := fun r' e k1 k2 => by
      rw [setF_other _ _ e] at k1
      rw [setF_same] at k2
      rcases hb with rfl | rfl | rfl
      · cases k2
      · exact e (h.inj _ _ _ k1 k2)
      · cases k2;have := (h.lt k1).1;omega
    by_cases e1 : r1 = r
    · by_cases e2 : r2 = r
      · rw [e1,e2]
      · subst e1;exact (key r2 e2 h2 h1).elim
    · by_cases e2 : r2 = r
      · subst e2;exact (key r1 e1 h1 h2).elim
      · exact h.inj r1 r2 q (by rw [← setF_other E.blk b e1];exact h1) (by rw [← setF_other E.blk b e2];exact h2)
  · by_cases e : r' = r
    · subst e
      obtain ⟨k1,k2⟩ := hp hr'
      exact ⟨by rw [setF_same];exact k1,by show setF E.blk r' b r' = _;rw [setF_same];exact k2⟩
    · exact ⟨by rw [setF_other _ _ e];exact hr',setF_other _ _ e⟩
  · by_cases e : r' = r
    · subst e;rw [setF_same];exact hv v hr'
    · rw [setF_other _ _ e];exact hr'
  · by_cases e : r' = r
    · subst e
      rw [setF_same] at hb'
      obtain ⟨k1,k2⟩ := ho v hr' hb'
      exact ⟨k1,by show setF E.sl r' s r' = _;rw [setF_same];exact k2⟩
    · rw [setF_other _ _ e] at hb'
      exact ⟨hb',setF_other _ _ e⟩
end Go.Proofs.YtidfgdchcpmnfaaGreat
namespace Go.Proofs.YtidfgdchcpmnfaaGreat
open Go Go.RowKit
set_option linter.unusedSimpArgs false
set_option linter.unusedVariables false
def flats {α : Type} (f : α → List Part) (d : α) (xs : List α) : Nat → Nat → List Part
  | 0,_ => []
  | n + 1,i => f (xs.getD i d) ++ flats f d xs n (i + 1)
def flat : (t : Ty) → t.den → List Part
  | .pair a b,x => flat a x.1 ++ flat b x.2
  | .arr n a,x => flats (α := a.den) (flat a) a.zero x n 0
  | .unit,_ => []
  | t,x => [⟨t,x⟩]
theorem chunks_app {α : Type} {R : List Value → α → Prop} : ∀ {xs ys : List α} {c d : List Value},chunks R c xs → chunks R d ys → chunks R (c ++ d) (xs ++ ys)
  | [],_,c,d,h,k => by rw [show c = [] from h];exact k
  | x :: xs,ys,_,d,⟨c1,c2,h1,h2,h3⟩,k => ⟨c1,c2 ++ d,by rw [h1,List.append_assoc],h2,chunks_app h3 k⟩
theorem chunks_split {α : Type} {R : List Value → α → Prop} : ∀ {xs ys : List α} {c : List Value},chunks R c (xs ++ ys) → ∃ c1 c2,c = c1 ++ c2 ∧ chunks R c1 xs ∧ chunks R c2 ys
  | [],_,c,h => ⟨[],c,rfl,rfl,h⟩
  | x :: xs,ys,_,⟨c1,c2,h1,h2,h3⟩ => by
    obtain ⟨d1,d2,rfl,k1,k2⟩ := chunks_split h3
    exact ⟨c1 ++ d1,d2,by rw [h1,List.append_assoc],⟨c1,d1,rfl,h2,k1⟩,k2⟩
theorem chunks_one {α : Type} {R : List Value → α → Prop} {x : α} {c : List Value} (h : R c x) : chunks R c [x] := ⟨c,[],by simp,h,rfl⟩
theorem flats_ok {α : Type} {R : List Value → α → Prop} {S : List Value → Part → Prop} {f : α → List Part} {d : α} (h : ∀ c x,R c x → chunks S c (f x)) : ∀ (ys zs : List α) (cs : List Value),chunks R cs zs → chunks S cs (flats f d (ys ++ zs) zs.length ys.length)
  | _,[],cs,hc => hc
  | ys,z :: zs,_,⟨c1,c2,h1,h2,h3⟩ => by
    rw [h1]
    simp only [List.length_cons,flats]
    have e : (ys ++ z :: zs).getD ys.length d = z := by simp [List.getD_eq_getElem?_getD]
    rw [e]
    have := flats_ok (d := d) h (ys ++ [z]) zs c2 h3
    rw [List.append_assoc,List.length_append] at this
    exact chunks_app (h _ _ h2) this
theorem flat_ok {F : Nat → Prop} {w : World} : (t : Ty) → (x : t.den) → (cs : List Value) → t.still = true → rep F w t cs x → chunks (PartOk F w) cs (flat t x)
  | .pair a b,x,cs,hs,⟨c1,c2,h1,h2,h3⟩ => by
    simp only [Ty.still,Bool.and_eq_true] at hs
    rw [h1]
    exact chunks_app (flat_ok a x.1 c1 hs.1 h2) (flat_ok b x.2 c2 hs.2 h3)
  | .unit,x,cs,hs,h => h
  | .bool,x,cs,hs,h => chunks_one ⟨h,hs⟩
  | .int _,x,cs,hs,h => chunks_one ⟨h,hs⟩
  | .lf _,x,cs,hs,h => chunks_one ⟨h,hs⟩
  | .list _,x,cs,hs,h => chunks_one ⟨h,hs⟩
  | .arr n a,x,cs,hs,h => by
    obtain ⟨h1,h2⟩ := h
    have := flats_ok (d := a.zero) (f := flat a) (fun c y hy => flat_ok a y c (by simpa [Ty.still] using hs) hy) [] x cs h2
    rw [h1] at this
    exact this
  | .ref _,x,cs,hs,h => chunks_one ⟨h,hs⟩
  | .clo _ _,x,cs,hs,h => chunks_one ⟨h,hs⟩
def Ty.zc : Ty → Option (List Value)
  | .bool => some [.bool false]
  | .int k => some [.int k 0]
  | .lf .rat => none
  | .lf .big => some [.bool false,.slice none 0 0]
  | .lf .rrat => some [.bool false,.slice none 0 0,.bool false,.slice none 0 0]
  | .lf .rbig => some [.bool false,.slice none 0 0]
  | .lf .str => some [.string ByteArray.empty]
  | .list _ => some [.slice none 0 0]
  | .arr n t => t.zc.map fun c => (List.replicate n c).flatten
  | .pair a b => match a.zc,b.zc with
    | some c,some d => some (c ++ d)
    | _,_ => none
  | .unit => some []
  | _ => none
theorem raw_zero (w : World) : RawV w (.agg #[.bool false,.slice none 0 0]) true 0 := ⟨false,.slice none 0 0,[],rfl,Rd.nil w,by simp,by decide +kernel,by decide +kernel⟩
theorem zc_rep {F : Nat → Prop} {w : World} : (t : Ty) → (c : List Value) → t.zc = some c → rep F w t c t.zero
  | .bool,c,h => by simp only [Ty.zc,Option.some.injEq] at h;rw [← h];rfl
  | .int k,c,h => by simp only [Ty.zc,Option.some.injEq] at h;rw [← h];rfl
  | .lf .big,c,h => by
    simp only [Ty.zc,Option.some.injEq] at h;rw [← h]
    exact (raw_zero w).int
  | .lf .rrat,c,h => by
    simp only [Ty.zc,Option.some.injEq] at h;rw [← h]
    refine ⟨false,none,0,false,none,0,rfl,?_⟩
    have h0 := raw_zero w
    exact ⟨_,_,_,_,true,true,0,0,rfl,h0,h0,rfl,rfl⟩
  | .lf .rbig,c,h => by
    simp only [Ty.zc,Option.some.injEq] at h;rw [← h]
    exact ⟨false,none,0,rfl,raw_zero w⟩
  | .lf .str,c,h => by simp only [Ty.zc,Option.some.injEq] at h;rw [← h];rfl
  | .list t,c,h => by
    simp only [Ty.zc,Option.some.injEq] at h;rw [← h]
    exact ⟨none,0,rfl,by simp [Ty.zero],by omega,.inl rfl⟩
  | .arr n t,c,h => by
    simp only [Ty.zc,Option.map_eq_some_iff] at h
    obtain ⟨d,h1,rfl⟩ := h
    refine ⟨by simp [Ty.zero],?_⟩
    have hd := zc_rep (F := F) (w := w) t d h1
    show chunks _ _ (List.replicate n t.zero)
    clear h1
    induction n with
    | zero => exact rfl
    | succ n ih => exact ⟨d,_,by rw [List.replicate_succ,List.flatten_cons],hd,ih⟩
  | .pair a b,c,h => by
    simp only [Ty.zc] at h
    split at h <;> first | (cases h;done) | skip
    rename_i c1 c2 h1 h2
    simp only [Option.some.injEq] at h
    exact ⟨c1,c2,h.symm,zc_rep a c1 h1,zc_rep b c2 h2⟩
  | .unit,c,h => by simp only [Ty.zc,Option.some.injEq] at h;rw [← h];rfl
  | .lf .rat,c,h => by simp [Ty.zc] at h
  | .ref _,c,h => by simp [Ty.zc] at h
  | .clo _ _,c,h => by simp [Ty.zc] at h
def veq : Value → Value → Bool
  | .bool a,.bool b => a == b
  | .int k a,.int k' b => k == k' && a == b
  | .slice none 0 0,.slice none 0 0 => true
  | .string a,.string b => a.data.isEmpty && b.data.isEmpty
  | _,_ => false
theorem veq_eq {a b : Value} (h : veq a b = true) : a = b := by
  unfold veq at h
  split at h <;> simp_all
  rename_i a b
  obtain ⟨h1,h2⟩ := h
  cases a;cases b
  simp_all
def veqs : List Value → List Value → Bool
  | [],[] => true
  | a :: l,b :: m => veq a b && veqs l m
  | _,_ => false
theorem veqs_eq : ∀ {a b : List Value},veqs a b = true → a = b
  | [],[],_ => rfl
  | a :: l,b :: m,h => by
    simp only [veqs,Bool.and_eq_true] at h
    rw [veq_eq h.1,veqs_eq h.2]
  | [],_ :: _,h => by simp [veqs] at h
  | _ :: _,[],h => by simp [veqs] at h
def zeroB (P : Program) (t : TypeId) (ty : Ty) : Bool := match P.info? t,ty.zc with
  | some i,some c => match i.zero with
    | some z => veqs z.cells.toList c && i.size == ty.n
    | none => false
  | _,_ => false
theorem zeroB_spec {P : Program} {t : TypeId} {ty : Ty} (h : zeroB P t ty = true) : ∃ i z c,P.info? t = some i ∧ i.zero = some z ∧ ty.zc = some c ∧ z.cells.toList = c ∧ i.size = ty.n := by
  unfold zeroB at h
  split at h <;> first | (cases h;done) | skip
  rename_i i c h1 h2
  split at h <;> first | (cases h;done) | skip
  rename_i z h3
  simp only [Bool.and_eq_true,beq_iff_eq] at h
  exact ⟨i,z,c,h1,h3,h2,veqs_eq h.1,h.2⟩
theorem toV_cells {F : Nat → Prop} {w : World} : (t : Ty) → (cs : List Value) → (x : t.den) → rep F w t cs x → (t.toV cs).cells = cs.toArray
  | .bool,_,_,h => by rw [show _ = _ from h];rfl
  | .int _,_,_,h => by rw [show _ = _ from h];rfl
  | .lf .rat,_,_,h => rfl
  | .lf .big,_,_,h => rfl
  | .lf .rrat,_,_,h => rfl
  | .lf .rbig,_,_,h => rfl
  | .lf .str,_,_,h => by rw [show _ = _ from h];rfl
  | .list t,_,x,⟨p,c,h1,_⟩ => by rw [h1];rfl
  | .arr n t,_,_,_ => rfl
  | .pair a b,_,_,_ => rfl
  | .unit,_,_,h => rfl
  | .ref t,_,_,⟨b,o,ds,h1,_⟩ => by rw [h1];rfl
  | .clo _ t,_,_,⟨ds,h1,_⟩ => by rw [h1];rfl
def dropP : List Part → Nat → Option (List Part × List Part)
  | ps,0 => some ([],ps)
  | [],_ + 1 => none
  | p :: ps,o + 1 => if p.t.n ≤ o + 1 then (dropP ps (o + 1 - p.t.n)).map fun q => (p :: q.1,q.2) else none
def packs (g : List Part → Option (Part × List Part)) (t : Ty) : Nat → List Part → Option (List t.den × List Part)
  | 0,ps => some ([],ps)
  | n + 1,ps => match g ps with
    | some (p,qs) => match castD p.t t p.x,packs g t n qs with
      | some x,some (xs,rs) => some (x :: xs,rs)
      | _,_ => none
    | none => none
def pack : Ty → List Part → Option (Part × List Part)
  | .pair a b,ps => match pack a ps with
    | some (p,qs) => (pack b qs).map fun r => (⟨.pair p.t r.1.t,(p.x,r.1.x)⟩,r.2)
    | none => none
  | .arr n a,ps => match pack a ps with
    | some (p,_) => (packs (pack a) p.t n ps).map fun r => (⟨.arr n p.t,r.1⟩,r.2)
    | none => none
  | .unit,ps => some (⟨.unit,()⟩,ps)
  | _,p :: ps => some (p,ps)
  | _,[] => none
theorem PartOk.len {F : Nat → Prop} {w : World} {c : List Value} {p : Part} (h : PartOk F w c p) : c.length = p.t.n := rep_len _ _ _ h.1
def sizeP (ps : List Part) : Nat := (ps.map (·.t.n)).sum
theorem chunks_size {F : Nat → Prop} {w : World} : ∀ {ps : List Part} {c : List Value},chunks (PartOk F w) c ps → c.length = sizeP ps
  | [],c,h => by rw [show c = [] from h];rfl
  | p :: ps,_,⟨c1,c2,h1,h2,h3⟩ => by rw [h1,List.length_append,h2.len,chunks_size h3];simp [sizeP]
theorem dropP_spec : ∀ (ps : List Part) (o : Nat) (a b : List Part),dropP ps o = some (a,b) → ps = a ++ b ∧ sizeP a = o
  | ps,0,a,b,h => by
    simp only [dropP,Option.some.injEq,Prod.mk.injEq] at h
    obtain ⟨rfl,rfl⟩ := h
    exact ⟨rfl,rfl⟩
  | [],_ + 1,a,b,h => by simp [dropP] at h
  | p :: ps,o + 1,a,b,h => by
    simp only [dropP] at h
    split at h <;> first | (cases h;done) | skip
    rename_i hle
    simp only [Option.map_eq_some_iff,Prod.mk.injEq] at h
    obtain ⟨⟨a',b'⟩,h1,rfl,rfl⟩ := h
    obtain ⟨h2,h3⟩ := dropP_spec ps _ a' b' h1
    exact ⟨by rw [h2];rfl,by simp only [sizeP,List.map_cons,List.sum_cons] at *;omega⟩
theorem packs_spec {S : List Value → Part → Prop} {R : (t : Ty) → List Value → t.den → Prop} {g : List Part → Option (Part × List Part)} (hS : ∀ c p,S c p → R p.t c p.x) (hg : ∀ ps p qs c,g ps = some (p,qs) → chunks S c ps → chunks S c (p :: qs)) (t : Ty) : ∀ (n : Nat) (ps : List Part) (xs : List t.den) (rs : List Part) (c : List Value),packs g t n ps = some (xs,rs) → chunks S c ps → ∃ c1 c2,c = c1 ++ c2 ∧ xs.length = n ∧ chunks (R t) c1 xs ∧ chunks S c2 rs
  | 0,ps,xs,rs,c,h,hc => by
    simp only [packs,Option.some.injEq,Prod.mk.injEq] at h
    obtain ⟨rfl,rfl⟩ := h
    exact ⟨[],c,rfl,rfl,rfl,hc⟩
  | n + 1,ps,xs,rs,c,h,hc => by
    simp only [packs] at h
    split at h <;> first | (cases h;done) | skip
    rename_i p qs hgp
    split at h <;> first | (cases h;done) | skip
    rename_i x xs' rs' hx hr
    simp only [Option.some.injEq,Prod.mk.injEq] at h
    obtain ⟨rfl,rfl⟩ := h
    obtain ⟨c1,c2,rfl,k1,k2⟩ := hg _ _ _ _ hgp hc
    obtain ⟨c3,c4,rfl,k3,k4,k5⟩ := packs_spec hS hg t n qs _ _ c2 hr k2
    refine ⟨c1 ++ c3,c4,by rw [List.append_assoc],by simp [k3],⟨c1,c3,rfl,?_,k4⟩,k5⟩
    obtain ⟨e,hx⟩ := castD_eq hx
    obtain ⟨pt,px⟩ := p
    dsimp only at e hx
    subst e
    have := hS _ _ k1
    rw [← hx];exact this
theorem pack_spec {F : Nat → Prop} {w : World} : (t : Ty) → (ps : List Part) → (p : Part) → (qs : List Part) → (c : List Value) → pack t ps = some (p,qs) → chunks (PartOk F w) c ps → ∃ c1 c2,c = c1 ++ c2 ∧ PartOk F w c1 p ∧ chunks (PartOk F w) c2 qs
  | .pair a b,ps,p,qs,c,h,hc => by
    simp only [pack] at h
    split at h <;> first | (cases h;done) | skip
    rename_i p1 q1 h1
    simp only [Option.map_eq_some_iff,Prod.mk.injEq] at h
    obtain ⟨⟨p2,q2⟩,h2,rfl,rfl⟩ := h
    obtain ⟨c1,c2,rfl,k1,k2⟩ := pack_spec a ps p1 q1 c h1 hc
    obtain ⟨c3,c4,rfl,k3,k4⟩ := pack_spec b q1 p2 q2 c2 h2 k2
    exact ⟨c1 ++ c3,c4,by rw [List.append_assoc],⟨⟨c1,c3,rfl,k1.1,k3.1⟩,by simp [Ty.still,k1.2,k3.2]⟩,k4⟩
  | .unit,ps,p,qs,c,h,hc => by
    simp only [pack,Option.some.injEq,Prod.mk.injEq] at h
    obtain ⟨rfl,rfl⟩ := h
    exact ⟨[],c,rfl,⟨rfl,rfl⟩,hc⟩
  | .bool,[],p,qs,c,h,hc => by simp [pack] at h
  | .int _,[],p,qs,c,h,hc => by simp [pack] at h
  | .lf _,[],p,qs,c,h,hc => by simp [pack] at h
  | .list _,[],p,qs,c,h,hc => by simp [pack] at h
  | .arr n a,ps,p,qs,c,h,hc => by
    simp only [pack] at h
    split at h <;> first | (cases h;done) | skip
    rename_i p1 q1 h1
    simp only [Option.map_eq_some_iff,Prod.mk.injEq] at h
    obtain ⟨⟨xs,rs⟩,h2,rfl,rfl⟩ := h
    obtain ⟨c0,c9,_,k0,_⟩ := pack_spec a ps p1 q1 c h1 hc
    obtain ⟨c1,c2,e,k1,k2,k3⟩ := packs_spec (S := PartOk F w) (R := rep F w) (fun c p h => h.1) (fun ps p qs c h hc => pack_spec a ps p qs c h hc) p1.t n ps xs rs c h2 hc
    exact ⟨c1,c2,e,⟨⟨k1,k2⟩,by have := k0.2;simpa [Ty.still] using this⟩,k3⟩
  | .ref _,[],p,qs,c,h,hc => by simp [pack] at h
  | .clo _ _,[],p,qs,c,h,hc => by simp [pack] at h
  | .bool,p' :: ps,p,qs,c,h,hc => by simp only [pack,Option.some.injEq,Prod.mk.injEq] at h;obtain ⟨rfl,rfl⟩ := h;exact hc
  | .int _,p' :: ps,p,qs,c,h,hc => by simp only [pack,Option.some.injEq,Prod.mk.injEq] at h;obtain ⟨rfl,rfl⟩ := h;exact hc
  | .lf _,p' :: ps,p,qs,c,h,hc => by simp only [pack,Option.some.injEq,Prod.mk.injEq] at h;obtain ⟨rfl,rfl⟩ := h;exact hc
  | .list _,p' :: ps,p,qs,c,h,hc => by simp only [pack,Option.some.injEq,Prod.mk.injEq] at h;obtain ⟨rfl,rfl⟩ := h;exact hc
  | .ref _,p' :: ps,p,qs,c,h,hc => by simp only [pack,Option.some.injEq,Prod.mk.injEq] at h;obtain ⟨rfl,rfl⟩ := h;exact hc
  | .clo _ _,p' :: ps,p,qs,c,h,hc => by simp only [pack,Option.some.injEq,Prod.mk.injEq] at h;obtain ⟨rfl,rfl⟩ := h;exact hc
end Go.Proofs.YtidfgdchcpmnfaaGreat
namespace Go.Proofs.YtidfgdchcpmnfaaGreat
open Go Go.RowKit
set_option linter.unusedSimpArgs false
set_option linter.unusedVariables false
structure Told where
  ty : TypeId → Option Ty
  el : TypeId → Option Ty
  wr : Nat → Bool
abbrev MK := Option (List Prop × K × List (Nat × Res))
def after (ρ : Nat → Res) : List (Nat × Res) → Nat → Res
  | [] => ρ
  | (r,x) :: l => after (setF ρ r x) l
def Res.isNone : Res → Bool
  | .none => true
  | _ => false
def newBox (T : Told) (r : Nat) (t : Ty) (x : t.den) : MK :=
  if T.wr r then (if t.still then some ([],.ptr r 0,[(r,.box (flat t x))]) else none) else some ([],.val (.ref t) x,[])
def fieldOff (P : Program) (s : TypeId) (i : Nat) : Option Nat := match P.underlying s with
  | some (.struct fs) => match fs[i]? with
    | some f => match P.info? f.type with
      | some j => if j.size = 0 then none else some f.offset
      | none => none
    | none => none
  | _ => none
def elemOff (P : Program) (s : TypeId) (i : Int) : Option Nat := match P.underlying s with
  | some (.array n e) => match P.info? e,i with
    | some j,.ofNat k => if k < n then some (k * j.size) else none
    | _,_ => none
  | _ => none
def asVal (ρ : Nat → Res) : K → Option (Part × List (Nat × Res))
  | .val t x => some (⟨t,x⟩,[])
  | .own r v => match ρ r with
    | .row _ t xs v' => if v = v' then some (⟨.list t,xs⟩,[(r,.fro t xs v)]) else none
    | .fro t xs v' => if v = v' then some (⟨.list t,xs⟩,[]) else none
    | _ => none
  | _ => none
def asTy (ρ : Nat → Res) (t : Option Ty) : K → Option (Part × List (Nat × Res))
  | .nil => match t with
    | some (.list t) => some (⟨.list t,[]⟩,[])
    | _ => none
  | k => asVal ρ k
def loadP0 (P : Program) (T : Told) (t : TypeId) (ps : List Part) (o : Nat) : Option Part := match dropP ps o with
  | some (_,p :: qs) => if fitsT P t p.t then some p else (match T.ty t with
    | some ty => match pack ty (p :: qs) with
      | some (q,_) => if fitsT P t q.t then some q else none
      | none => none
    | none => none)
  | _ => none
def subP (P : Program) (t : TypeId) : List Part → Nat → Option Part
  | [],_ => none
  | p :: ps,o => if p.t.n ≤ o then subP P t ps (o - p.t.n) else match fieldOf p.t p.x (if o = 0 then 0 else 1) with
    | some (o',q) => if o' = o ∧ fitsT P t q.t = true then some q else none
    | none => none
def loadP (P : Program) (T : Told) (t : TypeId) (ps : List Part) (o : Nat) : Option Part := match loadP0 P T t ps o with
  | some p => some p
  | none => subP P t ps o
def storeP (P : Program) (t : TypeId) (ps : List Part) (o : Nat) (p : Part) : Option (List Part) := match dropP ps o with
  | some (a,b) => match dropP b p.t.n with
    | some (_,c) => if fitsT P t p.t && p.t.still then some (a ++ flat p.t p.x ++ c) else none
    | none => none
  | none => none
def boxOp (P : Program) (T : Told) (ρ : Nat → Res) (k : Operand → K) (d : Option Nat) : Op → MK
  | .alloc t => match d,T.ty t with
    | some r,some ty => if (ρ r).isNone && zeroB P t ty then newBox T r ty ty.zero else none
    | _,_ => none
  | .box t x => match d,asTy ρ (T.ty t) (k x) with
    | some r,some (p,l) => if (ρ r).isNone && l.isEmpty then newBox T r p.t p.x else none
    | _,_ => none
  | .load t x => match k x with
    | .ptr r o => match ρ r with
      | .box ps => (loadP P T t ps o).map fun p => ([],.val p.t p.x,[])
      | _ => none
    | _ => none
  | .store t x y => match k x,asTy ρ (T.ty t) (k y) with
    | .ptr r o,some (p,l) => match ρ r with
      | .box ps => match storeP P t ps o p with
        | some qs => some ([],.any,l ++ [(r,.box qs)])
        | none => none
      | _ => none
    | _,_ => none
  | .fieldAddr s x i => match k x with
    | .ptr r o => match ρ r with
      | .box _ => (fieldOff P s i).map fun q => ([],.ptr r (o + q),[])
      | _ => none
    | _ => none
  | .indexAddr s x i => match k x,k i with
    | .ptr r o,.val (.int _) n => match ρ r with
      | .box _ => (elemOff P s n).map fun q => ([],.ptr r (o + q),[])
      | _ => none
    | _,_ => none
  | _ => none
def DoesOk (P : Program) (E : Env) (ρ : Nat → Res) (W w : World) (o : Oper) (ev : Operand → Value) (k : K) (l : List (Nat × Res)) : Prop :=
  ∃ nx v w' E',(execOp ev o).run P w = .ok nx w' ∧ (nx = .value v ∨ nx = .skip ∧ v = undef) ∧ Mem E' (after ρ l) W w' ∧ Ext E ρ w E' (after ρ l) w' ∧ k.wf (after ρ l) ∧ k.holds E' (after ρ l) w' v
section
variable {P : Program} {E : Env} {ρ : Nat → Res} {W w : World}
theorem DoesOk.of {s : Sem Value} {o : Oper} {ev : Operand → Value} {kk : K} {l : List (Nat × Res)} (he : execOp ev o = (do pure (.value (← s)))) (h : ∃ v w' E',s.run P w = .ok v w' ∧ Mem E' (after ρ l) W w' ∧ Ext E ρ w E' (after ρ l) w' ∧ kk.wf (after ρ l) ∧ kk.holds E' (after ρ l) w' v) : DoesOk P E ρ W w o ev kk l := by
  obtain ⟨v,w',E',h1,h2⟩ := h
  exact ⟨.value v,v,w',E',by rw [he,Sem.run_bind,h1];simp,.inl rfl,h2⟩
theorem Res.isNone_eq {x : Res} (h : x.isNone = true) : x = .none := by cases x <;> simp_all [Res.isNone]
theorem newBox_ok (T : Told) {r : Nat} {ty : Ty} {x : ty.den} {cs : List Value} (hM : Mem E ρ W w) (hn : (ρ r).isNone = true) (hr : rep (fz w E) w ty cs x) (t : TypeId) {vc : List Prop} {kk : K} {l : List (Nat × Res)} (h : newBox T r ty x = some (vc,kk,l)) :
    ∃ E',Mem E' (after ρ l) W (w.alloc (.cells cs.toArray t)) ∧ Ext E ρ w E' (after ρ l) (w.alloc (.cells cs.toArray t)) ∧ kk.wf (after ρ l) ∧ kk.holds E' (after ρ l) (w.alloc (.cells cs.toArray t)) (.pointer (some ⟨w.heap.size,0,none⟩)) := by
  have hb : Below w.heap.size w (w.alloc (.cells cs.toArray t)) := (Below.refl _ _).alloc (Nat.le_refl _) _
  have hc : (w.alloc (.cells cs.toArray t)).heap[w.heap.size]? = some (.cells cs.toArray t (0,0)) := heap_alloc_new w _
  have hrn : (w.alloc (.cells cs.toArray t)).rangeAt w.heap.size 0 cs := fun j v hv => by
    rw [cell_of_row _ _ _ _ _ _ hc];simpa using hv
  unfold newBox at h
  split at h
  · split at h <;> first | (cases h;done) | skip
    rename_i hs
    simp only [Option.some.injEq,Prod.mk.injEq] at h
    obtain ⟨_,rfl,rfl⟩ := h
    have hρ := Res.isNone_eq hn
    obtain ⟨h1,h2⟩ := hM.turn (w' := w.alloc (.cells cs.toArray t)) r ⟨hb.os,hb.tape,hb.output,hb.size,fun b hlt _ => hb.block b hlt,(Goes.below (E := E) hb).dig⟩ (some w.heap.size) undef (.box (flat ty x))
      ⟨w.heap.size,cs,t,by show setF E.blk r _ r = _;rw [setF_same],hM.below.size,hc,flat_ok ty x cs hs (rep_stay (fun q hq => ⟨⟨Nat.lt_of_lt_of_le hq.1.1 hb.size,hq.1.2⟩,fun r' => by
        show setF E.blk r (some w.heap.size) r' ≠ _
        by_cases e : r' = r
        · subst e;rw [setF_same];have := hq.1.1;simp;omega
        · rw [setF_other _ _ e];exact hq.2 r'⟩) (Goes.below (E := E) hb).stay ty _ _ hr)⟩ (.inr (.inr rfl)) (fun h => by rw [hρ] at h;exact h.elim) (fun v h => by rw [hρ] at h;exact h.elim) (fun v h => by rw [hρ] at h;exact h.elim)
    refine ⟨_,h1,h2,?_,⟨w.heap.size,?_,rfl⟩⟩
    · show Res.isBox (setF ρ r _ r);rw [setF_same];trivial
    · show setF E.blk r _ r = _;rw [setF_same]
  · simp only [Option.some.injEq,Prod.mk.injEq] at h
    obtain ⟨_,rfl,rfl⟩ := h
    obtain ⟨h1,h2⟩ := hM.grows hb
    refine ⟨E,h1,h2,trivial,ref_val (ρ := ρ) ⟨⟨by simp,hM.base _ hM.below.size⟩,fun r' e => ?_⟩ hrn (rep_stay h2.fz h2.stay ty _ _ hr)⟩
    have := (hM.lt e).1;omega
theorem asVal_nil {k : K} {p : Part} {l : List (Nat × Res)} {v : Value} (h : asVal ρ k = some (p,l)) (hM : Mem E ρ W w) (hk : k.holds E ρ w v) :
    ∃ E',Mem E' (after ρ l) W w ∧ Ext E ρ w E' (after ρ l) w ∧ vrep (fz w E') w p.t v p.x := by
  cases k <;> try (simp [asVal] at h;done)
  case val t x =>
    simp only [asVal,Option.some.injEq,Prod.mk.injEq] at h
    obtain ⟨rfl,rfl⟩ := h
    exact ⟨E,hM,Ext.refl _ _ _,hk⟩
  case own r ver =>
    simp only [asVal] at h
    split at h <;> first | (cases h;done) | skip
    · rename_i e t xs v' hr
      split at h <;> first | (cases h;done) | skip
      rename_i hv
      subst hv
      simp only [Option.some.injEq,Prod.mk.injEq] at h
      obtain ⟨rfl,rfl⟩ := h
      have hv : v = E.sl r := hk (by rw [hr];rfl)
      have h1 := hM.res r
      rw [hr] at h1
      obtain ⟨k1,k2,cs,k3,k4,k5⟩ := h1
      have hF : ∀ q,fz w E q → fz w (E.put r none (E.sl r)) q := fun q hq => ⟨hq.1,fun r' => by
        show setF E.blk r none r' ≠ _
        by_cases e : r' = r
        · subst e;rw [setF_same];simp
        · rw [setF_other _ _ e];exact hq.2 r'⟩
      have hvr : vrep (fz w (E.put r none (E.sl r))) w (.list t) (E.sl r) xs := by
        obtain ⟨j1,j2⟩ := k3
        rcases j2 with ⟨j2,j3⟩ | ⟨g,cap,cur,e1,e2,e3,e4,e5,e6,e7⟩
        · have : xs = [] := List.eq_nil_of_length_eq_zero j3
          subst this
          exact ⟨[.slice none 0 0],j2,none,0,rfl,by simp,by omega,.inl rfl⟩
        · refine ⟨[E.sl r],rfl,some ⟨g,0,none⟩,cap,by rw [e1],e4,by simp only [maxLen] at e5;omega,?_⟩
          refine .inr ⟨g,0,cs,rfl,⟨⟨(Array.getElem?_eq_some_iff.1 e3).1,hM.base _ e2⟩,fun r' e => ?_⟩,fun j u hu => ?_,chunks_mono (fun c y => rep_stay hF (Stay.refl _ _) t c y) _ _ k4⟩
          · have e : setF E.blk r none r' = some g := e
            by_cases e' : r' = r
            · subst e';rw [setF_same] at e;cases e
            · rw [setF_other _ _ e'] at e
              exact e' (hM.inj _ _ _ e (by rw [k1,e1];rfl))
          · rw [Nat.zero_add,cell_of_row w g j cur _ _ e3]
            rw [← e7] at hu
            have hlt : j < xs.length * t.n := by
              have := (List.getElem?_eq_some_iff.1 hu).1
              rw [List.length_take] at this;omega
            rw [List.getElem?_take,if_pos hlt] at hu
            simpa using hu
      obtain ⟨h2,h3⟩ := hM.turn (w' := w) r ⟨rfl,rfl,rfl,Nat.le_refl _,fun _ _ _ => rfl,fun _ _ _ h => h⟩ none (E.sl r) (.fro t xs ver) ⟨by show setF E.blk r none r = _;rw [setF_same],by show vrep _ w _ (setF E.sl r _ r) _;rw [setF_same];exact hvr⟩ (.inl rfl) (fun h => by rw [hr] at h;exact h.elim) (fun v' hv' => by rw [hr] at hv';exact hv') (fun v' _ hv' => ⟨by rw [hr];exact hv',rfl⟩)
      exact ⟨_,h2,h3,by rw [hv];exact hvr⟩
    · rename_i t xs v' hr
      split at h <;> first | (cases h;done) | skip
      rename_i hv
      subst hv
      simp only [Option.some.injEq,Prod.mk.injEq] at h
      obtain ⟨rfl,rfl⟩ := h
      have hv : v = E.sl r := hk (by rw [hr];rfl)
      have h1 := hM.res r
      rw [hr] at h1
      exact ⟨E,hM,Ext.refl _ _ _,by rw [hv];exact h1.2⟩
theorem asTy_ok {k : K} {t : Option Ty} {p : Part} {l : List (Nat × Res)} {v : Value} (h : asTy ρ t k = some (p,l)) (hM : Mem E ρ W w) (hk : k.holds E ρ w v) :
    ∃ E',Mem E' (after ρ l) W w ∧ Ext E ρ w E' (after ρ l) w ∧ vrep (fz w E') w p.t v p.x := by
  cases k
  case nil =>
    simp only [asTy] at h
    split at h <;> first | (cases h;done) | skip
    rename_i t
    simp only [Option.some.injEq,Prod.mk.injEq] at h
    obtain ⟨rfl,rfl⟩ := h
    exact ⟨E,hM,Ext.refl _ _ _,[.slice none 0 0],hk,none,0,rfl,by simp,by omega,.inl rfl⟩
  all_goals exact asVal_nil (by simpa only [asTy] using h) hM hk
end
end Go.Proofs.YtidfgdchcpmnfaaGreat
namespace Go.Proofs.YtidfgdchcpmnfaaGreat
open Go Go.RowKit
set_option linter.unusedSimpArgs false
set_option linter.unusedVariables false
section
variable {P : Program} {E : Env} {ρ : Nat → Res} {W w : World}
theorem loadP0_ok {T : Told} {t : TypeId} {ps : List Part} {o : Nat} {p : Part} {F : Nat → Prop} {cs : List Value} (h : loadP0 P T t ps o = some p) (hc : chunks (PartOk F w) cs ps) : fitsT P t p.t = true ∧ ∃ c,(cs.drop o).take c.length = c ∧ rep F w p.t c p.x := by
  unfold loadP0 at h
  split at h <;> first | (cases h;done) | skip
  rename_i a p1 qs hd
  obtain ⟨rfl,rfl⟩ := dropP_spec ps o _ _ hd
  obtain ⟨c1,c2,rfl,k1,k2⟩ := chunks_split hc
  have hl := chunks_size k1
  split at h
  · rename_i hf
    simp only [Option.some.injEq] at h
    subst h
    obtain ⟨c3,c4,rfl,k3,k4⟩ := k2
    exact ⟨hf,c3,by rw [← hl,List.drop_left,List.take_left],k3.1⟩
  · split at h <;> first | (cases h;done) | skip
    rename_i ty _
    split at h <;> first | (cases h;done) | skip
    rename_i q q2 hp
    split at h <;> first | (cases h;done) | skip
    rename_i hf
    simp only [Option.some.injEq] at h
    subst h
    obtain ⟨c3,c4,rfl,k3,k4⟩ := pack_spec ty _ _ _ _ hp k2
    exact ⟨hf,c3,by rw [← hl,List.drop_left,List.take_left],k3.1⟩
theorem subP_ok {t : TypeId} {F : Nat → Prop} : ∀ {ps : List Part} {o : Nat} {p : Part} {cs : List Value},subP P t ps o = some p → chunks (PartOk F w) cs ps → fitsT P t p.t = true ∧ ∃ c,(cs.drop o).take c.length = c ∧ rep F w p.t c p.x
  | [],o,p,cs,h,hc => by simp [subP] at h
  | p0 :: ps,o,p,_,h,⟨c1,c2,h1,h2,h3⟩ => by
    have hl := h2.len
    simp only [subP] at h
    split at h
    · rename_i ho
      obtain ⟨k1,c,k2,k3⟩ := subP_ok h h3
      refine ⟨k1,c,?_,k3⟩
      rw [h1,List.drop_append,List.drop_eq_nil_of_le (by omega),List.nil_append,hl]
      exact k2
    · rename_i ho
      split at h <;> first | (cases h;done) | skip
      rename_i o' q hq
      split at h <;> first | (cases h;done) | skip
      rename_i hh
      obtain ⟨rfl,hf⟩ := hh
      simp only [Option.some.injEq] at h
      subst h
      have hr := fieldOf_rep _ _ _ _ _ c1 hq h2.1
      have hn := rep_len _ _ _ hr
      refine ⟨hf,_,?_,hr⟩
      rw [hn]
      rw [List.length_take,List.length_drop] at hn
      rw [h1,List.drop_append_of_le_length (by omega),List.take_append_of_le_length (by rw [List.length_drop];omega)]
theorem loadP_ok {T : Told} {t : TypeId} {ps : List Part} {o : Nat} {p : Part} {F : Nat → Prop} {cs : List Value} (h : loadP P T t ps o = some p) (hc : chunks (PartOk F w) cs ps) : fitsT P t p.t = true ∧ ∃ c,(cs.drop o).take c.length = c ∧ rep F w p.t c p.x := by
  unfold loadP at h
  split at h
  · rename_i p' h'
    simp only [Option.some.injEq] at h
    subst h
    exact loadP0_ok h' hc
  · exact subP_ok h hc
theorem run_storeVar_ty {t : TypeId} {ty : Ty} (h : fitsT P t ty = true) {b o : Nat} {ds : List Value} {F : Nat → Prop} {x : ty.den} (hs : ty.still = true) (hc : w.there b o ds.length) (hr : rep F w ty ds x) : (storeVar t ⟨b,o,none⟩ (ty.toV ds)).run P w = .ok () (w.setCells b o ds) := by
  obtain ⟨⟨i,hi,hn⟩,ha⟩ := fitsT_spec h
  have hl := rep_len ty _ _ hr
  have h1 := rep_ok ty hs _ _ hr
  have hst := run_storeCells_cells (P := P) b o ds 0 w (fun j hj => by simpa using (hc j hj).1) (fun j hj => by simpa using (hc j hj).2) (fun v hv => by have := h1 v hv;simp only [okCell,Bool.and_eq_true] at this;exact this.1)
  simp only [Nat.add_zero] at hst
  have hz : ¬ (ty.toV ds).cells.size ≠ i.size := by rw [toV_cells ty _ _ hr];simp [hn,hl]
  unfold storeVar
  rw [Sem.run_bind,run_sizeOf hi]
  simp only [Result.andThen_ok,toV_cells ty _ _ hr]
  have hz2 : ¬ ds.length ≠ i.size := by rw [hl,hn];simp
  simp [hl,hn,hst]
theorem heap_setCells (b : Nat) : ∀ (vs : List Value) (o : Nat) (w : World) (cs : List Value) (e : TypeId),w.heap[b]? = some (.cells cs.toArray e (0,0)) → o + vs.length ≤ cs.length → (w.setCells b o vs).heap[b]? = some (.cells (cs.take o ++ vs ++ cs.drop (o + vs.length)).toArray e (0,0))
  | [],o,w,cs,e,h,_ => by simpa [World.setCells] using h
  | v :: vs,o,w,cs,e,h,hl => by
    have h1 : (w.setCell ⟨b,o,none⟩ v).heap[b]? = some (.cells (cs.set o v).toArray e (0,0)) := by
      simp only [World.setCell,Array.getElem?_modify,if_true,h,Option.map_some]
      simp
    simp only [List.length_cons] at hl
    have h2 := heap_setCells b vs (o + 1) (w.setCell ⟨b,o,none⟩ v) (cs.set o v) e h1 (by simp;omega)
    have : w.setCells b o (v :: vs) = (w.setCell ⟨b,o,none⟩ v).setCells b (o + 1) vs := by first | rfl | simp [World.setCells]
    rw [this,h2]
    have la : (cs.take o).length = o := by rw [List.length_take];omega
    have e9 : cs.set o v = cs.take o ++ ([v] ++ cs.drop (o + 1)) := by rw [List.set_eq_take_append_cons_drop,if_pos (by omega)];rfl
    have e1 : (cs.set o v).take (o + 1) = cs.take o ++ [v] := by
      rw [e9,List.take_append,la,List.take_of_length_le (by omega),Nat.add_sub_cancel_left];rfl
    have e2 : (cs.set o v).drop (o + 1 + vs.length) = cs.drop (o + (vs.length + 1)) := by
      rw [List.drop_set_of_lt (by omega)];congr 1;omega
    rw [e1,e2]
    simp
theorem store_goes {r b : Nat} {cs vs : List Value} {e : TypeId} {o : Nat} (hr : E.blk r = some b) (hb : w.heap[b]? = some (.cells cs.toArray e (0,0))) (hl : o + vs.length ≤ cs.length) (hn : ∀ v ∈ cs,notU32 v = true) : Goes E w (w.setCells b o vs) (some r) := by
  have hh := heap_setCells b vs o w cs e hb hl
  have hsz : ∀ (vs : List Value) (o : Nat) (w : World),(w.setCells b o vs).heap.size = w.heap.size ∧ (w.setCells b o vs).os = w.os ∧ (w.setCells b o vs).tape = w.tape ∧ (w.setCells b o vs).output = w.output ∧ ∀ q,q ≠ b → (w.setCells b o vs).heap[q]? = w.heap[q]? := by
    intro vs
    induction vs with
    | nil => intro o w;exact ⟨rfl,rfl,rfl,rfl,fun _ _ => rfl⟩
    | cons v vs ih =>
      intro o w
      obtain ⟨h1,h2,h3,h4,h5⟩ := ih (o + 1) (w.setCell ⟨b,o,none⟩ v)
      exact ⟨h1.trans (by simp [World.setCell]),h2,h3,h4,fun q hq => (h5 q hq).trans (Below.heap_setCell _ _ _ _ hq)⟩
  obtain ⟨h1,h2,h3,h4,h5⟩ := hsz vs o w
  refine ⟨h2,h3,h4,by omega,fun q hq hne => h5 q (fun e => hne r rfl (by rw [hr,e])),fun q i n hc => ?_⟩
  by_cases e9 : q = b
  · subst e9
    rw [cell_of_row _ _ _ _ _ _ hb] at hc
    have := hn (.int .u32 n) (by simp at hc;exact List.mem_of_getElem? hc)
    simp [notU32] at this
  · rw [← hc]
    exact World.cell?_of_block (w := w) (h5 q e9)
theorem after_app {ρ : Nat → Res} : ∀ (l m : List (Nat × Res)),after ρ (l ++ m) = after (after ρ l) m
  | [],_ => rfl
  | (r,x) :: l,m => after_app l m
theorem storeP_ok {t : TypeId} {ps qs : List Part} {o : Nat} {p : Part} {cs vs : List Value} {F : Nat → Prop} (h : storeP P t ps o p = some qs) (hc : chunks (PartOk F w) cs ps) (hv : rep F w p.t vs p.x) :
    fitsT P t p.t = true ∧ p.t.still = true ∧ o + vs.length ≤ cs.length ∧ chunks (PartOk F w) (cs.take o ++ vs ++ cs.drop (o + vs.length)) qs := by
  unfold storeP at h
  split at h <;> first | (cases h;done) | skip
  rename_i a b hd
  split at h <;> first | (cases h;done) | skip
  rename_i m c hd2
  split at h <;> first | (cases h;done) | skip
  rename_i hf
  simp only [Bool.and_eq_true] at hf
  simp only [Option.some.injEq] at h
  obtain ⟨rfl,h1⟩ := dropP_spec ps o _ _ hd
  obtain ⟨rfl,h2⟩ := dropP_spec b _ _ _ hd2
  obtain ⟨c1,c2,rfl,k1,k2⟩ := chunks_split hc
  obtain ⟨c3,c4,rfl,k3,k4⟩ := chunks_split k2
  have l1 := chunks_size k1
  have l3 := chunks_size k3
  have lv := rep_len _ _ _ hv
  have e1 : (c1 ++ (c3 ++ c4)).take o = c1 := by rw [← h1,← l1,List.take_left]
  have e2 : (c1 ++ (c3 ++ c4)).drop (o + vs.length) = c4 := by rw [← h1,← l1,lv,← h2,← l3,← List.drop_drop,List.drop_left,List.drop_left]
  refine ⟨hf.1,hf.2,by simp only [List.length_append];omega,?_⟩
  rw [e1,e2,← h]
  exact chunks_app (chunks_app k1 (flat_ok _ _ _ hf.2 hv)) k4
theorem parts_notU32 {F : Nat → Prop} {cs : List Value} {ps : List Part} (h : chunks (PartOk F w) cs ps) : ∀ v ∈ cs,notU32 v = true := by
  have := chunks_ok (p := okCell) (fun c p (hp : PartOk F w c p) => rep_ok p.t hp.2 c p.x hp.1) ps cs h
  intro v hv
  have := this v hv
  simp only [okCell,Bool.and_eq_true] at this
  exact this.2
theorem boxOp_ok {T : Told} {k : Operand → K} {ev : Operand → Value} {o : Oper} {vc : List Prop} {kk : K} {l : List (Nat × Res)} (h : boxOp P T ρ k o.dst o.op = some (vc,kk,l)) (hM : Mem E ρ W w) (hw : ∀ x,(k x).wf ρ) (hk : ∀ x,(k x).holds E ρ w (ev x)) : DoesOk P E ρ W w o ev kk l := by
  cases ho : o.op <;> rw [ho] at h <;> try (simp [boxOp] at h;done)
  case alloc t =>
    simp only [boxOp] at h
    split at h <;> first | (cases h;done) | skip
    rename_i r ty hd ht
    split at h <;> first | (cases h;done) | skip
    rename_i hz
    simp only [Bool.and_eq_true] at hz
    obtain ⟨i,z,c,h1,h2,h3,h4,h5⟩ := zeroB_spec hz.2
    obtain ⟨E',k1,k2,k3,k4⟩ := newBox_ok T hM hz.1 (zc_rep ty c h3) t h
    refine DoesOk.of (by simp only [execOp,ho];rfl) ⟨.pointer (some ⟨w.heap.size,0,none⟩),_,E',?_,k1,k2,k3,k4⟩
    rw [← h4]
    simp [Instr.alloc,zeroValue,typeInfo,h1,h2,newVar,newRow,Sem.run_bind]
  case box t x =>
    simp only [boxOp] at h
    split at h <;> first | (cases h;done) | skip
    rename_i r p l' hd ht
    split at h <;> first | (cases h;done) | skip
    rename_i hz
    simp only [Bool.and_eq_true] at hz
    obtain ⟨E1,m1,m2,cs,hv,hr⟩ := asTy_ok ht hM (hk x)
    have hl : l' = [] := by cases l' <;> simp_all
    subst hl
    obtain ⟨E',k1,k2,k3,k4⟩ := newBox_ok T m1 hz.1 hr t h
    refine DoesOk.of (by simp only [execOp,ho];rfl) ⟨.pointer (some ⟨w.heap.size,0,none⟩),_,E',?_,k1,m2.trans k2,k3,k4⟩
    rw [hv]
    simp [Instr.box,newVar,newRow,Sem.run_bind,toV_cells p.t cs p.x hr]
  case load t x =>
    simp only [boxOp] at h
    split at h <;> first | (cases h;done) | skip
    rename_i r off hx
    split at h <;> first | (cases h;done) | skip
    rename_i ps hr
    simp only [Option.map_eq_some_iff,Prod.mk.injEq] at h
    obtain ⟨p,h1,_,rfl,rfl⟩ := h
    have hkx := hk x
    rw [hx] at hkx
    obtain ⟨b,hb,hp⟩ := hkx
    have hres := hM.res r
    rw [hr] at hres
    obtain ⟨b',cs,e,k1,k2,k3,k4⟩ := hres
    rw [hb] at k1;cases k1
    obtain ⟨hf,c,hc,hrep⟩ := loadP_ok h1 k4
    have hrg : w.rangeAt b off c := fun j v hv => by
      rw [cell_of_row _ _ _ _ _ _ k3,← hv]
      simp only [List.getElem?_toArray]
      rw [← hc,List.getElem?_take,if_pos (by have := (List.getElem?_eq_some_iff.1 hv).1;exact this),List.getElem?_drop]
    refine DoesOk.of (by simp only [execOp,ho];rfl) ⟨p.t.toV c,w,E,?_,hM,Ext.refl _ _ _,trivial,c,rfl,hrep⟩
    rw [hp]
    simp only [Instr.loadAt,Instr.sureAddr,Sem.run_bind,Sem.run_pure,Result.andThen_ok]
    exact run_loadVar_ty hf hrg hrep
  case store t x y =>
    simp only [boxOp] at h
    split at h <;> first | (cases h;done) | skip
    rename_i r off p l' hx hy
    split at h <;> first | (cases h;done) | skip
    rename_i ps hr
    split at h <;> first | (cases h;done) | skip
    rename_i qs hs
    simp only [Option.some.injEq,Prod.mk.injEq] at h
    obtain ⟨_,rfl,rfl⟩ := h
    have hkx := hk x
    rw [hx] at hkx
    obtain ⟨E1,m1,m2,vs,hv,hrep⟩ := asTy_ok hy hM (hk y)
    have hr2 : after ρ l' r = .box ps := by
      cases hky : k y with
      | nil =>
        rw [hky] at hy
        simp only [asTy] at hy
        split at hy <;> first | (cases hy;done) | skip
        simp only [Option.some.injEq,Prod.mk.injEq] at hy
        rw [← hy.2];exact hr
      | own r2 v2 =>
        rw [hky] at hy
        simp only [asTy,asVal] at hy
        split at hy <;> first | (cases hy;done) | skip
        · rename_i hr3
          split at hy <;> first | (cases hy;done) | skip
          simp only [Option.some.injEq,Prod.mk.injEq] at hy
          rw [← hy.2]
          show setF ρ r2 _ r = _
          rw [setF_other _ _ (fun e => by rw [← e,hr] at hr3;cases hr3)];exact hr
        · split at hy <;> first | (cases hy;done) | skip
          simp only [Option.some.injEq,Prod.mk.injEq] at hy
          rw [← hy.2];exact hr
      | val t x =>
        rw [hky] at hy
        simp only [asTy,asVal,Option.some.injEq,Prod.mk.injEq] at hy
        rw [← hy.2];exact hr
      | _ => rw [hky] at hy;simp [asTy,asVal] at hy
    have hkx2 := m2.holds _ _ (by have := hw x;rwa [hx] at this) hkx
    obtain ⟨b,hb,hp⟩ := hkx2
    have hres := m1.res r
    rw [hr2] at hres
    obtain ⟨b',cs,e,k1,k2,k3,k4⟩ := hres
    rw [hb] at k1;cases k1
    obtain ⟨hf,hst,hle,hch⟩ := storeP_ok hs k4 hrep
    have hg := store_goes (vs := vs) hb k3 hle (parts_notU32 k4)
    have hE : E1.put r (some b) (E1.sl r) = E1 := by
      cases E1
      simp only [Env.put,Env.mk.injEq,and_true]
      constructor
      · funext q
        unfold setF
        split
        · rename_i e9;rw [e9];exact hb.symm
        · rfl
      · funext q
        unfold setF
        split
        · rename_i e9;rw [e9]
        · rfl
    have hx9 : ResOk (E1.put r (some b) (E1.sl r)) W.heap.size (w.setCells b off vs) r (.box qs) := by
      rw [hE]
      have hF : ∀ q,fz w E1 q → fz (w.setCells b off vs) E1 q := fun q hq => ⟨⟨Nat.lt_of_lt_of_le hq.1.1 hg.size,hq.1.2⟩,hq.2⟩
      exact ⟨b,_,e,hb,k2,heap_setCells b vs off w cs e k3 hle,chunks_mono (fun c p => PartOk.mono hF hg.stay) _ _ hch⟩
    obtain ⟨n1,n2⟩ := m1.turn r hg (some b) (E1.sl r) (.box qs) hx9 (.inr (.inl hb.symm)) (fun _ => ⟨trivial,hb.symm⟩) (fun v h => by rw [hr2] at h;exact h.elim) (fun v _ hv => hv.elim)
    refine ⟨.skip,undef,w.setCells b off vs,_,?_,.inr ⟨rfl,rfl⟩,by rw [after_app];exact n1,by rw [after_app];exact m2.trans n2,trivial,trivial⟩
    simp only [execOp,ho,Sem.run_bind,hp,hv,Instr.storeAt,Instr.sureAddr,Sem.run_pure,Result.andThen_ok]
    rw [run_storeVar_ty hf hst (fun j hj => ⟨by rw [cell_of_row _ _ _ _ _ _ k3];simp;omega,by simp [World.frozen?,k3]⟩) hrep]
    rfl
  case fieldAddr s x i =>
    simp only [boxOp] at h
    split at h <;> first | (cases h;done) | skip
    rename_i r off hx
    split at h <;> first | (cases h;done) | skip
    rename_i ps hr
    simp only [Option.map_eq_some_iff,Prod.mk.injEq] at h
    obtain ⟨q,h1,_,rfl,rfl⟩ := h
    have hkx := hk x
    rw [hx] at hkx
    have hwx := hw x
    rw [hx] at hwx
    unfold fieldOff at h1
    split at h1 <;> first | (cases h1;done) | skip
    rename_i fs hu
    split at h1 <;> first | (cases h1;done) | skip
    rename_i f hf
    split at h1 <;> first | (cases h1;done) | skip
    rename_i j hj
    split at h1 <;> first | (cases h1;done) | skip
    rename_i hz
    simp only [Option.some.injEq] at h1
    subst h1
    obtain ⟨b,hb,hp⟩ := hkx
    refine DoesOk.of (s := Instr.fieldAt s (ev x) i) (by simp only [execOp,ho]) ⟨.pointer (some ⟨b,off + f.offset,none⟩),w,E,?_,hM,Ext.refl _ _ _,hwx,⟨b,hb,rfl⟩⟩
    simp [hp,Instr.fieldAt,Sem.run_bind,run_underlying hu w,hf,Instr.sureAddr,fieldPlace,run_sizeOf hj,hz,Addr.add_mid]
  case indexAddr s x i =>
    simp only [boxOp] at h
    split at h <;> first | (cases h;done) | skip
    rename_i r off kd n hx hi
    split at h <;> first | (cases h;done) | skip
    rename_i ps hr
    simp only [Option.map_eq_some_iff,Prod.mk.injEq] at h
    obtain ⟨q,h1,_,rfl,rfl⟩ := h
    have hkx := hk x
    rw [hx] at hkx
    have hki := hk i
    rw [hi] at hki
    have hwx := hw x
    rw [hx] at hwx
    unfold elemOff at h1
    split at h1 <;> first | (cases h1;done) | skip
    rename_i m e hu
    split at h1 <;> first | (cases h1;done) | skip
    rename_i j k9 hj
    split at h1 <;> first | (cases h1;done) | skip
    rename_i hlt
    simp only [Option.some.injEq] at h1
    subst h1
    obtain ⟨b,hb,hp⟩ := hkx
    refine DoesOk.of (s := Instr.indexAt s (ev x) (ev i)) (by simp only [execOp,ho]) ⟨.pointer (some ⟨b,off + k9 * j.size,none⟩),w,E,?_,hM,Ext.refl _ _ _,hwx,⟨b,hb,rfl⟩⟩
    rw [hp,val_int hki]
    have h0 : (0 : Int) ≤ Int.ofNat k9 := Int.natCast_nonneg _
    have h2 : Int.ofNat k9 < (m : Int) := by simp;omega
    simp [Instr.indexAt,asIntOf,Sem.run_bind,run_underlying hu w,Instr.sureAddr,run_sizeOf hj,Addr.add_mid,hlt]
end
end Go.Proofs.YtidfgdchcpmnfaaGreat
