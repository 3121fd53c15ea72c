/-
  Lemmas for the statements about rotations, part 10 of 51.
-/
import Derived.Test.YtidfgdchcpmnfaaGreatZb09
namespace Go.Proofs.YtidfgdchcpmnfaaGreat
open Go.RowKit
set_option linter.unusedSimpArgs false
set_option linter.unusedVariables false
theorem Below.al {w w' : World} (h : Below w.heap.size w w') (o : Obj) : Below w.heap.size w (w'.alloc o) := h.alloc h.size o
theorem Below.tr {w w' w'' : World} (h : Below w.heap.size w w') (k : Below w'.heap.size w' w'') : Below w.heap.size w w'' := h.trans (k.mono h.size)
theorem Below.drewn {m : Nat} {w w' : World} (h : Below m w w') (k : Nat) : Below m w (w'.drewN k) := by
  induction k with
  | zero => exact h
  | succ k ih => exact ih.drew
theorem Bx.drewN {w : World} {b : Nat} {cs : List Value} (h : Bx w b cs) (k : Nat) : Bx (w.drewN k) b cs := h.to (Below.drewn (Below.refl _ _) k)
theorem Rd.sets1 {w : World} {s : Value} {l : List Nat} (h : Rd w s l) {b : Nat} {u0 : Value} (q : Bx w b [u0]) (h0 : notU32 u0 = true) (x0 : Value) : Rd (w.setCell ⟨b,0,none⟩ x0) s l :=
  (h.setBox (a := ⟨b,0,none⟩) (u := u0) (by exact q.c0) h0 x0)
theorem Bx.store1 {w : World} {b : Nat} {u0 : Value} (h : Bx w b [u0]) (x0 : Value) : Bx (w.setCell ⟨b,0,none⟩ x0) b [x0] := by
  refine ⟨by simpa [World.setCell] using h.1,fun i u hu => ?_⟩
  match i,hu with
  | 0,hu => simp at hu;subst hu;simp [go_sem,h.c0,h.f0]
  | _ + 1,hu => simp at hu
theorem Bx.other1 {w : World} {b' : Nat} {cs : List Value} (h : Bx w b' cs) {b : Nat} (hne : b' ≠ b) (x0 : Value) : Bx (w.setCell ⟨b,0,none⟩ x0) b' cs := by
  refine ⟨by simpa [World.setCell] using h.1,fun i u hu => ?_⟩
  have := h.2 i u hu
  constructor
  · rw [World.cell?_setCell_far _ _ _ _ (fun e => hne e.symm)];exact this.1
  · rw [World.frozen?_setCell];exact this.2
theorem Below.sets1 {m : Nat} {w' w : World} (h : Below m w' w) {b : Nat} (hb : m ≤ b) (x0 : Value) : Below m w' (w.setCell ⟨b,0,none⟩ x0) :=
  (h.setCell (p := ⟨b,0,none⟩) hb x0)
theorem Raw.sets1 {w : World} {v : Value} {x : Int} (h : Raw w v x) {b : Nat} {u0 : Value} (q : Bx w b [u0]) (h0 : notU32 u0 = true) (x0 : Value) : Raw (w.setCell ⟨b,0,none⟩ x0) v x := by
  obtain ⟨neg,s,l,k1,k2,k3,k4⟩ := h;exact ⟨neg,s,l,k1,k2.sets1 q h0 x0,k3,k4⟩
theorem RInt.sets1 {w : World} {v : Value} {x : Int} (h : RInt w v x) {b : Nat} {u0 : Value} (q : Bx w b [u0]) (h0 : notU32 u0 = true) (x0 : Value) : RInt (w.setCell ⟨b,0,none⟩ x0) v x := by
  obtain ⟨s,k1,k2⟩ := h;exact ⟨s,k1,k2.sets1 q h0 x0⟩
theorem Rd.sets2 {w : World} {s : Value} {l : List Nat} (h : Rd w s l) {b : Nat} {u0 u1 : Value} (q : Bx w b [u0,u1]) (h0 : notU32 u0 = true) (h1 : notU32 u1 = true) (x0 x1 : Value) : Rd ((w.setCell ⟨b,0,none⟩ x0).setCell ⟨b,1,none⟩ x1) s l :=
  ((h.setBox (a := ⟨b,0,none⟩) (u := u0) (by exact q.c0) h0 x0).setBox (a := ⟨b,1,none⟩) (u := u1) (by rw [World.cell?_setCell_other _ _ _ _ (by simp)];exact q.c1) h1 x1)
theorem Bx.store2 {w : World} {b : Nat} {u0 u1 : Value} (h : Bx w b [u0,u1]) (x0 x1 : Value) : Bx ((w.setCell ⟨b,0,none⟩ x0).setCell ⟨b,1,none⟩ x1) b [x0,x1] := by
  refine ⟨by simpa [World.setCell] using h.1,fun i u hu => ?_⟩
  match i,hu with
  | 0,hu => simp at hu;subst hu;simp [go_sem,h.c0,h.f0,h.c1,h.f1]
  | 1,hu => simp at hu;subst hu;simp [go_sem,h.c0,h.f0,h.c1,h.f1]
  | _ + 2,hu => simp at hu
theorem Bx.other2 {w : World} {b' : Nat} {cs : List Value} (h : Bx w b' cs) {b : Nat} (hne : b' ≠ b) (x0 x1 : Value) : Bx ((w.setCell ⟨b,0,none⟩ x0).setCell ⟨b,1,none⟩ x1) b' cs := by
  refine ⟨by simpa [World.setCell] using h.1,fun i u hu => ?_⟩
  have := h.2 i u hu
  constructor
  · rw [World.cell?_setCell_far _ _ _ _ (fun e => hne e.symm)];rw [World.cell?_setCell_far _ _ _ _ (fun e => hne e.symm)];exact this.1
  · rw [World.frozen?_setCell];rw [World.frozen?_setCell];exact this.2
theorem Below.sets2 {m : Nat} {w' w : World} (h : Below m w' w) {b : Nat} (hb : m ≤ b) (x0 x1 : Value) : Below m w' ((w.setCell ⟨b,0,none⟩ x0).setCell ⟨b,1,none⟩ x1) :=
  ((h.setCell (p := ⟨b,0,none⟩) hb x0).setCell (p := ⟨b,1,none⟩) hb x1)
theorem Raw.sets2 {w : World} {v : Value} {x : Int} (h : Raw w v x) {b : Nat} {u0 u1 : Value} (q : Bx w b [u0,u1]) (h0 : notU32 u0 = true) (h1 : notU32 u1 = true) (x0 x1 : Value) : Raw ((w.setCell ⟨b,0,none⟩ x0).setCell ⟨b,1,none⟩ x1) v x := by
  obtain ⟨neg,s,l,k1,k2,k3,k4⟩ := h;exact ⟨neg,s,l,k1,k2.sets2 q h0 h1 x0 x1,k3,k4⟩
theorem RInt.sets2 {w : World} {v : Value} {x : Int} (h : RInt w v x) {b : Nat} {u0 u1 : Value} (q : Bx w b [u0,u1]) (h0 : notU32 u0 = true) (h1 : notU32 u1 = true) (x0 x1 : Value) : RInt ((w.setCell ⟨b,0,none⟩ x0).setCell ⟨b,1,none⟩ x1) v x := by
  obtain ⟨s,k1,k2⟩ := h;exact ⟨s,k1,k2.sets2 q h0 h1 x0 x1⟩
theorem Rd.sets4 {w : World} {s : Value} {l : List Nat} (h : Rd w s l) {b : Nat} {u0 u1 u2 u3 : Value} (q : Bx w b [u0,u1,u2,u3]) (h0 : notU32 u0 = true) (h1 : notU32 u1 = true) (h2 : notU32 u2 = true) (h3 : notU32 u3 = true) (x0 x1 x2 x3 : Value) : Rd ((((w.setCell ⟨b,0,none⟩ x0).setCell ⟨b,1,none⟩ x1).setCell ⟨b,2,none⟩ x2).setCell ⟨b,3,none⟩ x3) s l :=
  ((((h.setBox (a := ⟨b,0,none⟩) (u := u0) (by exact q.c0) h0 x0).setBox (a := ⟨b,1,none⟩) (u := u1) (by rw [World.cell?_setCell_other _ _ _ _ (by simp)];exact q.c1) h1 x1).setBox (a := ⟨b,2,none⟩) (u := u2) (by rw [World.cell?_setCell_other _ _ _ _ (by simp)];rw [World.cell?_setCell_other _ _ _ _ (by simp)];exact q.c2) h2 x2).setBox (a := ⟨b,3,none⟩) (u := u3) (by rw [World.cell?_setCell_other _ _ _ _ (by simp)];rw [World.cell?_setCell_other _ _ _ _ (by simp)];rw [World.cell?_setCell_other _ _ _ _ (by simp)];exact q.c3) h3 x3)
theorem Bx.store4 {w : World} {b : Nat} {u0 u1 u2 u3 : Value} (h : Bx w b [u0,u1,u2,u3]) (x0 x1 x2 x3 : Value) : Bx ((((w.setCell ⟨b,0,none⟩ x0).setCell ⟨b,1,none⟩ x1).setCell ⟨b,2,none⟩ x2).setCell ⟨b,3,none⟩ x3) b [x0,x1,x2,x3] := by
  refine ⟨by simpa [World.setCell] using h.1,fun i u hu => ?_⟩
  match i,hu with
  | 0,hu => simp at hu;subst hu;simp [go_sem,h.c0,h.f0,h.c1,h.f1,h.c2,h.f2,h.c3,h.f3]
  | 1,hu => simp at hu;subst hu;simp [go_sem,h.c0,h.f0,h.c1,h.f1,h.c2,h.f2,h.c3,h.f3]
  | 2,hu => simp at hu;subst hu;simp [go_sem,h.c0,h.f0,h.c1,h.f1,h.c2,h.f2,h.c3,h.f3]
  | 3,hu => simp at hu;subst hu;simp [go_sem,h.c0,h.f0,h.c1,h.f1,h.c2,h.f2,h.c3,h.f3]
  | _ + 4,hu => simp at hu
theorem Bx.other4 {w : World} {b' : Nat} {cs : List Value} (h : Bx w b' cs) {b : Nat} (hne : b' ≠ b) (x0 x1 x2 x3 : Value) : Bx ((((w.setCell ⟨b,0,none⟩ x0).setCell ⟨b,1,none⟩ x1).setCell ⟨b,2,none⟩ x2).setCell ⟨b,3,none⟩ x3) b' cs := by
  refine ⟨by simpa [World.setCell] using h.1,fun i u hu => ?_⟩
  have := h.2 i u hu
  constructor
  · rw [World.cell?_setCell_far _ _ _ _ (fun e => hne e.symm)];rw [World.cell?_setCell_far _ _ _ _ (fun e => hne e.symm)];rw [World.cell?_setCell_far _ _ _ _ (fun e => hne e.symm)];rw [World.cell?_setCell_far _ _ _ _ (fun e => hne e.symm)];exact this.1
  · rw [World.frozen?_setCell];rw [World.frozen?_setCell];rw [World.frozen?_setCell];rw [World.frozen?_setCell];exact this.2
theorem Below.sets4 {m : Nat} {w' w : World} (h : Below m w' w) {b : Nat} (hb : m ≤ b) (x0 x1 x2 x3 : Value) : Below m w' ((((w.setCell ⟨b,0,none⟩ x0).setCell ⟨b,1,none⟩ x1).setCell ⟨b,2,none⟩ x2).setCell ⟨b,3,none⟩ x3) :=
  ((((h.setCell (p := ⟨b,0,none⟩) hb x0).setCell (p := ⟨b,1,none⟩) hb x1).setCell (p := ⟨b,2,none⟩) hb x2).setCell (p := ⟨b,3,none⟩) hb x3)
theorem Raw.sets4 {w : World} {v : Value} {x : Int} (h : Raw w v x) {b : Nat} {u0 u1 u2 u3 : Value} (q : Bx w b [u0,u1,u2,u3]) (h0 : notU32 u0 = true) (h1 : notU32 u1 = true) (h2 : notU32 u2 = true) (h3 : notU32 u3 = true) (x0 x1 x2 x3 : Value) : Raw ((((w.setCell ⟨b,0,none⟩ x0).setCell ⟨b,1,none⟩ x1).setCell ⟨b,2,none⟩ x2).setCell ⟨b,3,none⟩ x3) v x := by
  obtain ⟨neg,s,l,k1,k2,k3,k4⟩ := h;exact ⟨neg,s,l,k1,k2.sets4 q h0 h1 h2 h3 x0 x1 x2 x3,k3,k4⟩
theorem RInt.sets4 {w : World} {v : Value} {x : Int} (h : RInt w v x) {b : Nat} {u0 u1 u2 u3 : Value} (q : Bx w b [u0,u1,u2,u3]) (h0 : notU32 u0 = true) (h1 : notU32 u1 = true) (h2 : notU32 u2 = true) (h3 : notU32 u3 = true) (x0 x1 x2 x3 : Value) : RInt ((((w.setCell ⟨b,0,none⟩ x0).setCell ⟨b,1,none⟩ x1).setCell ⟨b,2,none⟩ x2).setCell ⟨b,3,none⟩ x3) v x := by
  obtain ⟨s,k1,k2⟩ := h;exact ⟨s,k1,k2.sets4 q h0 h1 h2 h3 x0 x1 x2 x3⟩
theorem one_rdM (w : World) (s : Nat) : Rd (w.alloc (.cells #[.int .u32 (s : Nat)] 118)) (.slice (some ⟨w.heap.size,0,none⟩) 1 1) [s] := one_rd w s
def RawV (w : World) (v : Value) (ok : Bool) (x : Int) : Prop :=
  ∃ neg s l,v = .agg #[.bool neg,s] ∧ Rd w s l ∧ (∀ g ∈ l,g < 4294967296) ∧ x = cnt neg l ∧ ok = vldB neg l
theorem RawV.raw {w : World} {v : Value} {ok : Bool} {x : Int} (h : RawV w v ok x) : Raw w v x := by
  obtain ⟨neg,s,l,k1,k2,k3,k4,_⟩ := h;exact ⟨neg,s,l,k1,k2,k3,k4⟩
theorem RawV.below {w w' : World} {v : Value} {ok : Bool} {x : Int} (h : RawV w v ok x) (hb : Below w.heap.size w w') : RawV w' v ok x := by
  obtain ⟨neg,s,l,k1,k2,k3,k4⟩ := h;exact ⟨neg,s,l,k1,k2.below hb,k3,k4⟩
theorem RawV.zero {w : World} {v : Value} {x : Int} (h : RawV w v false x) : x = 0 := by
  obtain ⟨neg,s,l,k1,k2,k3,k4,k5⟩ := h;rw [k4];unfold cnt;rw [← k5];rfl
theorem RawV.int {w : World} {v : Value} {x : Int} (h : RawV w v true x) : RInt w v x := by
  obtain ⟨neg,s,l,k1,k2,k3,k4,k5⟩ := h
  have hd := dig_cnt neg l
  have hc : cgs neg l = l := by unfold cgs;rw [← k5];rfl
  rw [hc,← k4] at hd
  refine ⟨s,?_,by rw [hd];exact k2⟩
  rw [k1]
  by_cases hx : x = 0
  · have hl : l = [] := by rw [← hd,hx];simp [dig_zero]
    have := (vldB_iff.1 k5.symm).2 hl
    rw [this,hx];simp
  · have := cnt_sign (neg := neg) (l := l) (by rw [← k4];exact hx)
    rw [← k4] at this;rw [← this]
theorem RInt.rawV {w : World} {v : Value} {x : Int} (h : RInt w v x) : RawV w v true x := by
  obtain ⟨s,h1,h2⟩ := h
  exact ⟨_,s,_,h1,h2,fun g hg => by have := dig_low _ g hg;rw [BB_eq] at this;omega,(cnt_dig x).symm,(vldB_dig x).symm⟩
theorem Raw.len {w : World} {b : Bool} {p : Option Addr} {n c : Nat} {x : Int} (h : Raw w (.agg #[.bool b,.slice p n c]) x) : isz x ≤ n := by
  obtain ⟨neg,s,l,k1,k2,k3,k4⟩ := h
  cases k1
  obtain ⟨p',c',e,_⟩ := k2.form
  cases e
  unfold isz nsz
  rw [k4,dig_cnt]
  unfold cgs
  split
  · exact Nat.le_refl _
  · simp
def RQ (w : World) (v : Value) (q : Rat) : Prop := ∃ b s c t,v = .agg #[b,s,c,t] ∧ RInt w (.agg #[b,s]) q.num ∧ RInt w (.agg #[c,t]) (q.den : Int)
theorem RQ.num {w : World} {b s c t : Value} {q : Rat} (h : RQ w (.agg #[b,s,c,t]) q) : RInt w (.agg #[b,s]) q.num := by
  obtain ⟨_,_,_,_,e,h1,h2⟩ := h;cases e;exact h1
theorem RQ.den {w : World} {b s c t : Value} {q : Rat} (h : RQ w (.agg #[b,s,c,t]) q) : RInt w (.agg #[c,t]) (q.den : Int) := by
  obtain ⟨_,_,_,_,e,h1,h2⟩ := h;cases e;exact h2
theorem RQ.mk' {w : World} {b s c t : Value} {q : Rat} {n d : Int} (h1 : RInt w (.agg #[b,s]) n) (h2 : RInt w (.agg #[c,t]) d) (hn : n = q.num) (hd : d = (q.den : Int)) : RQ w (.agg #[b,s,c,t]) q :=
  ⟨b,s,c,t,rfl,hn ▸ h1,hd ▸ h2⟩
theorem RQ.below {w w' : World} {v : Value} {q : Rat} (h : RQ w v q) (hb : Below w.heap.size w w') : RQ w' v q := by
  obtain ⟨b,s,c,t,e,h1,h2⟩ := h;exact ⟨b,s,c,t,e,h1.below hb,h2.below hb⟩
theorem RQ.form {w : World} {v : Value} {q : Rat} (h : RQ w v q) : ∃ b p n c b' p' n' c',v = .agg #[.bool b,.slice p n c,.bool b',.slice p' n' c'] := by
  obtain ⟨b,s,c,t,e,h1,h2⟩ := h
  obtain ⟨_,_,_,_,e1⟩ := h1.form
  obtain ⟨_,_,_,_,e2⟩ := h2.form
  cases e1;cases e2
  exact ⟨_,_,_,_,_,_,_,_,e⟩
def QRaw (w : World) (v : Value) (ok : Bool) (q : Rat) : Prop :=
  ∃ b s c t o1 o2 n d,v = .agg #[b,s,c,t] ∧ RawV w (.agg #[b,s]) o1 n ∧ RawV w (.agg #[c,t]) o2 d ∧ ok = (o1 && (o2 && (decide (0 < d) && decide (Int.gcd n d = 1)))) ∧ q = if ok then Rat.divInt n d else 0
theorem QRaw.below {w w' : World} {v : Value} {ok : Bool} {q : Rat} (h : QRaw w v ok q) (hb : Below w.heap.size w w') : QRaw w' v ok q := by
  obtain ⟨b,s,c,t,o1,o2,n,d,e,h1,h2,h3⟩ := h;exact ⟨b,s,c,t,o1,o2,n,d,e,h1.below hb,h2.below hb,h3⟩
theorem QRaw.form {w : World} {v : Value} {ok : Bool} {q : Rat} (h : QRaw w v ok q) : ∃ b p n c b' p' n' c',v = .agg #[.bool b,.slice p n c,.bool b',.slice p' n' c'] := by
  obtain ⟨b,s,c,t,o1,o2,n,d,e,h1,h2,_⟩ := h
  obtain ⟨_,_,_,_,e1⟩ := h1.raw.form
  obtain ⟨_,_,_,_,e2⟩ := h2.raw.form
  cases e1;cases e2
  exact ⟨_,_,_,_,_,_,_,_,e⟩
theorem QRaw.rq {w : World} {v : Value} {q : Rat} (h : QRaw w v true q) : RQ w v q := by
  obtain ⟨b,s,c,t,o1,o2,n,d,e,h1,h2,h3,h4⟩ := h
  simp only [Bool.true_eq,Bool.and_eq_true,decide_eq_true_eq] at h3
  obtain ⟨rfl,rfl,hd,hg⟩ := h3
  rw [if_pos rfl] at h4
  subst h4
  rw [e]
  exact RQ.mk' h1.int h2.int (divInt_num_one hd hg).symm (divInt_den_one hd hg).symm
theorem QRaw.no {w : World} {v : Value} {q : Rat} (h : QRaw w v false q) : q = 0 := by
  obtain ⟨b,s,c,t,o1,o2,n,d,e,h1,h2,h3,h4⟩ := h
  simpa using h4
theorem RQ.raw {w : World} {v : Value} {q : Rat} (h : RQ w v q) : QRaw w v true q := by
  obtain ⟨b,s,c,t,e,h1,h2⟩ := h
  refine ⟨b,s,c,t,true,true,_,_,e,h1.rawV,h2.rawV,?_,?_⟩
  · simp [rat_gcd];exact Nat.pos_of_ne_zero q.den_nz
  · rw [if_pos rfl,Rat.num_divInt_den]
theorem RawV.sets1 {w : World} {v : Value} {ok : Bool} {x : Int} (h : RawV w v ok x) {b : Nat} {u0 : Value} (q : Bx w b [u0]) (h0 : notU32 u0 = true) (x0 : Value) : RawV (w.setCell ⟨b,0,none⟩ x0) v ok x := by
  obtain ⟨neg,s,l,k1,k2,k3,k4⟩ := h;exact ⟨neg,s,l,k1,k2.sets1 q h0 x0,k3,k4⟩
theorem RQ.sets1 {w : World} {v : Value} {x : Rat} (h : RQ w v x) {b : Nat} {u0 : Value} (q : Bx w b [u0]) (h0 : notU32 u0 = true) (x0 : Value) : RQ (w.setCell ⟨b,0,none⟩ x0) v x := by
  obtain ⟨a,s,c,t,e,k1,k2⟩ := h;exact ⟨a,s,c,t,e,k1.sets1 q h0 x0,k2.sets1 q h0 x0⟩
theorem QRaw.sets1 {w : World} {v : Value} {ok : Bool} {x : Rat} (h : QRaw w v ok x) {b : Nat} {u0 : Value} (q : Bx w b [u0]) (h0 : notU32 u0 = true) (x0 : Value) : QRaw (w.setCell ⟨b,0,none⟩ x0) v ok x := by
  obtain ⟨a,s,c,t,o1,o2,m,d,e,k1,k2,k3⟩ := h;exact ⟨a,s,c,t,o1,o2,m,d,e,k1.sets1 q h0 x0,k2.sets1 q h0 x0,k3⟩
theorem RawV.sets2 {w : World} {v : Value} {ok : Bool} {x : Int} (h : RawV w v ok x) {b : Nat} {u0 u1 : Value} (q : Bx w b [u0,u1]) (h0 : notU32 u0 = true) (h1 : notU32 u1 = true) (x0 x1 : Value) : RawV ((w.setCell ⟨b,0,none⟩ x0).setCell ⟨b,1,none⟩ x1) v ok x := by
  obtain ⟨neg,s,l,k1,k2,k3,k4⟩ := h;exact ⟨neg,s,l,k1,k2.sets2 q h0 h1 x0 x1,k3,k4⟩
theorem RQ.sets2 {w : World} {v : Value} {x : Rat} (h : RQ w v x) {b : Nat} {u0 u1 : Value} (q : Bx w b [u0,u1]) (h0 : notU32 u0 = true) (h1 : notU32 u1 = true) (x0 x1 : Value) : RQ ((w.setCell ⟨b,0,none⟩ x0).setCell ⟨b,1,none⟩ x1) v x := by
  obtain ⟨a,s,c,t,e,k1,k2⟩ := h;exact ⟨a,s,c,t,e,k1.sets2 q h0 h1 x0 x1,k2.sets2 q h0 h1 x0 x1⟩
theorem QRaw.sets2 {w : World} {v : Value} {ok : Bool} {x : Rat} (h : QRaw w v ok x) {b : Nat} {u0 u1 : Value} (q : Bx w b [u0,u1]) (h0 : notU32 u0 = true) (h1 : notU32 u1 = true) (x0 x1 : Value) : QRaw ((w.setCell ⟨b,0,none⟩ x0).setCell ⟨b,1,none⟩ x1) v ok x := by
  obtain ⟨a,s,c,t,o1,o2,m,d,e,k1,k2,k3⟩ := h;exact ⟨a,s,c,t,o1,o2,m,d,e,k1.sets2 q h0 h1 x0 x1,k2.sets2 q h0 h1 x0 x1,k3⟩
theorem RawV.sets4 {w : World} {v : Value} {ok : Bool} {x : Int} (h : RawV w v ok x) {b : Nat} {u0 u1 u2 u3 : Value} (q : Bx w b [u0,u1,u2,u3]) (h0 : notU32 u0 = true) (h1 : notU32 u1 = true) (h2 : notU32 u2 = true) (h3 : notU32 u3 = true) (x0 x1 x2 x3 : Value) : RawV ((((w.setCell ⟨b,0,none⟩ x0).setCell ⟨b,1,none⟩ x1).setCell ⟨b,2,none⟩ x2).setCell ⟨b,3,none⟩ x3) v ok x := by
  obtain ⟨neg,s,l,k1,k2,k3,k4⟩ := h;exact ⟨neg,s,l,k1,k2.sets4 q h0 h1 h2 h3 x0 x1 x2 x3,k3,k4⟩
theorem RQ.sets4 {w : World} {v : Value} {x : Rat} (h : RQ w v x) {b : Nat} {u0 u1 u2 u3 : Value} (q : Bx w b [u0,u1,u2,u3]) (h0 : notU32 u0 = true) (h1 : notU32 u1 = true) (h2 : notU32 u2 = true) (h3 : notU32 u3 = true) (x0 x1 x2 x3 : Value) : RQ ((((w.setCell ⟨b,0,none⟩ x0).setCell ⟨b,1,none⟩ x1).setCell ⟨b,2,none⟩ x2).setCell ⟨b,3,none⟩ x3) v x := by
  obtain ⟨a,s,c,t,e,k1,k2⟩ := h;exact ⟨a,s,c,t,e,k1.sets4 q h0 h1 h2 h3 x0 x1 x2 x3,k2.sets4 q h0 h1 h2 h3 x0 x1 x2 x3⟩
theorem QRaw.sets4 {w : World} {v : Value} {ok : Bool} {x : Rat} (h : QRaw w v ok x) {b : Nat} {u0 u1 u2 u3 : Value} (q : Bx w b [u0,u1,u2,u3]) (h0 : notU32 u0 = true) (h1 : notU32 u1 = true) (h2 : notU32 u2 = true) (h3 : notU32 u3 = true) (x0 x1 x2 x3 : Value) : QRaw ((((w.setCell ⟨b,0,none⟩ x0).setCell ⟨b,1,none⟩ x1).setCell ⟨b,2,none⟩ x2).setCell ⟨b,3,none⟩ x3) v ok x := by
  obtain ⟨a,s,c,t,o1,o2,m,d,e,k1,k2,k3⟩ := h;exact ⟨a,s,c,t,o1,o2,m,d,e,k1.sets4 q h0 h1 h2 h3 x0 x1 x2 x3,k2.sets4 q h0 h1 h2 h3 x0 x1 x2 x3,k3⟩
theorem RawV.alloc {w : World} {v : Value} {ok : Bool} {x : Int} (h : RawV w v ok x) (o : Obj) : RawV (w.alloc o) v ok x := h.below ((Below.refl _ _).alloc (Nat.le_refl _) _)
theorem RawV.drew {w : World} {v : Value} {ok : Bool} {x : Int} (h : RawV w v ok x) : RawV w.drew v ok x := h.below (Below.refl _ _).drew
theorem RQ.alloc {w : World} {v : Value} {x : Rat} (h : RQ w v x) (o : Obj) : RQ (w.alloc o) v x := h.below ((Below.refl _ _).alloc (Nat.le_refl _) _)
theorem RQ.drew {w : World} {v : Value} {x : Rat} (h : RQ w v x) : RQ w.drew v x := h.below (Below.refl _ _).drew
theorem QRaw.alloc {w : World} {v : Value} {ok : Bool} {x : Rat} (h : QRaw w v ok x) (o : Obj) : QRaw (w.alloc o) v ok x := h.below ((Below.refl _ _).alloc (Nat.le_refl _) _)
theorem QRaw.drew {w : World} {v : Value} {ok : Bool} {x : Rat} (h : QRaw w v ok x) : QRaw w.drew v ok x := h.below (Below.refl _ _).drew
def GQ (q : Rat) (w : World) (e : Ending) (w' : World) : Prop := ∃ v,e = .returned v ∧ RQ w' v q ∧ Below w.heap.size w w'
end Go.Proofs.YtidfgdchcpmnfaaGreat
