/-
  Lemmas for the statements about rotations, part 32 of 51.
-/
import Derived.BigRegion
import Derived.IntWalk
import Derived.StillTailTactics
import Derived.Test.YtidfgdchcpmnfaaGreatZb18
import Derived.Test.YtidfgdchcpmnfaaGreatZb27
import Derived.Test.YtidfgdchcpmnfaaGreatZb31
namespace Go.Proofs.YtidfgdchcpmnfaaGreat
open Go Go.RowKit
set_option linter.unusedSimpArgs false
set_option linter.unusedVariables false
set_option maxRecDepth 20000
def isSl : Value → Bool
  | .slice _ _ _ => true
  | _ => false
theorem isSl_u32 {u : Value} (h : isSl u = true) : notU32 u = true := by cases u <;> simp_all [isSl,notU32]
theorem kept_of {w w' : World} {v : Value} (hg : w.grownBy w' v.ownBlock) {p : Value → Bool} (hv : CAv p w v) : Below w.heap.size w w' ∨ ∃ g,v.ownBlock = some g ∧ w.grownBy w' (some g) ∧ CA p w g := by
  cases h : v.ownBlock with
  | none =>
    rw [h] at hg
    exact .inl ⟨hg.os,hg.tape,hg.output,hg.size,fun k hk => hg.block k hk (by simp)⟩
  | some g =>
    rw [h] at hg
    exact .inr ⟨g,rfl,hg,hv g h⟩
theorem QC.kept {w w' : World} {u0 u1 u2 u3 : Value} {K : Nat} {ok : Bool} {q : Rat} (h : QC w u0 u1 u2 u3 K ok q) {v : Value} (hg : w.grownBy w' v.ownBlock) (hv : CAv notU32 w v) : QC w' u0 u1 u2 u3 K ok q := by
  rcases kept_of hg hv with hb | ⟨g,_,hg,hn⟩
  · exact h.below hb
  · exact h.grown hg hn
theorem RowR.grownSl {w w' : World} {s : Value} {n K : Nat} {ok : Nat → Bool} {e : Nat → Rat} (h : RowR w s n K ok e) {g : Nat} (hg : w.grownBy w' (some g)) (hn : CA isSl w g) : RowR w' s n K ok e := by
  obtain ⟨p,c,hs,h1,h2,h3⟩ := h
  refine ⟨p,c,hs,h1,h2,fun hp => ?_⟩
  obtain ⟨b,o,hp',hlt,hi⟩ := h3 hp
  have hne : b ≠ g := fun e1 => by
    subst e1
    obtain ⟨u0,u1,u2,u3,c0,c1,c2,c3,hq⟩ := hi 0 hp
    obtain ⟨_,_,_,_,_,_,_,_,rfl,_⟩ := hq.open
    have := hn _ _ c0
    simp [isSl] at this
  have hc : ∀ o',w'.cell? ⟨b,o',none⟩ = w.cell? ⟨b,o',none⟩ := fun o' => World.cell?_of_block (w := w) (hg.block b hlt (by simpa using hne))
  refine ⟨b,o,hp',Nat.lt_of_lt_of_le hlt hg.size,fun i hin => ?_⟩
  obtain ⟨u0,u1,u2,u3,c0,c1,c2,c3,hq⟩ := hi i hin
  exact ⟨u0,u1,u2,u3,by rw [hc];exact c0,by rw [hc];exact c1,by rw [hc];exact c2,by rw [hc];exact c3,hq.grown hg (fun i u hu => isSl_u32 (hn i u hu))⟩
theorem RowR.kept {w w' : World} {s : Value} {n K : Nat} {ok : Nat → Bool} {e : Nat → Rat} (h : RowR w s n K ok e) {v : Value} (hg : w.grownBy w' v.ownBlock) (hv : CAv isSl w v) : RowR w' s n K ok e := by
  rcases kept_of hg hv with hb | ⟨g,_,hg,hn⟩
  · exact h.below hb
  · exact h.grownSl hg hn
theorem CAv.below {p : Value → Bool} {w w' : World} {v : Value} {base : Nat} {e : TypeId} {size n : Nat} {xs : List Value} (h : CAv p w v) (ho : w.ownsRow base e size v n xs) (hb : Below w.heap.size w w') : CAv p w' v := by
  intro g hg i u hu
  have hlt := (ho.lt g hg).2
  rw [(bcell hb).1 _ _ hlt] at hu
  exact h g hg i u hu
theorem ownsB {w w' : World} {base : Nat} {e : TypeId} {size n : Nat} {v : Value} {xs : List Value} (h : w.ownsRow base e size v n xs) (hb : Below w.heap.size w w') : w'.ownsRow base e size v n xs :=
  h.kept (row := none) ⟨hb.os,hb.tape,hb.output,hb.size,fun k hk _ => hb.block k hk⟩ (by cases v.ownBlock <;> simp)
def RowA (base : Nat) (w : World) (v : Value) (n K : Nat) (e : Nat → Rat) : Prop :=
  ∃ xs : List Value,w.ownsRow base 30 4 v n xs ∧ CAv notU32 w v ∧ ∀ j,j < n → ∃ u0 u1 u2 u3,xs[j * 4]? = some u0 ∧ xs[j * 4 + 1]? = some u1 ∧ xs[j * 4 + 2]? = some u2 ∧ xs[j * 4 + 3]? = some u3 ∧ QC w u0 u1 u2 u3 K true (e j)
theorem RowA.nil (base : Nat) (w : World) (K : Nat) (e : Nat → Rat) : RowA base w (.slice none 0 0) 0 K e :=
  ⟨[],World.ownsRow_nil _ _ _ _,fun g hg => by simp [Value.ownBlock] at hg,fun j hj => by omega⟩
theorem CAv.fresh (p : Value → Bool) (w : World) (t : TypeId) (n c : Nat) : CAv p (w.alloc (.cells #[] t)) (.slice (some ⟨w.heap.size,0,none⟩) n c) := by
  intro g hg
  simp [Value.ownBlock] at hg
  subst hg
  exact CA.of_cells (heap_alloc_new w (.cells #[] t)) (by simp)
theorem RowA.fresh (base : Nat) (w : World) (K : Nat) (e : Nat → Rat) (hb : base ≤ w.heap.size) : RowA base (w.alloc (.cells #[] 30)) (.slice (some ⟨w.heap.size,0,none⟩) 0 0) 0 K e :=
  ⟨[],World.ownsRow_made w #[] 0 hb (Nat.zero_le _) (by simp),CAv.fresh _ _ _ _ _,fun j hj => by omega⟩
theorem RowA.below {base : Nat} {w w' : World} {v : Value} {n K : Nat} {e : Nat → Rat} (h : RowA base w v n K e) (hb : Below w.heap.size w w') : RowA base w' v n K e := by
  obtain ⟨xs,h1,h2,h3⟩ := h
  refine ⟨xs,ownsB h1 hb,h2.below h1 hb,fun j hj => ?_⟩
  obtain ⟨u0,u1,u2,u3,c0,c1,c2,c3,hq⟩ := h3 j hj
  exact ⟨u0,u1,u2,u3,c0,c1,c2,c3,hq.below hb⟩
theorem RowA.form {base : Nat} {w : World} {v : Value} {n K : Nat} {e : Nat → Rat} (h : RowA base w v n K e) : ∃ p c,v = .slice p n c ∧ n ≤ c ∧ c ≤ 9223372036854775807 := by
  obtain ⟨xs,h1,h2,h3⟩ := h
  rcases h1.2 with ⟨rfl,rfl⟩ | ⟨g,cap,cur,rfl,_,_,hc,hm,_⟩
  · exact ⟨none,0,rfl,by omega,by omega⟩
  · exact ⟨_,cap,rfl,hc,by unfold maxLen at hm;omega⟩
theorem add_zero_lit (g j : Nat) : (⟨g,0,none⟩ : Addr).add j = ⟨g,j,none⟩ := by unfold Addr.add;split <;> simp_all
theorem RowA.toQ {base : Nat} {w : World} {v : Value} {n K : Nat} {e : Nat → Rat} (h : RowA base w v n K e) : RowQ w v n K e := by
  obtain ⟨p,c,rfl,hc,hm⟩ := h.form
  obtain ⟨xs,h1,h2,h3⟩ := h
  refine ⟨p,c,rfl,hc,hm,fun hn => ?_⟩
  rcases h1.2 with ⟨_,rfl⟩ | ⟨g,cap,cur,he,_⟩
  · omega
  · cases he
    refine ⟨g,0,rfl,(h1.lt g rfl).2,fun i hi => ?_⟩
    obtain ⟨u0,u1,u2,u3,c0,c1,c2,c3,hq⟩ := h3 i hi
    have hx := h1.cells (g := g) rfl
    simp only [add_zero_lit] at hx
    exact ⟨u0,u1,u2,u3,by rw [Nat.zero_add];exact hx _ _ c0,by rw [Nat.zero_add];exact hx _ _ c1,by rw [Nat.zero_add];exact hx _ _ c2,by rw [Nat.zero_add];exact hx _ _ c3,hq⟩
def MatA (base : Nat) (w : World) (v : Value) (n C K : Nat) (e : Nat → Nat → Rat) : Prop :=
  ∃ xs : List Value,w.ownsRow base 25 1 v n xs ∧ CAv isSl w v ∧ ∀ j,j < n → ∃ s,xs[j]? = some s ∧ RowQ w s C K (e j)
theorem MatA.nil (base : Nat) (w : World) (C K : Nat) (e : Nat → Nat → Rat) : MatA base w (.slice none 0 0) 0 C K e :=
  ⟨[],World.ownsRow_nil _ _ _ _,fun g hg => by simp [Value.ownBlock] at hg,fun j hj => by omega⟩
theorem MatA.fresh (base : Nat) (w : World) (C K : Nat) (e : Nat → Nat → Rat) (hb : base ≤ w.heap.size) : MatA base (w.alloc (.cells #[] 25)) (.slice (some ⟨w.heap.size,0,none⟩) 0 0) 0 C K e :=
  ⟨[],World.ownsRow_made w #[] 0 hb (Nat.zero_le _) (by simp),CAv.fresh _ _ _ _ _,fun j hj => by omega⟩
theorem MatA.below {base : Nat} {w w' : World} {v : Value} {n C K : Nat} {e : Nat → Nat → Rat} (h : MatA base w v n C K e) (hb : Below w.heap.size w w') : MatA base w' v n C K e := by
  obtain ⟨xs,h1,h2,h3⟩ := h
  refine ⟨xs,ownsB h1 hb,h2.below h1 hb,fun j hj => ?_⟩
  obtain ⟨s,c0,hq⟩ := h3 j hj
  exact ⟨s,c0,hq.below hb⟩
theorem MatA.form {base : Nat} {w : World} {v : Value} {n C K : Nat} {e : Nat → Nat → Rat} (h : MatA base w v n C K e) : ∃ p c,v = .slice p n c ∧ n ≤ c ∧ c ≤ 9223372036854775807 := by
  obtain ⟨xs,h1,h2,h3⟩ := h
  rcases h1.2 with ⟨rfl,rfl⟩ | ⟨g,cap,cur,rfl,_,_,hc,hm,_⟩
  · exact ⟨none,0,rfl,by omega,by omega⟩
  · exact ⟨_,cap,rfl,hc,by unfold maxLen at hm;omega⟩
theorem MatA.toQ {base : Nat} {w : World} {v : Value} {n C K : Nat} {e : Nat → Nat → Rat} (h : MatA base w v n C K e) : MatQ w v n C K e := by
  obtain ⟨p,c,rfl,hc,hm⟩ := h.form
  obtain ⟨xs,h1,h2,h3⟩ := h
  refine ⟨p,c,rfl,hc,hm,fun hn => ?_⟩
  rcases h1.2 with ⟨_,rfl⟩ | ⟨g,cap,cur,he,_⟩
  · omega
  · cases he
    refine ⟨g,0,rfl,(h1.lt g rfl).2,fun i hi => ?_⟩
    obtain ⟨s,c0,hq⟩ := h3 i hi
    have hx := h1.cells (g := g) rfl
    simp only [add_zero_lit] at hx
    exact ⟨s,by rw [Nat.zero_add];exact hx _ _ c0,hq⟩
theorem RowA.step {base : Nat} {w w' : World} {v : Value} {n K : Nat} {e : Nat → Rat} {y0 y1 y2 y3 : Value} (hq : QC w y0 y1 y2 y3 K true (e n)) (hg : w.grownBy w' v.ownBlock) {xs : List Value} (h1 : w.ownsRow base 30 4 v n xs) (hv : CAv notU32 w v) (h3 : ∀ j,j < n → ∃ u0 u1 u2 u3,xs[j * 4]? = some u0 ∧ xs[j * 4 + 1]? = some u1 ∧ xs[j * 4 + 2]? = some u2 ∧ xs[j * 4 + 3]? = some u3 ∧ QC w u0 u1 u2 u3 K true (e j))
    {g cap : Nat} (h2 : w'.ownsRow base 30 4 (.slice (some ⟨g,0,none⟩) (n + 1) cap) (n + 1) (xs ++ [y0,y1,y2,y3])) (h4 : CA notU32 w' g) : RowA base w' (.slice (some ⟨g,0,none⟩) (n + 1) cap) (n + 1) K e := by
  refine ⟨_,h2,fun g' hg' => by simp [Value.ownBlock] at hg';subst hg';exact h4,fun j hj => ?_⟩
  have hl := h1.1
  by_cases e1 : j = n
  · subst e1
    refine ⟨y0,y1,y2,y3,?_,?_,?_,?_,hq.kept hg hv⟩
    · rw [List.getElem?_append_right (by omega),hl];simp
    · rw [List.getElem?_append_right (by omega),hl,show j * 4 + 1 - j * 4 = 1 by omega];rfl
    · rw [List.getElem?_append_right (by omega),hl,show j * 4 + 2 - j * 4 = 2 by omega];rfl
    · rw [List.getElem?_append_right (by omega),hl,show j * 4 + 3 - j * 4 = 3 by omega];rfl
  · obtain ⟨u0,u1,u2,u3,c0,c1,c2,c3,hq'⟩ := h3 j (by omega)
    exact ⟨u0,u1,u2,u3,by rw [List.getElem?_append_left (by omega)];exact c0,by rw [List.getElem?_append_left (by omega)];exact c1,by rw [List.getElem?_append_left (by omega)];exact c2,by rw [List.getElem?_append_left (by omega)];exact c3,hq'.kept hg hv⟩
theorem MatA.step {base : Nat} {w w' : World} {v s : Value} {n C K : Nat} {e : Nat → Nat → Rat} (hq : RowQ w s C K (e n)) (hg : w.grownBy w' v.ownBlock) {xs : List Value} (h1 : w.ownsRow base 25 1 v n xs) (hv : CAv isSl w v) (h3 : ∀ j,j < n → ∃ s,xs[j]? = some s ∧ RowQ w s C K (e j))
    {g cap : Nat} (h2 : w'.ownsRow base 25 1 (.slice (some ⟨g,0,none⟩) (n + 1) cap) (n + 1) (xs ++ [s])) (h4 : CA isSl w' g) : MatA base w' (.slice (some ⟨g,0,none⟩) (n + 1) cap) (n + 1) C K e := by
  refine ⟨_,h2,fun g' hg' => by simp [Value.ownBlock] at hg';subst hg';exact h4,fun j hj => ?_⟩
  have hl := h1.1
  by_cases e1 : j = n
  · subst e1
    exact ⟨s,by rw [List.getElem?_append_right (by omega),hl];simp,RowR.kept hq hg hv⟩
  · obtain ⟨s',c0,hq'⟩ := h3 j (by omega)
    exact ⟨s',by rw [List.getElem?_append_left (by omega)];exact c0,RowR.kept hq' hg hv⟩
theorem cell_news (w : World) (ys : List Value) (t : TypeId) : ∀ j u,ys[j]? = some u → (w.alloc (.cells ys.toArray t)).cell? ((⟨w.heap.size,0,none⟩ : Addr).add j) = some u := by
  intro j u hu
  rw [add_zero_lit]
  exact ((Bx.new w ys t).2 j u hu).1
theorem heapOld (w : World) (o : Obj) (i : Nat) (h : i < w.heap.size) : (w.alloc o).heap[i]? = w.heap[i]? := by
  show (w.heap.push o)[i]? = w.heap[i]?
  rw [Array.getElem?_push,if_neg (Nat.ne_of_lt h)]
theorem kept_alloc {w w1 : World} {row : Option Nat} {o : Obj} (hg : (w.alloc o).grownBy w1 row) (hr : row ≠ some w.heap.size) : w.grownBy w1 row :=
  ⟨hg.os,hg.tape,hg.output,Nat.le_trans (by simp) hg.size,fun k hk hne => (hg.block k (by simp;omega) hne).trans (heapOld w o k hk)⟩
section
variable {ops : Array Oper} {rest : List Oper} {o : Oper} {a : Act} {Q : Exit → Act → World → Prop}
theorem wpList_app_rat (hgd : o.guard = none) (s x : Operand) (ho : o.op = .call { callee := .builtin .append,args := #[s,x],argTypes := #[25,25] })
    (base n K : Nat) (e : Nat → Rat) (v y0 y1 y2 y3 : Value) (w : World) (T : TypeId) (hs : a.eval s = v) (h : RowA base w v n K e) (hq : QC w y0 y1 y2 y3 K true (e n)) (g0 : Nat) (hx : a.eval x = .slice (some ⟨g0,0,none⟩) 1 1) (hg0 : g0 = w.heap.size) (hn : n ≤ 1000000) (hbase : base ≤ w.heap.size)
    (hK : ∀ g cap w',RowA base w' (.slice (some ⟨g,0,none⟩) (n + 1) cap) (n + 1) K e → Below base w w' → wpList Tryz.prog ops Q rest (a.put o.dst (.slice (some ⟨g,0,none⟩) (n + 1) cap)) w') :
    wpList Tryz.prog ops Q (o :: rest) a (w.alloc (.cells #[y0,y1,y2,y3] T)) := by
  obtain ⟨i,hi,hzz⟩ := Option.map_eq_some_iff.1 infoRat
  simp only [Prod.mk.injEq] at hzz
  obtain ⟨hz,hsz,hb⟩ := hzz
  obtain ⟨xs,h1,h2,h3⟩ := h
  have hA : Below w.heap.size w (w.alloc (.cells #[y0,y1,y2,y3] T)) := (Below.refl _ _).alloc (Nat.le_refl _) _
  obtain ⟨z0,z1,z2,z3⟩ := hq.nu
  have hqo := hq.open
  refine wpList_append_ca (p := notU32) _ hgd s x _ ho base 30 i _ 4 64 underRats hi hz hsz hb rfl (by decide) (by decide) v n xs hs (ownsB h1 hA) (h2.below h1 hA) ⟨w.heap.size,0,none⟩ 1 1 [y0,y1,y2,y3] (hg0 ▸ hx) rfl (cell_news w [y0,y1,y2,y3] T)
    (by obtain ⟨_,_,_,_,_,_,_,_,rfl,rfl,rfl,rfl,_⟩ := hqo;simp [Value.oneCell']) (by intro u hu;simp at hu;rcases hu with rfl | rfl | rfl | rfl <;> assumption) (by omega) (by unfold maxLen;omega) (by omega) (by simp;omega) ?_
  intro g cap w' k1 k2 k3 k4
  have hr : v.ownBlock ≠ some w.heap.size := fun e1 => by have := (h1.lt _ e1).2;omega
  have kg := kept_alloc k2 hr
  exact hK g cap w' (RowA.step hq kg h1 h2 h3 k1 k3) ((Below.refl _ _).grown kg hbase (fun k e1 => (h1.lt _ e1).1))
theorem wpList_app_row (hgd : o.guard = none) (s x : Operand) (t : TypeId) (ho : o.op = .call { callee := .builtin .append,args := #[s,x],argTypes := #[t,t] }) (ht : Tryz.prog.underlying t = some (.slice 25))
    (base n C K : Nat) (e : Nat → Nat → Rat) (v y : Value) (w : World) (T : TypeId) (hs : a.eval s = v) (h : MatA base w v n C K e) (hq : RowQ w y C K (e n)) (g0 : Nat) (hx : a.eval x = .slice (some ⟨g0,0,none⟩) 1 1) (hg0 : g0 = w.heap.size) (hn : n ≤ 1000000) (hbase : base ≤ w.heap.size)
    (hK : ∀ g cap w',MatA base w' (.slice (some ⟨g,0,none⟩) (n + 1) cap) (n + 1) C K e → Below base w w' → wpList Tryz.prog ops Q rest (a.put o.dst (.slice (some ⟨g,0,none⟩) (n + 1) cap)) w') :
    wpList Tryz.prog ops Q (o :: rest) a (w.alloc (.cells #[y] T)) := by
  obtain ⟨i,hi,hzz⟩ := Option.map_eq_some_iff.1 infoRats
  simp only [Prod.mk.injEq] at hzz
  obtain ⟨hz,hsz,hb⟩ := hzz
  obtain ⟨xs,h1,h2,h3⟩ := h
  have hA : Below w.heap.size w (w.alloc (.cells #[y] T)) := (Below.refl _ _).alloc (Nat.le_refl _) _
  obtain ⟨yp,yc,rfl,_,_⟩ := hq.form
  refine wpList_append_ca (p := isSl) _ hgd s x _ ho base 25 i _ 1 24 ht hi hz hsz hb rfl (by decide) (by decide) v n xs hs (ownsB h1 hA) (h2.below h1 hA) ⟨w.heap.size,0,none⟩ 1 1 [_] (hg0 ▸ hx) rfl (cell_news w [_] T)
    (by simp [Value.oneCell']) (by simp [isSl]) (by omega) (by unfold maxLen;omega) (by omega) (by simp;omega) ?_
  intro g cap w' k1 k2 k3 k4
  have hr : v.ownBlock ≠ some w.heap.size := fun e1 => by have := (h1.lt _ e1).2;omega
  have kg := kept_alloc k2 hr
  exact hK g cap w' (MatA.step hq kg h1 h2 h3 k1 k3) ((Below.refl _ _).grown kg hbase (fun k e1 => (h1.lt _ e1).1))
end
end Go.Proofs.YtidfgdchcpmnfaaGreat
namespace Go.Proofs.YtidfgdchcpmnfaaGreat
open Go.RowKit
set_option maxRecDepth 100000
set_option maxHeartbeats 16000000
set_option linter.unusedSimpArgs false
set_option linter.unusedVariables false
def rotM (a b c d : Int) : Nat → Nat → Int
  | 0 => fun | 0 => a * a + b * b - c * c - d * d | 1 => 2 * (b * c - a * d) | _ => 2 * (b * d + a * c)
  | 1 => fun | 0 => 2 * (b * c + a * d) | 1 => a * a - b * b + c * c - d * d | _ => 2 * (c * d - a * b)
  | _ => fun | 0 => 2 * (b * d - a * c) | 1 => 2 * (c * d + a * b) | _ => a * a - b * b - c * c + d * d
def rotQ (a b c d : Int) (i j : Nat) : Rat := Rat.divInt (rotM a b c d i j) (normI a b c d)
theorem rotM_bound {a b c d : Int} (oa : okc a) (ob : okc b) (oc : okc c) (od : okc d) {i j : Nat} (hi : i < 3) (hj : j < 3) : -8796093022208 ≤ rotM a b c d i j ∧ rotM a b c d i j ≤ 8796093022208 := by
  obtain ⟨maa0,maa1⟩ := okc_mul oa oa
  obtain ⟨mab0,mab1⟩ := okc_mul oa ob
  obtain ⟨mac0,mac1⟩ := okc_mul oa oc
  obtain ⟨mad0,mad1⟩ := okc_mul oa od
  obtain ⟨mbb0,mbb1⟩ := okc_mul ob ob
  obtain ⟨mbc0,mbc1⟩ := okc_mul ob oc
  obtain ⟨mbd0,mbd1⟩ := okc_mul ob od
  obtain ⟨mcc0,mcc1⟩ := okc_mul oc oc
  obtain ⟨mcd0,mcd1⟩ := okc_mul oc od
  obtain ⟨mdd0,mdd1⟩ := okc_mul od od
  obtain rfl | rfl | rfl : i = 0 ∨ i = 1 ∨ i = 2 := by omega
  all_goals
    obtain rfl | rfl | rfl : j = 0 ∨ j = 1 ∨ j = 2 := by omega
    all_goals
      simp only [rotM]
      omega
theorem rotQ_rsz {a b c d : Int} (oa : okc a) (ob : okc b) (oc : okc c) (od : okc d) (hN : normI a b c d ≠ 0) {i j : Nat} (hi : i < 3) (hj : j < 3) : rsz (rotQ a b c d i j) ≤ 10 := by
  have h1 := rotM_bound oa ob oc od hi hj
  have h2 := normI_bound oa ob oc od
  exact Nat.le_trans (rsz_divInt _ _ hN (k := 3) (isz_le (by rw [BB_eq];omega)) (isz_le (by rw [BB_eq];omega))) (by omega)
theorem indexR_0 : ∀ (y0 y1 y2 y3 y4 y5 y6 y7 y8 : Value) (w : World),Sem.run Tryz.prog (Instr.index 76 (.agg #[y0,y1,y2,y3,y4,y5,y6,y7,y8]) (.int .i64 0)) w = .ok (.agg #[y0,y1,y2]) w := fun y0 y1 y2 y3 y4 y5 y6 y7 y8 w => by kernel_rfl
theorem indexC_0 : ∀ (y0 y1 y2 : Value) (w : World),Sem.run Tryz.prog (Instr.index 68 (.agg #[y0,y1,y2]) (.int .i64 0)) w = .ok y0 w := fun y0 y1 y2 w => by kernel_rfl
theorem indexR_1 : ∀ (y0 y1 y2 y3 y4 y5 y6 y7 y8 : Value) (w : World),Sem.run Tryz.prog (Instr.index 76 (.agg #[y0,y1,y2,y3,y4,y5,y6,y7,y8]) (.int .i64 1)) w = .ok (.agg #[y3,y4,y5]) w := fun y0 y1 y2 y3 y4 y5 y6 y7 y8 w => by kernel_rfl
theorem indexC_1 : ∀ (y0 y1 y2 : Value) (w : World),Sem.run Tryz.prog (Instr.index 68 (.agg #[y0,y1,y2]) (.int .i64 1)) w = .ok y1 w := fun y0 y1 y2 w => by kernel_rfl
theorem indexR_2 : ∀ (y0 y1 y2 y3 y4 y5 y6 y7 y8 : Value) (w : World),Sem.run Tryz.prog (Instr.index 76 (.agg #[y0,y1,y2,y3,y4,y5,y6,y7,y8]) (.int .i64 2)) w = .ok (.agg #[y6,y7,y8]) w := fun y0 y1 y2 y3 y4 y5 y6 y7 y8 w => by kernel_rfl
theorem indexC_2 : ∀ (y0 y1 y2 : Value) (w : World),Sem.run Tryz.prog (Instr.index 68 (.agg #[y0,y1,y2]) (.int .i64 2)) w = .ok y2 w := fun y0 y1 y2 w => by kernel_rfl
theorem indexM_any (a b c d : Int) (k : Nat) (hk : k < 3) : ∀ w : World,Sem.run Tryz.prog (Instr.index 76 (.agg #[.int .i64 (a * a + b * b - c * c - d * d),.int .i64 (2 * (b * c - a * d)),.int .i64 (2 * (b * d + a * c)),.int .i64 (2 * (b * c + a * d)),.int .i64 (a * a - b * b + c * c - d * d),.int .i64 (2 * (c * d - a * b)),.int .i64 (2 * (b * d - a * c)),.int .i64 (2 * (c * d + a * b)),.int .i64 (a * a - b * b - c * c + d * d)]) (.int .i64 (k : Nat))) w = .ok (.agg #[.int .i64 (rotM a b c d k 0),.int .i64 (rotM a b c d k 1),.int .i64 (rotM a b c d k 2)]) w := by
  intro w
  obtain rfl | rfl | rfl : k = 0 ∨ k = 1 ∨ k = 2 := by omega
  · exact indexR_0 _ _ _ _ _ _ _ _ _ w
  · exact indexR_1 _ _ _ _ _ _ _ _ _ w
  · exact indexR_2 _ _ _ _ _ _ _ _ _ w
theorem indexL_any (f : Nat → Int) (k : Nat) (hk : k < 3) : ∀ w : World,Sem.run Tryz.prog (Instr.index 68 (.agg #[.int .i64 (f 0),.int .i64 (f 1),.int .i64 (f 2)]) (.int .i64 (k : Nat))) w = .ok (.int .i64 (f k)) w := by
  intro w
  obtain rfl | rfl | rfl : k = 0 ∨ k = 1 ∨ k = 2 := by omega
  · exact indexC_0 _ _ _ w
  · exact indexC_1 _ _ _ w
  · exact indexC_2 _ _ _ w
theorem w64_in {x : Int} (h0 : -9223372036854775808 ≤ x) (h1 : x ≤ 9223372036854775807) : wrap64 x = x := by unfold wrap64;omega
theorem indexMw_any {a b c d : Int} (oa : okc a) (ob : okc b) (oc : okc c) (od : okc d) (k : Nat) (hk : k < 3) : ∀ w : World,Sem.run Tryz.prog (Instr.index 76 (.agg #[.int .i64 (wrap64 (wrap64 (wrap64 (wrap64 (a * a) + wrap64 (b * b)) - wrap64 (c * c)) - wrap64 (d * d))),.int .i64 (wrap64 (2 * wrap64 (wrap64 (b * c) - wrap64 (a * d)))),.int .i64 (wrap64 (2 * wrap64 (wrap64 (b * d) + wrap64 (a * c)))),.int .i64 (wrap64 (2 * wrap64 (wrap64 (b * c) + wrap64 (a * d)))),.int .i64 (wrap64 (wrap64 (wrap64 (wrap64 (a * a) - wrap64 (b * b)) + wrap64 (c * c)) - wrap64 (d * d))),.int .i64 (wrap64 (2 * wrap64 (wrap64 (c * d) - wrap64 (a * b)))),.int .i64 (wrap64 (2 * wrap64 (wrap64 (b * d) - wrap64 (a * c)))),.int .i64 (wrap64 (2 * wrap64 (wrap64 (c * d) + wrap64 (a * b)))),.int .i64 (wrap64 (wrap64 (wrap64 (wrap64 (a * a) - wrap64 (b * b)) - wrap64 (c * c)) + wrap64 (d * d)))]) (.int .i64 (k : Nat))) w = .ok (.agg #[.int .i64 (rotM a b c d k 0),.int .i64 (rotM a b c d k 1),.int .i64 (rotM a b c d k 2)]) w := by
  obtain ⟨maa0,maa1⟩ := okc_mul oa oa
  obtain ⟨mab0,mab1⟩ := okc_mul oa ob
  obtain ⟨mac0,mac1⟩ := okc_mul oa oc
  obtain ⟨mad0,mad1⟩ := okc_mul oa od
  obtain ⟨mbb0,mbb1⟩ := okc_mul ob ob
  obtain ⟨mbc0,mbc1⟩ := okc_mul ob oc
  obtain ⟨mbd0,mbd1⟩ := okc_mul ob od
  obtain ⟨mcc0,mcc1⟩ := okc_mul oc oc
  obtain ⟨mcd0,mcd1⟩ := okc_mul oc od
  obtain ⟨mdd0,mdd1⟩ := okc_mul od od
  have hwr0 : wrap64 (a * a) = a * a := w64_in (by omega) (by omega)
  have hwr1 : wrap64 (b * b) = b * b := w64_in (by omega) (by omega)
  have hwr2 : wrap64 (c * c) = c * c := w64_in (by omega) (by omega)
  have hwr3 : wrap64 (d * d) = d * d := w64_in (by omega) (by omega)
  have hwr4 : wrap64 (b * c) = b * c := w64_in (by omega) (by omega)
  have hwr5 : wrap64 (a * d) = a * d := w64_in (by omega) (by omega)
  have hwr6 : wrap64 (b * d) = b * d := w64_in (by omega) (by omega)
  have hwr7 : wrap64 (a * c) = a * c := w64_in (by omega) (by omega)
  have hwr8 : wrap64 (c * d) = c * d := w64_in (by omega) (by omega)
  have hwr9 : wrap64 (a * b) = a * b := w64_in (by omega) (by omega)
  have hwr10 : wrap64 (a * a + b * b) = a * a + b * b := w64_in (by omega) (by omega)
  have hwr11 : wrap64 (a * a - b * b) = a * a - b * b := w64_in (by omega) (by omega)
  have hwr12 : wrap64 (a * a + b * b - c * c) = a * a + b * b - c * c := w64_in (by omega) (by omega)
  have hwr13 : wrap64 (a * a - b * b + c * c) = a * a - b * b + c * c := w64_in (by omega) (by omega)
  have hwr14 : wrap64 (a * a - b * b - c * c) = a * a - b * b - c * c := w64_in (by omega) (by omega)
  have hwr15 : wrap64 (a * a + b * b - c * c - d * d) = a * a + b * b - c * c - d * d := w64_in (by omega) (by omega)
  have hwr16 : wrap64 (a * a - b * b + c * c - d * d) = a * a - b * b + c * c - d * d := w64_in (by omega) (by omega)
  have hwr17 : wrap64 (a * a - b * b - c * c + d * d) = a * a - b * b - c * c + d * d := w64_in (by omega) (by omega)
  have hwr18 : wrap64 (b * c - a * d) = b * c - a * d := w64_in (by omega) (by omega)
  have hwr19 : wrap64 (2 * (b * c - a * d)) = 2 * (b * c - a * d) := w64_in (by omega) (by omega)
  have hwr20 : wrap64 (b * d + a * c) = b * d + a * c := w64_in (by omega) (by omega)
  have hwr21 : wrap64 (2 * (b * d + a * c)) = 2 * (b * d + a * c) := w64_in (by omega) (by omega)
  have hwr22 : wrap64 (b * c + a * d) = b * c + a * d := w64_in (by omega) (by omega)
  have hwr23 : wrap64 (2 * (b * c + a * d)) = 2 * (b * c + a * d) := w64_in (by omega) (by omega)
  have hwr24 : wrap64 (c * d - a * b) = c * d - a * b := w64_in (by omega) (by omega)
  have hwr25 : wrap64 (2 * (c * d - a * b)) = 2 * (c * d - a * b) := w64_in (by omega) (by omega)
  have hwr26 : wrap64 (b * d - a * c) = b * d - a * c := w64_in (by omega) (by omega)
  have hwr27 : wrap64 (2 * (b * d - a * c)) = 2 * (b * d - a * c) := w64_in (by omega) (by omega)
  have hwr28 : wrap64 (c * d + a * b) = c * d + a * b := w64_in (by omega) (by omega)
  have hwr29 : wrap64 (2 * (c * d + a * b)) = 2 * (c * d + a * b) := w64_in (by omega) (by omega)
  intro w
  simp only [hwr0,hwr1,hwr2,hwr3,hwr4,hwr5,hwr6,hwr7,hwr8,hwr9,hwr10,hwr11,hwr12,hwr13,hwr14,hwr15,hwr16,hwr17,hwr18,hwr19,hwr20,hwr21,hwr22,hwr23,hwr24,hwr25,hwr26,hwr27,hwr28,hwr29]
  exact indexM_any a b c d k hk w
def GMatC (R C K : Nat) (e : Nat → Nat → Rat) (w : World) (x : Ending) (w' : World) : Prop := ∃ v,x = .returned (.tuple #[v,.int .i64 0]) ∧ MatQ w' v R C K e ∧ Below w.heap.size w w'
theorem matrix_ok (a b c d : Int) (w : World) (hq : qcode a b c d = 0) :
    Calls Tryz.prog 16 #[.agg #[.int .i64 a,.int .i64 b,.int .i64 c,.int .i64 d]] w (GMatC 3 3 10 (rotQ a b c d) w) := by
  obtain ⟨hne,oa,ob,oc,od⟩ := qcode_ok hq
  have HN : Hid (normI a b c d ≠ 0) := Lib.hid (by have := normI_pos hne;omega)
  have HO := Lib.hid (And.intro oa (And.intro ob (And.intro oc od)))
  have HZ : Hid (∀ i j,i < 3 → j < 3 → rsz (rotQ a b c d i j) ≤ 10) := Lib.hid (fun i j hi hj => rotQ_rsz oa ob oc od HN.out hi hj)
  have hnb := normI_bound oa ob oc od
  have HIX := Lib.hid (indexMw_any oa ob oc od)
  have HIL := Lib.hid indexL_any
  obtain ⟨maa0,maa1⟩ := okc_mul oa oa
  obtain ⟨mab0,mab1⟩ := okc_mul oa ob
  obtain ⟨mac0,mac1⟩ := okc_mul oa oc
  obtain ⟨mad0,mad1⟩ := okc_mul oa od
  obtain ⟨mbb0,mbb1⟩ := okc_mul ob ob
  obtain ⟨mbc0,mbc1⟩ := okc_mul ob oc
  obtain ⟨mbd0,mbd1⟩ := okc_mul ob od
  obtain ⟨mcc0,mcc1⟩ := okc_mul oc oc
  obtain ⟨mcd0,mcd1⟩ := okc_mul oc od
  obtain ⟨mdd0,mdd1⟩ := okc_mul od od
  have hqt : (qcode a b c d == 0) = true := by simp [hq]
  have hqt2 : (qcode a b c d != 0) = false := by simp [hq]
  have hB0 : Below w.heap.size w (w.alloc (.cells #[.int .i64 a,.int .i64 b,.int .i64 c,.int .i64 d] 33)) := (Below.refl _ _).alloc (Nat.le_refl _) _
  have xa : Bx (w.alloc (.cells #[.int .i64 a,.int .i64 b,.int .i64 c,.int .i64 d] 33)) w.heap.size [.int .i64 a,.int .i64 b,.int .i64 c,.int .i64 d] := by have := Bx.new w [.int .i64 a,.int .i64 b,.int .i64 c,.int .i64 d] 33;simpa using this
  clear oa ob oc od hne hq
  go_enter Tryz.func16,Tryz.ntmps16
  go_wp2_with fail
  refine (check_any a b c d _).mono ?_
  rintro x w1 ⟨rfl,hb1⟩
  have ya := xa.to hb1
  have hB1 := Below.tr hB0 hb1
  have hz1 := hB1.size
  have y0 := ya.c0
  have y1 := ya.c1
  have y2 := ya.c2
  have y3 := ya.c3
  go_wp2_with fail
  go_region
  all_goals
    clear maa0 maa1 mab0 mab1 mac0 mac1 mad0 mad1 mbb0 mbb1 mbc0 mbc1 mbd0 mbd1 mcc0 mcc1 mcd0 mcd1 mdd0 mdd1
    go_wp2_with fail
    go_loopw [129,10,12,13,15,16,17,130,131,132,133,134,135,136,137,138,139,140,141,142,143,144,145,146,147,148,149,150,151,152] (fun i v _ _ _ _ _ _ _ _ _ _ _ _ _ _ _ _ _ _ _ _ _ _ _ _ _ _ _ _ wr => ∃ k : Nat,k ≤ 3 ∧ i = .int .i64 (k : Nat) ∧ MatA w1.heap.size wr v k 3 10 (rotQ a b c d) ∧ Below w1.heap.size w1 wr) (fun i _ _ _ _ _ _ _ _ _ _ _ _ _ _ _ _ _ _ _ _ _ _ _ _ _ _ _ _ _ _ => 3 - (intOf i).toNat)
    case atStart => exact ⟨0,by omega,rfl,MatA.nil _ _ _ _ _,((Below.refl _ _).alloc (Nat.le_refl _) _).drew⟩
    case round =>
      obtain ⟨k,hk,rfl,hM,hB⟩ := hrel
      clear y0 y1 y2 y3
      have hA := ya.to hB
      have hzB := hB.size
      obtain ⟨op,oc,rfl,hoc1,hoc2⟩ := hM.form
      by_cases hlt : k < 3
      · have hkd : decide ((k : Int) < 3) = true := by simp;omega
        have hix := HIX.out k hlt
        obtain ⟨wo,rfl⟩ : ∃ wo : World,wo = wr := ⟨_,rfl⟩
        go_wp2_with fail
        go_loopw [133,13,15,16,17,134,135,136,137,138,139,140,141,142,143,144,145,146,147] (fun i v _ _ _ _ _ _ _ _ _ _ _ _ _ _ _ _ _ wq => ∃ j : Nat,j ≤ 3 ∧ i = .int .i64 (j : Nat) ∧ RowA wo.heap.size wq v j 10 (rotQ a b c d k) ∧ Below wo.heap.size wo wq) (fun i _ _ _ _ _ _ _ _ _ _ _ _ _ _ _ _ _ _ _ => 3 - (intOf i).toNat)
        case atStart => exact ⟨0,by omega,rfl,RowA.nil _ _ _ _,(Below.refl _ _).alloc (Nat.le_refl _) _⟩
        case round =>
          clear hix
          obtain ⟨j,hj,rfl,hR,hBq⟩ := hrel
          have hzq := hBq.size
          obtain ⟨lp,lc,rfl,hlc1,hlc2⟩ := hR.form
          by_cases hlj : j < 3
          · have hkj : decide ((j : Int) < 3) = true := by simp;omega
            have hil := HIL.out (rotM a b c d k) j hlj
            have hAq := hA.to hBq
            have y0 := hAq.c0
            have y1 := hAq.c1
            have y2 := hAq.c2
            have y3 := hAq.c3
            have HMB := Lib.hid (rotM_bound HO.out.1 HO.out.2.1 HO.out.2.2.1 HO.out.2.2.2 hlt hlj)
            go_wp2_with fail
            refine (norm_any a b c d _ HO.out.1 HO.out.2.1 HO.out.2.2.1 HO.out.2.2.2).mono ?_
            rintro x w2 ⟨rfl,hb2⟩
            clear y0 y1 y2 y3 hil
            go_wp2_with fail
            refine (ofQ_any (rotM a b c d k j) (normI a b c d) _ (by have := HMB.out;omega) (by have := HMB.out;omega) (by omega) (by omega) HN.out).mono ?_
            rintro x w3 ⟨v3,rfl,hi3,hb3⟩
            obtain ⟨g3,p3,n3,c3,h3,o3,m3,e3,rfl⟩ := hi3.form
            have hBr := Below.tr hb2 hb3
            have HRr := Lib.hid (hR.below (Below.al hBr (.cells #[.bool g3,.slice p3 n3 c3,.bool h3,.slice o3 m3 e3] 30)))
            have HQr : Hid (QC (w3.alloc (.cells #[.bool g3,.slice p3 n3 c3,.bool h3,.slice o3 m3 e3] 30)) (.bool g3) (.slice p3 n3 c3) (.bool h3) (.slice o3 m3 e3) 10 true (rotQ a b c d k j)) := Lib.hid (QC.of (hi3.below ((Below.refl _ _).alloc (Nat.le_refl _) _)) (HZ.out k j hlt hlj))
            have hz3 := hBr.size
            go_wp2_with (at_builtin;refine wpList_app_rat rfl _ _ rfl wo.heap.size j 10 (rotQ a b c d k) (.slice lp j lc) _ _ _ _ _ _ rfl HRr.out HQr.out _ rfl (by simp) (by omega) (by simp;omega) ?_)
            intro g4 cap4 w4 hR4 hb4
            have hB4 : Below wo.heap.size wo w4 := (hBq.trans ((Below.al hBr (.cells #[.bool g3,.slice p3 n3 c3,.bool h3,.slice o3 m3 e3] 30)).mono hzq)).trans hb4
            go_wp2_with fail
            go_roundw
            case rel => exact ⟨j + 1,by omega,by go_num,hR4,hB4⟩
            case measure => simp [intOf];omega
          · obtain rfl : j = 3 := by omega
            have hRQ := hR.toQ
            have hM2 := hM.below hBq
            go_wp2_with (at_builtin;refine wpList_app_row rfl _ _ _ rfl underMat w1.heap.size k 3 10 (rotQ a b c d) (.slice op k oc) _ _ _ rfl hM2 hRQ _ rfl rfl (by omega) (by omega) ?_)
            intro g4 cap4 w4 hM4 hb4
            have hB4 : Below w1.heap.size w1 w4 := (hB.trans (hBq.mono hzB)).trans hb4
            go_wp2_with fail
            go_roundw
            case rel => exact ⟨k + 1,by omega,by go_num,hM4,hB4⟩
            case measure => simp [intOf];omega
      · obtain rfl : k = 3 := by omega
        have HM := hM.toQ
        go_wp2_with fail
        go_ret2
        exact ⟨_,rfl,HM,Below.tr hB1 hB⟩
end Go.Proofs.YtidfgdchcpmnfaaGreat
namespace Go.Proofs.YtidfgdchcpmnfaaGreat
open Go.RowKit
set_option linter.unusedSimpArgs false
set_option linter.unusedVariables false
theorem gseq_dvd {xs : Nat → Int} : ∀ k j,j < k → gseq xs k ∣ xs j
  | 0,j,h => by omega
  | k + 1,j,h => by
    show ((Int.gcd (gseq xs k) (xs k) : Nat) : Int) ∣ xs j
    by_cases e : j = k
    · subst e;exact Int.gcd_dvd_right ..
    · exact Int.dvd_trans (Int.gcd_dvd_left ..) (gseq_dvd k j (by omega))
theorem primG_dvd {xs : Nat → Int} {j : Nat} (hj : j < 4) : primG xs ∣ xs j := by
  unfold primG
  split
  · exact Int.neg_dvd.2 (gseq_dvd 4 j hj)
  · exact gseq_dvd 4 j hj
theorem primN_isz {xs : Nat → Int} {k K : Nat} (hk : k < 4) (hG : primG xs ≠ 0) (h : isz (xs k) ≤ K) : isz ((xs k).fdiv (primG xs)) ≤ K := Nat.le_trans (isz_fdiv_dvd hG (primG_dvd hk)) h
end Go.Proofs.YtidfgdchcpmnfaaGreat
