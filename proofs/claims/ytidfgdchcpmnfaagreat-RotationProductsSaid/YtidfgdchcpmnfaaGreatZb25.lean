/-
  Lemmas for the statements about rotations, part 25 of 51.
-/
import Derived.Test.YtidfgdchcpmnfaaGreatZb03
import Derived.Test.YtidfgdchcpmnfaaGreatZb09
import Derived.Test.YtidfgdchcpmnfaaGreatZb10
import Derived.Test.YtidfgdchcpmnfaaGreatZb18
namespace Go.Proofs.YtidfgdchcpmnfaaGreat
open Go.RowKit Go.Shelf
set_option maxRecDepth 100000
set_option maxHeartbeats 4000000
set_option linter.unusedSimpArgs false
set_option linter.unusedVariables false
attribute [local go_sem] Oper.semAt_some
def smallV (x : Int) : Int := if -9223372036854775808 ≤ x ∧ x < 9223372036854775808 then x else 0
def smallB (x : Int) : Bool := decide (-9223372036854775808 ≤ x ∧ x < 9223372036854775808)
def top63 : Nat := 9223372036854775808
theorem top63_eq : top63 = 9223372036854775808 := rfl
structure SBx (B NB : Nat) (b : Bool) (v z : Int) (r : Bool) (W : World) : Prop where
  q : W.cell? ⟨B,0,none⟩ = some (.bool b)
  c2 : W.cell? ⟨B + 1,0,none⟩ = some (.int .i64 z)
  f2 : W.frozen? ⟨B + 1,0,none⟩ = false
  c3 : W.cell? ⟨B + 1 + 1,0,none⟩ = some (.bool r)
  f3 : W.frozen? ⟨B + 1 + 1,0,none⟩ = false
  n : W.cell? ⟨NB,0,none⟩ = some (.int .u64 v)
  fn : W.frozen? ⟨NB,0,none⟩ = false
theorem SBx.kept {B NB : Nat} {b r : Bool} {v z : Int} {A W : World} {row : Option Nat} (hs : SBx B NB b v z r A) (hg : A.grownBy W row) (hr : ∀ k,row = some k → ∃ o,A.heap[k]? = some o ∧ o.isCells = false) : SBx B NB b v z r W :=
  ⟨cell_kept hs.q hg hr,cell_kept hs.c2 hg hr,(frozen_kept hs.c2 hg hr).trans hs.f2,cell_kept hs.c3 hg hr,(frozen_kept hs.c3 hg hr).trans hs.f3,cell_kept hs.n hg hr,(frozen_kept hs.n hg hr).trans hs.fn⟩
theorem SBx.setN {B NB : Nat} {b r : Bool} {v z : Int} {W : World} (h : SBx B NB b v z r W) (hn : B + 1 + 1 < NB) (v' : Int) : SBx B NB b v' z r (W.setCell ⟨NB,0,none⟩ (.int .u64 v')) := by
  refine ⟨?_,?_,?_,?_,?_,?_,?_⟩
  · rw [World.cell?_setCell_far _ _ _ _ (by simp;omega)];exact h.q
  · rw [World.cell?_setCell_far _ _ _ _ (by simp;omega)];exact h.c2
  · rw [World.frozen?_setCell];exact h.f2
  · rw [World.cell?_setCell_far _ _ _ _ (by simp;omega)];exact h.c3
  · rw [World.frozen?_setCell];exact h.f3
  · exact World.cell?_setCell_same' _ _ _ (by rw [h.n];rfl)
  · rw [World.frozen?_setCell];exact h.fn
theorem SBx.setR {B NB : Nat} {b r : Bool} {v z : Int} {W : World} (h : SBx B NB b v z r W) (hn : B + 1 + 1 < NB) (z' : Int) (r' : Bool) : SBx B NB b v z' r' ((W.setCell ⟨B + 1,0,none⟩ (.int .i64 z')).setCell ⟨B + 1 + 1,0,none⟩ (.bool r')) := by
  refine ⟨?_,?_,?_,?_,?_,?_,?_⟩
  · rw [World.cell?_setCell_far _ _ _ _ (by simp;omega),World.cell?_setCell_far _ _ _ _ (by simp)];exact h.q
  · rw [World.cell?_setCell_far _ _ _ _ (by simp)];exact World.cell?_setCell_same' _ _ _ (by rw [h.c2];rfl)
  · rw [World.frozen?_setCell,World.frozen?_setCell];exact h.f2
  · exact World.cell?_setCell_same' _ _ _ (by rw [World.cell?_setCell_far _ _ _ _ (by simp)];rw [h.c3];rfl)
  · rw [World.frozen?_setCell,World.frozen?_setCell];exact h.f3
  · rw [World.cell?_setCell_far _ _ _ _ (by simp;omega),World.cell?_setCell_far _ _ _ _ (by simp;omega)];exact h.n
  · rw [World.frozen?_setCell,World.frozen?_setCell];exact h.fn
theorem wrap_u64S {k : Nat} (h : k ≤ 18446744073709551615) : IntKind.u64.wrap (k : Int) = k := by simp [IntKind.wrap,IntKind.bits,IntKind.signed];omega
theorem wrap_u64I {z : Int} (h0 : 0 ≤ z) (h1 : z ≤ 18446744073709551615) : IntKind.u64.wrap z = z := by simp [IntKind.wrap,IntKind.bits,IntKind.signed];omega
theorem wrap_i64S {k : Nat} (h : k ≤ 9223372036854775807) : IntKind.i64.wrap (k : Int) = k := by simp [IntKind.wrap,IntKind.bits,IntKind.signed];omega
theorem wrap_neg63 {A : Nat} (h0 : 0 < A) (h1 : A ≤ 9223372036854775808) : IntKind.i64.wrap (IntKind.u64.wrap (-(A : Int))) = -(A : Int) := by simp [IntKind.wrap,IntKind.bits,IntKind.signed];omega
theorem hval_le_all {l : List Nat} (hl : Low l) {pre : List (Fin l.length)} (h : IsBack l.length pre) (hle : pre.length ≤ l.length) : hval l pre ≤ val l := by
  rw [hval_back h hle]
  have e := val_append (l.take (l.length - pre.length)) (l.drop (l.length - pre.length))
  rw [List.take_append_drop] at e
  have h1 : 1 ≤ BB ^ (l.take (l.length - pre.length)).length := Nat.pow_pos BB_pos
  have h2 : val (l.drop (l.length - pre.length)) ≤ BB ^ (l.take (l.length - pre.length)).length * val (l.drop (l.length - pre.length)) := Nat.le_mul_of_pos_left _ h1
  omega
theorem small_in (x : Int) (b : Bool) (p : Option Addr) (n c : Nat) (w : World) (hv : Raw w (.agg #[.bool b,.slice p n c]) x) (hlen : (dig x.natAbs).length ≤ 3) (hbx : x ≠ 0 → b = decide (x < 0)) :
    CallsIn Fence.wide 3 Tryz.prog 135 #[.agg #[.bool b,.slice p n c]] w fun e W' => e = .returned (.tuple #[.int .i64 (smallV x),.bool (smallB x)]) ∧ Below w.heap.size w W' := by
  have hro : Fence.wide.round = none := rfl
  refine callsIn_of_wp_marks Tryz.func135 rfl trivial ?_ hro
  simp only [Tryz.ntmps135,List.size_toArray,List.length_cons,List.length_nil,Nat.reduceAdd,Nat.reduceSub,Array.replicate_succ,Array.replicate_zero,List.push_toArray,List.append_toArray,List.nil_append,List.cons_append]
  have hd3 : decide ((3 : Int) < (dig x.natAbs).length) = false := by simp;omega
  have hv1 := ((hv.alloc (.cells #[.bool b,.slice p n c] 28)).alloc (.cells #[.int .i64 0] 3)).alloc (.cells #[.bool false] 4)
  have q0 : Bx (((w.alloc (.cells #[.bool b,.slice p n c] 28)).alloc (.cells #[.int .i64 0] 3)).alloc (.cells #[.bool false] 4)) w.heap.size [.bool b,.slice p n c] := ((Bx.new w [.bool b,.slice p n c] 28).alloc _).alloc _
  have q1 : Bx (((w.alloc (.cells #[.bool b,.slice p n c] 28)).alloc (.cells #[.int .i64 0] 3)).alloc (.cells #[.bool false] 4)) (w.heap.size + 1) [.int .i64 0] := by simpa using (Bx.new (w.alloc (.cells #[.bool b,.slice p n c] 28)) [.int .i64 0] 3).alloc (.cells #[.bool false] 4)
  have q2 : Bx (((w.alloc (.cells #[.bool b,.slice p n c] 28)).alloc (.cells #[.int .i64 0] 3)).alloc (.cells #[.bool false] 4)) (w.heap.size + 1 + 1) [.bool false] := by simpa using Bx.new ((w.alloc (.cells #[.bool b,.slice p n c] 28)).alloc (.cells #[.int .i64 0] 3)) [.bool false] 4
  have hB0 : Below w.heap.size w (((w.alloc (.cells #[.bool b,.slice p n c] 28)).alloc (.cells #[.int .i64 0] 3)).alloc (.cells #[.bool false] 4)) := (((Below.refl _ _).alloc (Nat.le_refl _) _).alloc (by simp) _).alloc (by simp;omega) _
  gi_wp2_with (refine ⟨trivial,?_⟩;gi_at_call 119;refine (callsIn_wide.2 (groups_any _ x _ hv1)).mono ?_;rintro e w1 ⟨s1,rfl,hs1,hb1⟩;obtain ⟨p1,c1,rfl,hl1,hm1⟩ := hs1.form)
  gi_wp2_with (refine ⟨trivial,?_⟩;gi_at_call 164;refine (backward_in Fence.wide 2 trivial hro _ _ _ _).mono ?_;rintro e w' ⟨rfl,rfl⟩)
  have hlow := dig_low x.natAbs
  have HX := Lib.hid (val_dig x.natAbs)
  have HC := Lib.hid (dig_canon x.natAbs)
  have k0 := q0.to hb1
  have k1 := q1.to hb1
  have k2 := q2.to hb1
  have hBw1 := hB0.trans (hb1.mono (by simp;omega))
  have hz1 := k2.1
  clear hv hv1 q0 q1 q2 hB0 hb1
  generalize hll : dig x.natAbs = l at *
  have bN := Bx.new w1 [.int .u64 0] 109
  have bS := Boxed.new (w1.alloc (.cells #[.int .u64 0] 109)) 26 (.slice p1 l.length c1)
  rw [World.size_alloc] at bS
  have hA : Below w1.heap.size w1 ((w1.alloc (.cells #[.int .u64 0] 109)).alloc (.cells #[.slice p1 l.length c1] 26)) := ((Below.refl _ w1).alloc (Nat.le_refl _) _).alloc (by simp) _
  refine wpIn_rangeFunc_ownG (n := 3) (α := Fin l.length) hro (by omega) (gf := 178) (lb := #[.pointer (some ⟨w1.heap.size + 1,0,none⟩)]) rfl trivial (enters_of Tryz.func178 (by kernel_rfl) rfl)
    (back_stops Fence.wide 2 trivial hro (by omega) (w1.heap.size + 1) w1.heap.size _ l _ (by simp) (by simp;omega) bS.cell (hs1.b.below hA)) (fun h k => KB.trans h k) (KB.b (by simp;omega) (by simp)) (Below.refl _ _) (fun _ => rfl)
    (fun (pre : List (Fin l.length)) W => (SBx w.heap.size w1.heap.size b (hval l pre : Nat) 0 false W ∧ hval l pre ≤ top63) ∧ Below w.heap.size w W)
    (fun cd (pre : List (Fin l.length)) W => (cd = .ret ∧ (∃ v,SBx w.heap.size w1.heap.size b v 0 false W) ∧ top63 < hval l pre) ∧ Below w.heap.size w W)
    (OwnFrom.and (Own.from (fun s A B row hs hg hr => ⟨hs.1.kept hg hr,hs.2⟩) _) (ownFrom_below (Nat.le_refl _) (by simp;omega)))
    (fun c => OwnFrom.and (Own.from (fun s A B row hs hg hr => by obtain ⟨hc,⟨v,h1⟩,h2⟩ := hs;exact ⟨hc,⟨v,h1.kept hg hr⟩,h2⟩) _) (ownFrom_below (Nat.le_refl _) (by simp;omega)))
    ⟨⟨by
        have kk0 := k0.to hA
        have kk1 := k1.to hA
        have kk2 := k2.to hA
        have nn := bN.alloc (.cells #[.slice p1 l.length c1] 26)
        exact ⟨kk0.c0,kk1.c0,kk1.f0,kk2.c0,kk2.f0,nn.c0,nn.f0⟩,by simp [hval,top63]⟩,hBw1.trans (hA.mono (by omega))⟩
    (fun (x : Fin l.length) => { tmps := #[.agg #[.bool b,.slice p n c],.pointer (some ⟨w.heap.size,0,none⟩),.pointer (some ⟨w.heap.size + 1,0,none⟩),.pointer (some ⟨w.heap.size + 1 + 1,0,none⟩),.slice p1 l.length c1,.pointer (some ⟨w1.heap.size,0,none⟩),undef,.int .u32 (gr l x.1 : Nat),.agg #[.bool b,.slice p n c],.slice p1 l.length c1,.slice p1 l.length c1,.int .i64 (l.length : Nat),.bool false,.slice p1 l.length c1,.func (.func 178) #[] #[.pointer (some ⟨w1.heap.size + 1,0,none⟩)],.int .i64 (x.1 : Nat),.int .u32 (gr l x.1 : Nat),undef,undef,undef,undef,undef,undef,undef,undef,undef,undef,undef,undef,undef,undef,undef,undef,undef,undef,undef,undef,undef,undef,undef,undef,undef,undef,undef],defers := [] }) ?assign ?body ?done ?stop
  case assign =>
    intro l x W K hK
    gi_wp2
    exact hK
  case body =>
    rintro lo pre y W ⟨⟨hS,hT⟩,hB⟩ hpl
    have hg := gr_le hlow y.1
    have HS := Lib.hid (hval_snoc l pre y)
    obtain ⟨hv,hhv⟩ : ∃ hv,hval l pre = hv := ⟨_,rfl⟩
    rw [hhv] at hS hT HS
    obtain ⟨g,hgg⟩ : ∃ g,gr l y.1 = g := ⟨_,rfl⟩
    rw [hgg] at hg HS ⊢
    have c1' := hS.n
    have f1' := hS.fn
    have c2' := hS.c2
    have f2' := hS.f2
    have c3' := hS.c3
    have f3' := hS.f3
    obtain ⟨m,hm⟩ : ∃ m : Nat,(9223372036854775808 : Int) - g = m := ⟨9223372036854775808 - g,by omega⟩
    obtain ⟨t,ht⟩ : ∃ t : Nat,(m : Int) / 1000000000 = t := ⟨m / 1000000000,by simp⟩
    have hmn : m + g = 9223372036854775808 := by omega
    have htn : m / 1000000000 = t := by omega
    have ht9 : t ≤ 9223372036 := by omega
    by_cases hle : hv ≤ t
    · have hv9 : hv ≤ 9223372036 := by omega
      have hs9 : hv * 1000000000 + g ≤ 9223372036854775808 := by omega
      have d1 : decide ((t : Int) < hv) = false := by simp;omega
      have d2 : decide (t < hv) = false := by simp;omega
      have HT := Lib.hid (show hv * BB + g ≤ top63 by rw [BB_eq,top63_eq];exact hs9)
      have e1 : IntKind.u64.wrap ((hv : Int) * 1000000000) = (hv : Int) * 1000000000 := wrap_u64I (by omega) (by omega)
      have e2 : IntKind.u64.wrap ((hv : Int) * 1000000000 + g) = (hv : Int) * 1000000000 + g := wrap_u64I (by omega) (by omega)
      have e3 : IntKind.u64.wrap (m : Int) = m := wrap_u64S (by omega)
      have e4 : IntKind.u64.wrap (t : Int) = t := wrap_u64S (by omega)
      clear hmn htn hs9 hT
      gi_wp2
      exact ⟨(KeepsOthers.setCell _ _ _).from _,KB.setCell (p := ⟨w1.heap.size,0,none⟩) (Nat.le_refl _) (by simp) _,⟨by rw [HS.out,BB_eq];simpa using hS.setN hz1 ((hv : Int) * 1000000000 + g),by rw [HS.out];exact HT.out⟩,hB.setCell (p := ⟨w1.heap.size,0,none⟩) (by simp;omega) _⟩
    · have d1 : decide ((t : Int) < hv) = true := by simp;omega
      have d2 : decide (t < hv) = true := by simp;omega
      have e3 : IntKind.u64.wrap (m : Int) = m := wrap_u64S (by omega)
      have e4 : IntKind.u64.wrap (t : Int) = t := wrap_u64S (by omega)
      have HT := Lib.hid (show top63 < hv * BB + g by rw [BB_eq,top63_eq];omega)
      clear hmn htn hT hle
      gi_wp2
      exact ⟨((KeepsOthers.setCell _ _ _).trans (KeepsOthers.setCell _ _ _)).from _,⟨rfl,⟨_,hS.setR hz1 0 false⟩,by rw [HS.out];exact HT.out⟩,(hB.setCell (p := ⟨w.heap.size + 1,0,none⟩) (by simp) _).setCell (p := ⟨w.heap.size + 1 + 1,0,none⟩) (by simp;omega) _⟩
  case done =>
    rintro D ys W hD ⟨hbk,hyl⟩ ⟨⟨hS,hT⟩,hB⟩ hK
    rw [hval_all hbk hyl] at hS hT
    obtain ⟨A,hA'⟩ : ∃ A,val l = A := ⟨_,rfl⟩
    rw [hA'] at hS hT HX
    have hxA := HX.out
    have q1' := hS.q
    have c1' := hS.n
    have f1' := hS.fn
    have c2' := hS.c2
    have f2' := hS.f2
    have c3' := hS.c3
    have f3' := hS.f3
    have hA0 : l = [] ↔ A = 0 := by
      rw [← hll,dig_eq_nil];omega
    have hT63 : A ≤ 9223372036854775808 := hT
    have hlz : l.length = 0 ↔ A = 0 := by rw [← hA0];exact List.length_eq_zero_iff
    by_cases hneg : x < 0
    · have hb : b = true := by rw [hbx (by omega)];simpa using hneg
      subst hb
      have hl0 : decide ((0 : Int) < l.length) = true := by simp;omega
      have hl0' : decide (0 < l.length) = true := by simp;omega
      have hw := wrap_neg63 (A := A) (by omega) hT63
      have HF : Hid (smallV x = -(A : Int) ∧ smallB x = true) := by
        unfold Hid smallV smallB
        rw [if_pos (by omega)]
        exact ⟨by omega,by simp;omega⟩
      have hpos : 0 < l.length := by simpa using hl0'
      clear hT hT63 hlz hA0 hxA hneg
      gi_wp2
      have hS2 := hS.setR hz1 (-(A : Int)) true
      have hK' := ((KeepsOthers.setCell W ⟨w.heap.size + 1,0,none⟩ (.int .i64 (-(A : Int)))).trans (KeepsOthers.setCell _ ⟨w.heap.size + 1 + 1,0,none⟩ (.bool true))).same D _ hK rfl
      refine ⟨by simp,.inl ⟨_,_,rfl,run_takeDeferred hK',?_⟩⟩
      have hS' := hS2.kept (grownBy_putObj' _ D (.deferred none)) (fun r e => by cases e;exact ⟨_,hK',rfl⟩)
      refine ⟨.tuple #[.int .i64 (-(A : Int)),.bool true],?_,by rw [HF.out.1,HF.out.2],((hB.setCell (p := ⟨w.heap.size + 1,0,none⟩) (by simp) _).setCell (p := ⟨w.heap.size + 1 + 1,0,none⟩) (by simp;omega) _).trans (belowK_b (w := w) (Nat.le_refl _) _ D _ _ (by simp at hD;omega) hK' rfl rfl)⟩
      simp [results,Tryz.results135,go_sem,hS'.c2,hS'.c3]
    · have hxe : x = (A : Int) := by omega
      by_cases ht : A = 9223372036854775808
      · have hb : b = false := by rw [hbx (by omega)];simpa using hneg
        subst hb
        have hl0 : decide ((0 : Int) < l.length) = true := by simp;omega
        have hl0' : decide (0 < l.length) = true := by simp;omega
        have hpos : 0 < l.length := by simpa using hl0'
        have hq : ((A : Int) == 9223372036854775808) = true := by simp;omega
        have HF : Hid (smallV x = 0 ∧ smallB x = false) := by
          unfold Hid smallV smallB
          rw [if_neg (by omega)]
          exact ⟨rfl,by simp;omega⟩
        have HT := Lib.hid ht
        clear hT hT63 hlz hA0 hxA hneg hxe ht
        gi_wp2
        have hS2 := hS.setR hz1 (0) false
        have hK' := ((KeepsOthers.setCell W ⟨w.heap.size + 1,0,none⟩ (.int .i64 (0))).trans (KeepsOthers.setCell _ ⟨w.heap.size + 1 + 1,0,none⟩ (.bool false))).same D _ hK rfl
        refine ⟨by simp,.inl ⟨_,_,rfl,run_takeDeferred hK',?_⟩⟩
        have hS' := hS2.kept (grownBy_putObj' _ D (.deferred none)) (fun r e => by cases e;exact ⟨_,hK',rfl⟩)
        refine ⟨.tuple #[.int .i64 (0),.bool false],?_,by rw [HF.out.1,HF.out.2],((hB.setCell (p := ⟨w.heap.size + 1,0,none⟩) (by simp) _).setCell (p := ⟨w.heap.size + 1 + 1,0,none⟩) (by simp;omega) _).trans (belowK_b (w := w) (Nat.le_refl _) _ D _ _ (by simp at hD;omega) hK' rfl rfl)⟩
        simp [results,Tryz.results135,go_sem,hS'.c2,hS'.c3]
      · have hq : ((A : Int) == 9223372036854775808) = false := by simp;omega
        have hw : IntKind.i64.wrap (A : Int) = A := wrap_i64S (by omega)
        have hA9 : A ≤ 9223372036854775807 := by omega
        have HF : Hid (smallV x = (A : Int) ∧ smallB x = true) := by
          unfold Hid smallV smallB
          rw [if_pos (by omega)]
          exact ⟨hxe,by simp;omega⟩
        by_cases hl : l = []
        · have hl0 : decide ((0 : Int) < l.length) = false := by rw [hl];rfl
          have hl0' : decide (0 < l.length) = false := by rw [hl];rfl
          have hl9 : ¬ 0 < l.length := by simpa using hl0'
          have HT := Lib.hid ht
          have HL := Lib.hid hl
          clear hT hT63 hlz hA0 hxA hneg hxe ht hl
          gi_wp2
          have hS2 := hS.setR hz1 (A : Int) true
          have hK' := ((KeepsOthers.setCell W ⟨w.heap.size + 1,0,none⟩ (.int .i64 (A : Int))).trans (KeepsOthers.setCell _ ⟨w.heap.size + 1 + 1,0,none⟩ (.bool true))).same D _ hK rfl
          refine ⟨by simp,.inl ⟨_,_,rfl,run_takeDeferred hK',?_⟩⟩
          have hS' := hS2.kept (grownBy_putObj' _ D (.deferred none)) (fun r e => by cases e;exact ⟨_,hK',rfl⟩)
          refine ⟨.tuple #[.int .i64 (A : Int),.bool true],?_,by rw [HF.out.1,HF.out.2],((hB.setCell (p := ⟨w.heap.size + 1,0,none⟩) (by simp) _).setCell (p := ⟨w.heap.size + 1 + 1,0,none⟩) (by simp;omega) _).trans (belowK_b (w := w) (Nat.le_refl _) _ D _ _ (by simp at hD;omega) hK' rfl rfl)⟩
          simp [results,Tryz.results135,go_sem,hS'.c2,hS'.c3]
        · have hl8 : 0 < l.length := List.length_pos_iff.2 hl
          have hb : b = false := by rw [hbx (by omega)];simpa using hneg
          subst hb
          have hl0 : decide ((0 : Int) < l.length) = true := by simp;omega
          have hl0' : decide (0 < l.length) = true := by simp;omega
          have HT := Lib.hid ht
          have HL := Lib.hid hl
          clear hT hT63 hlz hA0 hxA hneg hxe ht hl
          gi_wp2
          have hS2 := hS.setR hz1 (A : Int) true
          have hK' := ((KeepsOthers.setCell W ⟨w.heap.size + 1,0,none⟩ (.int .i64 (A : Int))).trans (KeepsOthers.setCell _ ⟨w.heap.size + 1 + 1,0,none⟩ (.bool true))).same D _ hK rfl
          refine ⟨by simp,.inl ⟨_,_,rfl,run_takeDeferred hK',?_⟩⟩
          have hS' := hS2.kept (grownBy_putObj' _ D (.deferred none)) (fun r e => by cases e;exact ⟨_,hK',rfl⟩)
          refine ⟨.tuple #[.int .i64 (A : Int),.bool true],?_,by rw [HF.out.1,HF.out.2],((hB.setCell (p := ⟨w.heap.size + 1,0,none⟩) (by simp) _).setCell (p := ⟨w.heap.size + 1 + 1,0,none⟩) (by simp;omega) _).trans (belowK_b (w := w) (Nat.le_refl _) _ D _ _ (by simp at hD;omega) hK' rfl rfl)⟩
          simp [results,Tryz.results135,go_sem,hS'.c2,hS'.c3]
  case stop =>
    rintro D cd pre W hD ⟨hbk,hpl⟩ ⟨⟨rfl,⟨v,hS⟩,hgt⟩,hB⟩ hK
    have hle := hval_le_all hlow hbk hpl
    have HF : Hid (smallV x = 0 ∧ smallB x = false) := by
      have h1 := HX.out
      rw [top63_eq] at hgt
      unfold Hid smallV smallB
      rw [if_neg (by omega)]
      exact ⟨rfl,by simp;omega⟩
    clear hle hgt
    gi_wp2
    refine ⟨by simp,.inl ⟨_,_,rfl,run_takeDeferred hK,?_⟩⟩
    have hS' := hS.kept (grownBy_putObj' _ D (.deferred none)) (fun r e => by cases e;exact ⟨_,hK,rfl⟩)
    refine ⟨.tuple #[.int .i64 0,.bool false],?_,by rw [HF.out.1,HF.out.2],hB.trans (belowK_b (w := w) (Nat.le_refl _) W D _ _ (by simp at hD;omega) hK rfl rfl)⟩
    simp [results,Tryz.results135,go_sem,hS'.c2,hS'.c3]
theorem small_long (x : Int) (b : Bool) (p : Option Addr) (n c : Nat) (w : World) (hv : Raw w (.agg #[.bool b,.slice p n c]) x) (hlen : 3 < (dig x.natAbs).length) :
    Calls Tryz.prog 135 #[.agg #[.bool b,.slice p n c]] w fun e W' => e = .returned (.tuple #[.int .i64 (smallV x),.bool (smallB x)]) ∧ Below w.heap.size w W' := by
  have hd3 : decide ((3 : Int) < (dig x.natAbs).length) = true := by simp;omega
  have hv1 := ((hv.alloc (.cells #[.bool b,.slice p n c] 28)).alloc (.cells #[.int .i64 0] 3)).alloc (.cells #[.bool false] 4)
  have q1 : Bx (((w.alloc (.cells #[.bool b,.slice p n c] 28)).alloc (.cells #[.int .i64 0] 3)).alloc (.cells #[.bool false] 4)) (w.heap.size + 1) [.int .i64 0] := by simpa using (Bx.new (w.alloc (.cells #[.bool b,.slice p n c] 28)) [.int .i64 0] 3).alloc (.cells #[.bool false] 4)
  have q2 : Bx (((w.alloc (.cells #[.bool b,.slice p n c] 28)).alloc (.cells #[.int .i64 0] 3)).alloc (.cells #[.bool false] 4)) (w.heap.size + 1 + 1) [.bool false] := by simpa using Bx.new ((w.alloc (.cells #[.bool b,.slice p n c] 28)).alloc (.cells #[.int .i64 0] 3)) [.bool false] 4
  have hB0 : Below w.heap.size w (((w.alloc (.cells #[.bool b,.slice p n c] 28)).alloc (.cells #[.int .i64 0] 3)).alloc (.cells #[.bool false] 4)) := (((Below.refl _ _).alloc (Nat.le_refl _) _).alloc (by simp) _).alloc (by simp;omega) _
  have HF : Hid (smallV x = 0 ∧ smallB x = false) := by
    have h1 := le_of_dig_length hlen
    rw [BB_eq] at h1
    unfold Hid smallV smallB
    rw [if_neg (by omega)]
    exact ⟨rfl,by simp;omega⟩
  go_enter Tryz.func135,Tryz.ntmps135
  go_wp2_with fail
  refine (groups_any _ x _ hv1).mono ?_
  rintro e w1 ⟨s1,rfl,hs1,hb1⟩
  obtain ⟨p1,c1,rfl,hl1,hm1⟩ := hs1.form
  have k1 := q1.to hb1
  have k2 := q2.to hb1
  have r0 := k1.c0
  have f0 := k1.f0
  have r1 := k2.c0
  have f1 := k2.f0
  have hBw1 := Below.tr hB0 hb1
  go_wp2_with fail
  exact bodyPost_ret (v := .tuple #[.int .i64 0,.bool false]) (by simp [results,Tryz.results135,go_sem,r0,r1]) rfl ⟨by rw [HF.out.1,HF.out.2],(hBw1.setCell (p := ⟨w.heap.size + 1,0,none⟩) (by simp) _).setCell (p := ⟨w.heap.size + 1 + 1,0,none⟩) (by simp;omega) _⟩
theorem small_any (v : Value) (x : Int) (w : World) (hv : Raw w v x) :
    Calls Tryz.prog 135 #[v] w fun e W' => e = .returned (.tuple #[.int .i64 (smallV x),.bool (smallB x)]) ∧ Below w.heap.size w W' := by
  obtain ⟨b,p,n,c,rfl⟩ := hv.form
  by_cases h : (dig x.natAbs).length ≤ 3
  · exact callsIn_wide.1 (small_in x b p n c w hv h (fun h => hv.sign h))
  · exact small_long x b p n c w hv (by omega)
end Go.Proofs.YtidfgdchcpmnfaaGreat
namespace Go.Proofs.YtidfgdchcpmnfaaGreat
open Go.RowKit
set_option maxRecDepth 100000
set_option maxHeartbeats 2000000
set_option linter.unusedSimpArgs false
set_option linter.unusedVariables false
def okc (x : Int) : Prop := -1048576 ≤ x ∧ x ≤ 1048576
instance (x : Int) : Decidable (okc x) := by unfold okc;infer_instance
def qcode (a b c d : Int) : Int := if a = 0 ∧ b = 0 ∧ c = 0 ∧ d = 0 then 1 else if okc a ∧ okc b ∧ okc c ∧ okc d then 0 else 3
theorem index4_0 : ∀ (a b c d : Value) (w : World),Sem.run Tryz.prog (Instr.index 89 (.agg #[a,b,c,d]) (.int .i64 0)) w = .ok a w := fun a b c d w => by kernel_rfl
theorem index4_1 : ∀ (a b c d : Value) (w : World),Sem.run Tryz.prog (Instr.index 89 (.agg #[a,b,c,d]) (.int .i64 1)) w = .ok b w := fun a b c d w => by kernel_rfl
theorem index4_2 : ∀ (a b c d : Value) (w : World),Sem.run Tryz.prog (Instr.index 89 (.agg #[a,b,c,d]) (.int .i64 2)) w = .ok c w := fun a b c d w => by kernel_rfl
theorem index4_3 : ∀ (a b c d : Value) (w : World),Sem.run Tryz.prog (Instr.index 89 (.agg #[a,b,c,d]) (.int .i64 3)) w = .ok d w := fun a b c d w => by kernel_rfl
theorem parts_any (a b c d : Int) (w : World) :
    Calls Tryz.prog 81 #[.agg #[.int .i64 a,.int .i64 b,.int .i64 c,.int .i64 d]] w fun e w' => e = .returned (.agg #[.int .i64 a,.int .i64 b,.int .i64 c,.int .i64 d]) ∧ Below w.heap.size w w' := by
  go_enter Tryz.func81,Tryz.ntmps81
  go_wp2
  exact bodyPost_ret (v := .agg #[.int .i64 a,.int .i64 b,.int .i64 c,.int .i64 d]) (by simp [results,Tryz.results81,go_sem]) rfl ⟨rfl,((Below.refl _ _).alloc (Nat.le_refl _) _).alloc (by simp) _⟩
theorem okl_step {l : List Int} {k : Nat} (h : ∀ j,j < k → okc (l.getD j 0)) (hx : okc (l.getD k 0)) : ∀ j,j < k + 1 → okc (l.getD j 0) := fun j hj => by
  by_cases e : j < k
  · exact h j e
  · obtain rfl : j = k := by omega
    exact hx
theorem check_any (a b c d : Int) (w : World) :
    Calls Tryz.prog 28 #[.agg #[.int .i64 a,.int .i64 b,.int .i64 c,.int .i64 d]] w fun e w' => e = .returned (.int .i64 (qcode a b c d)) ∧ Below w.heap.size w w' := by
  by_cases hz : a = 0 ∧ b = 0 ∧ c = 0 ∧ d = 0
  · have HV : Hid (qcode a b c d = 1) := by unfold Hid qcode;rw [if_pos hz]
    obtain ⟨rfl,rfl,rfl,rfl⟩ := hz
    go_enter Tryz.func28,Tryz.ntmps28
    go_wp2
    go_ret
    exact ⟨ret_int HV.out.symm,(Below.refl _ _).alloc (Nat.le_refl _) _⟩
  · have HNZ := Lib.hid hz
    have hne : ∀ w,Sem.run Tryz.prog (binOp .eql 33 (.agg #[.int .i64 a,.int .i64 b,.int .i64 c,.int .i64 d]) (.agg #[.int .i64 0,.int .i64 0,.int .i64 0,.int .i64 0])) w = .ok (.bool false) w := fun w => by
      simp [go_sem]
      exact fun h1 h2 h3 h4 => hz ⟨h1,h2,h3,h4⟩
    have i0 := index4_0
    have i1 := index4_1
    have i2 := index4_2
    have i3 := index4_3
    have hB0 : Below w.heap.size w (w.alloc (.cells #[.int .i64 a,.int .i64 b,.int .i64 c,.int .i64 d] 33)) := (Below.refl _ _).alloc (Nat.le_refl _) _
    clear hz
    go_enter Tryz.func28,Tryz.ntmps28
    go_wp2_with fail
    refine (parts_any a b c d _).mono ?_
    rintro e w1 ⟨rfl,hb1⟩
    have hB1 := Below.tr hB0 hb1
    go_wp2_with fail
    go_loop [10,4,11,12,13,14,15,16,17,18,19] (fun i _ _ _ _ _ _ _ _ _ _ => ∃ k : Nat,k ≤ 4 ∧ i = .int .i64 (k : Nat) ∧ Hid (∀ j,j < k → okc ([a,b,c,d].getD j 0))) (fun i _ _ _ _ _ _ _ _ _ _ => 4 - (intOf i).toNat)
    case atStart => exact ⟨0,by omega,rfl,fun j hj => by omega⟩
    case round =>
      obtain ⟨k,hk4,rfl,hk⟩ := hrel
      obtain rfl | rfl | rfl | rfl | rfl : k = 0 ∨ k = 1 ∨ k = 2 ∨ k = 3 ∨ k = 4 := by omega
      · by_cases ha : okc a
        · have h1 : decide (a < -1048576) = false := by have := ha.1;simp;omega
          have h2 : decide (1048576 < a) = false := by have := ha.2;simp;omega
          have HO := Lib.hid ha
          clear ha
          go_wp2_with fail
          go_round
          case rel => exact ⟨1,by omega,by go_num,okl_step hk.out HO.out⟩
          case measure => simp [intOf]
        · have HF : Hid (qcode a b c d = 3) := by
            unfold Hid qcode
            rw [if_neg HNZ.out,if_neg (fun h => ha (by first | exact h.1 | exact h.2.1 | exact h.2.2.1 | exact h.2.2.2))]
          have h0 : a < -1048576 ∨ 1048576 < a := by unfold okc at ha;omega
          clear ha
          rcases h0 with h0 | h0
          · have h1 : decide (a < -1048576) = true := by simpa using h0
            go_wp2_with fail
            go_ret
            exact ⟨ret_int HF.out.symm,hB1⟩
          · have h1 : decide (a < -1048576) = false := by simp;omega
            have h2 : decide (1048576 < a) = true := by simpa using h0
            go_wp2_with fail
            go_ret
            exact ⟨ret_int HF.out.symm,hB1⟩
      · by_cases hb : okc b
        · have h1 : decide (b < -1048576) = false := by have := hb.1;simp;omega
          have h2 : decide (1048576 < b) = false := by have := hb.2;simp;omega
          have HO := Lib.hid hb
          clear hb
          go_wp2_with fail
          go_round
          case rel => exact ⟨2,by omega,by go_num,okl_step hk.out HO.out⟩
          case measure => simp [intOf]
        · have HF : Hid (qcode a b c d = 3) := by
            unfold Hid qcode
            rw [if_neg HNZ.out,if_neg (fun h => hb (by first | exact h.1 | exact h.2.1 | exact h.2.2.1 | exact h.2.2.2))]
          have h0 : b < -1048576 ∨ 1048576 < b := by unfold okc at hb;omega
          clear hb
          rcases h0 with h0 | h0
          · have h1 : decide (b < -1048576) = true := by simpa using h0
            go_wp2_with fail
            go_ret
            exact ⟨ret_int HF.out.symm,hB1⟩
          · have h1 : decide (b < -1048576) = false := by simp;omega
            have h2 : decide (1048576 < b) = true := by simpa using h0
            go_wp2_with fail
            go_ret
            exact ⟨ret_int HF.out.symm,hB1⟩
      · by_cases hc : okc c
        · have h1 : decide (c < -1048576) = false := by have := hc.1;simp;omega
          have h2 : decide (1048576 < c) = false := by have := hc.2;simp;omega
          have HO := Lib.hid hc
          clear hc
          go_wp2_with fail
          go_round
          case rel => exact ⟨3,by omega,by go_num,okl_step hk.out HO.out⟩
          case measure => simp [intOf]
        · have HF : Hid (qcode a b c d = 3) := by
            unfold Hid qcode
            rw [if_neg HNZ.out,if_neg (fun h => hc (by first | exact h.1 | exact h.2.1 | exact h.2.2.1 | exact h.2.2.2))]
          have h0 : c < -1048576 ∨ 1048576 < c := by unfold okc at hc;omega
          clear hc
          rcases h0 with h0 | h0
          · have h1 : decide (c < -1048576) = true := by simpa using h0
            go_wp2_with fail
            go_ret
            exact ⟨ret_int HF.out.symm,hB1⟩
          · have h1 : decide (c < -1048576) = false := by simp;omega
            have h2 : decide (1048576 < c) = true := by simpa using h0
            go_wp2_with fail
            go_ret
            exact ⟨ret_int HF.out.symm,hB1⟩
      · by_cases hd : okc d
        · have h1 : decide (d < -1048576) = false := by have := hd.1;simp;omega
          have h2 : decide (1048576 < d) = false := by have := hd.2;simp;omega
          have HO := Lib.hid hd
          clear hd
          go_wp2_with fail
          go_round
          case rel => exact ⟨4,by omega,by go_num,okl_step hk.out HO.out⟩
          case measure => simp [intOf]
        · have HF : Hid (qcode a b c d = 3) := by
            unfold Hid qcode
            rw [if_neg HNZ.out,if_neg (fun h => hd (by first | exact h.1 | exact h.2.1 | exact h.2.2.1 | exact h.2.2.2))]
          have h0 : d < -1048576 ∨ 1048576 < d := by unfold okc at hd;omega
          clear hd
          rcases h0 with h0 | h0
          · have h1 : decide (d < -1048576) = true := by simpa using h0
            go_wp2_with fail
            go_ret
            exact ⟨ret_int HF.out.symm,hB1⟩
          · have h1 : decide (d < -1048576) = false := by simp;omega
            have h2 : decide (1048576 < d) = true := by simpa using h0
            go_wp2_with fail
            go_ret
            exact ⟨ret_int HF.out.symm,hB1⟩
      · have HF : Hid (qcode a b c d = 0) := by
          unfold Hid qcode
          rw [if_neg HNZ.out,if_pos ⟨hk.out 0 (by omega),hk.out 1 (by omega),hk.out 2 (by omega),hk.out 3 (by omega)⟩]
        go_wp2_with fail
        go_ret
        exact ⟨ret_int HF.out.symm,hB1⟩
end Go.Proofs.YtidfgdchcpmnfaaGreat
namespace Go.Proofs.YtidfgdchcpmnfaaGreat
open Go.RowKit
set_option linter.unusedSimpArgs false
set_option linter.unusedVariables false
def gseq (xs : Nat → Int) : Nat → Int
  | 0 => 0
  | k + 1 => ((Int.gcd (gseq xs k) (xs k) : Nat) : Int)
def fseq (xs : Nat → Int) : Nat → Int
  | 0 => 0
  | k + 1 => if fseq xs k = 0 then xs k else fseq xs k
theorem gseq_nonneg (xs : Nat → Int) (k : Nat) : 0 ≤ gseq xs k := by
  cases k with
  | zero => exact Int.le_refl _
  | succ k => exact Int.natCast_nonneg _
theorem gseq_isz {xs : Nat → Int} {K : Nat} : ∀ k,(∀ j,j < k → isz (xs j) ≤ K) → isz (gseq xs k) ≤ K
  | 0,_ => by show isz 0 ≤ K;rw [isz_zero];omega
  | k + 1,h => by
    have ih := gseq_isz k (fun j hj => h j (by omega))
    show isz ((Int.gcd (gseq xs k) (xs k) : Nat) : Int) ≤ K
    by_cases hx : xs k = 0
    · rw [hx,Int.gcd_zero_right]
      have : isz (((gseq xs k).natAbs : Nat) : Int) = isz (gseq xs k) := by unfold isz;simp
      omega
    · exact isz_gcd_le hx (h k (by omega))
theorem fseq_isz {xs : Nat → Int} {K : Nat} : ∀ k,(∀ j,j < k → isz (xs j) ≤ K) → isz (fseq xs k) ≤ K
  | 0,_ => by show isz 0 ≤ K;rw [isz_zero];omega
  | k + 1,h => by
    have ih := fseq_isz k (fun j hj => h j (by omega))
    show isz (if fseq xs k = 0 then xs k else fseq xs k) ≤ K
    split
    · exact h k (by omega)
    · exact ih
theorem gseq_ne {xs : Nat → Int} {j : Nat} (hj : xs j ≠ 0) : ∀ k,j < k → gseq xs k ≠ 0
  | 0,h => by omega
  | k + 1,h => by
    show ((Int.gcd (gseq xs k) (xs k) : Nat) : Int) ≠ 0
    intro e
    have e' : Int.gcd (gseq xs k) (xs k) = 0 := by omega
    rw [Int.gcd_eq_zero_iff] at e'
    by_cases hk : j = k
    · subst hk;exact hj e'.2
    · exact gseq_ne hj k (by omega) e'.1
theorem sgn_zero_iff {x : Int} : sgn x = 0 ↔ x = 0 := by unfold sgn;exact Int.sign_eq_zero_iff_zero
theorem sgn_neg_iff {x : Int} : sgn x < 0 ↔ x < 0 := by
  unfold sgn
  rcases Int.lt_trichotomy x 0 with h | h | h
  · rw [Int.sign_eq_neg_one_of_neg h];omega
  · subst h;simp
  · rw [Int.sign_eq_one_of_pos h];omega
theorem sgn_fseq (xs : Nat → Int) (k : Nat) : sgn (fseq xs (k + 1)) = if sgn (fseq xs k) = 0 then sgn (xs k) else sgn (fseq xs k) := by
  show sgn (if fseq xs k = 0 then xs k else fseq xs k) = _
  by_cases h : fseq xs k = 0
  · rw [if_pos h,if_pos (sgn_zero_iff.2 h)]
  · rw [if_neg h,if_neg (fun e => h (sgn_zero_iff.1 e))]
def primG (xs : Nat → Int) : Int := if fseq xs 4 < 0 then -gseq xs 4 else gseq xs 4
def primN (xs : Nat → Int) (k : Nat) : Int := (xs k).fdiv (primG xs)
def primOk (xs : Nat → Int) : Prop := ∀ k,k < 4 → okc (primN xs k)
instance (xs : Nat → Int) : Decidable (primOk xs) := by unfold primOk;infer_instance
def quatV (a b c d : Int) : Value := .agg #[.int .i64 a,.int .i64 b,.int .i64 c,.int .i64 d]
def primV (xs : Nat → Int) : Value := if primOk xs then .tuple #[quatV (primN xs 0) (primN xs 1) (primN xs 2) (primN xs 3),.int .i64 0] else .tuple #[quatV 0 0 0 0,.int .i64 3]
theorem primV_ok {xs : Nat → Int} (h : primOk xs) : primV xs = .tuple #[quatV (primN xs 0) (primN xs 1) (primN xs 2) (primN xs 3),.int .i64 0] := if_pos h
theorem primV_no {xs : Nat → Int} {k : Nat} (hk : k < 4) (h : ¬ okc (primN xs k)) : primV xs = .tuple #[quatV 0 0 0 0,.int .i64 3] := if_neg (fun e => h (e k hk))
theorem primG_isz {xs : Nat → Int} {K : Nat} (h : ∀ j,j < 4 → isz (xs j) ≤ K) : isz (primG xs) ≤ K := by
  unfold primG
  split
  · rw [isz_neg];exact gseq_isz 4 h
  · exact gseq_isz 4 h
theorem primG_ne {xs : Nat → Int} {j : Nat} (hj : j < 4) (h : xs j ≠ 0) : primG xs ≠ 0 := by
  have := gseq_ne h 4 hj
  unfold primG
  split <;> omega
def xs4 (a b c d : Int) : Nat → Int
  | 0 => a | 1 => b | 2 => c | _ => d
theorem small_no {x : Int} (h : smallB x = false) : ¬ okc x := by
  unfold smallB at h;unfold okc
  simp at h;omega
theorem small_yes {x : Int} (h : smallB x = true) : smallV x = x := by
  unfold smallB at h;unfold smallV
  simp at h
  rw [if_pos h]
end Go.Proofs.YtidfgdchcpmnfaaGreat
