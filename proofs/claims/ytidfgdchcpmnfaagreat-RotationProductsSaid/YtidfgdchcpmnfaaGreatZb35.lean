/-
  Lemmas for the statements about rotations, part 35 of 51.
-/
import Derived.Test.YtidfgdchcpmnfaaGreatZb02
import Derived.Test.YtidfgdchcpmnfaaGreatZb14
import Derived.Test.YtidfgdchcpmnfaaGreatZb34
namespace Go.Proofs.YtidfgdchcpmnfaaGreat
set_option linter.unusedSimpArgs false
theorem val_snoc (o : List Nat) (r : Nat) : val (o ++ [r]) = val o + BB ^ o.length * r := by rw [val_append];simp [val_cons,val]
theorem low_snoc {o : List Nat} {r : Nat} (h : Low o) (hr : r ≤ 999999999) : Low (o ++ [r]) := Low.append.2 ⟨h,Low.cons.2 ⟨by rw [BB_eq];omega,Low.nil⟩⟩
structure PInv (a b o : List Nat) (k c : Nat) : Prop where
  len : o.length = k
  low : Low o
  vl : val o + BB ^ k * c = val (a.take k) + val (b.take k)
  car : c ≤ 1
theorem PInv.zero (a b : List Nat) : PInv a b [] 0 0 := ⟨rfl,Low.nil,by simp [val],by omega⟩
theorem PInv.step {a b o : List Nat} {k c r q : Nat} (h : PInv a b o k c) (ha : gr a k ≤ 999999999) (hb : gr b k ≤ 999999999) (hs : gr a k + gr b k + c = r + 1000000000 * q) (hr : r ≤ 999999999) : PInv a b (o ++ [r]) (k + 1) q := by
  have hc := h.car
  refine ⟨by simp [h.len],low_snoc h.low hr,?_,by omega⟩
  rw [val_snoc,val_take_succ,val_take_succ,h.len,Nat.pow_succ]
  have := h.vl
  simp only [BB_eq] at *
  have e : 1000000000 ^ k * (gr a k + gr b k + c) = 1000000000 ^ k * (r + 1000000000 * q) := by rw [hs]
  grind
theorem PInv.done {a b o : List Nat} {k c : Nat} (h : PInv a b o k c) (h1 : a.length ≤ k) (h2 : b.length ≤ k) : Low (o ++ [c]) ∧ val (o ++ [c]) = val a + val b := by
  have hc := h.car
  have hv := h.vl
  rw [val_take_all h1,val_take_all h2] at hv
  exact ⟨low_snoc h.low (by omega),by rw [val_snoc,h.len];exact hv⟩
structure SInv (a o : List Nat) (d k c : Nat) : Prop where
  len : o.length = k
  low : Low o
  vl : val o + BB ^ k * c = val (a.take k) * d
  car : c ≤ 999999999
theorem SInv.zero (a : List Nat) (d : Nat) : SInv a [] d 0 0 := ⟨rfl,Low.nil,by simp [val],by omega⟩
theorem SInv.step {a o : List Nat} {d k c r q : Nat} (h : SInv a o d k c) (hs : gr a k * d + c = r + 1000000000 * q) (hr : r ≤ 999999999) (hq : q ≤ 999999999) : SInv a (o ++ [r]) d (k + 1) q := by
  refine ⟨by simp [h.len],low_snoc h.low hr,?_,hq⟩
  rw [val_snoc,val_take_succ,h.len,Nat.pow_succ]
  have := h.vl
  simp only [BB_eq] at *
  have e : 1000000000 ^ k * (gr a k * d + c) = 1000000000 ^ k * (r + 1000000000 * q) := by rw [hs]
  grind
theorem SInv.done {a o : List Nat} {d k c : Nat} (h : SInv a o d k c) (h1 : a.length ≤ k) : Low (o ++ [c]) ∧ val (o ++ [c]) = val a * d := by
  have hv := h.vl
  rw [val_take_all h1] at hv
  exact ⟨low_snoc h.low h.car,by rw [val_snoc,h.len];exact hv⟩
structure MInv (a b o : List Nat) (k c : Nat) : Prop where
  len : o.length = k
  low : Low o
  vl : val o + val (b.take k) = val (a.take k) + BB ^ k * c
  car : c ≤ 1
theorem MInv.zero (a b : List Nat) : MInv a b [] 0 0 := ⟨rfl,Low.nil,by simp [val],by omega⟩
theorem MInv.step {a b o : List Nat} {k c r c' : Nat} (h : MInv a b o k c) (hs : r + gr b k + c = gr a k + 1000000000 * c') (hr : r ≤ 999999999) (hc : c' ≤ 1) : MInv a b (o ++ [r]) (k + 1) c' := by
  refine ⟨by simp [h.len],low_snoc h.low hr,?_,hc⟩
  rw [val_snoc,val_take_succ,val_take_succ,h.len,Nat.pow_succ]
  have := h.vl
  simp only [BB_eq] at *
  have e : 1000000000 ^ k * (r + gr b k + c) = 1000000000 ^ k * (gr a k + 1000000000 * c') := by rw [hs]
  grind
theorem MInv.done {a b o : List Nat} {k c : Nat} (h : MInv a b o k c) (h1 : a.length ≤ k) (h2 : b.length ≤ k) (hle : val b ≤ val a) : val o = val a - val b := by
  have hv := h.vl
  rw [val_take_all h1,val_take_all h2] at hv
  have hl := val_lt h.low
  rw [h.len] at hl
  have hc := h.car
  rcases Nat.eq_zero_or_pos c with h0 | h0
  · subst h0;simp at hv;omega
  · have : c = 1 := by omega
    subst this
    simp at hv
    omega
structure QInv (a o : List Nat) (d k r : Nat) : Prop where
  len : o.length = a.length
  low : Low (o.drop k)
  vl : val (a.drop k) = val (o.drop k) * d + r
  rest : r < d
theorem val_drop_step {a : List Nat} {k : Nat} (hk : k < a.length) : val (a.drop k) = gr a k + BB * val (a.drop (k + 1)) := by
  rw [List.drop_eq_getElem_cons hk,val_cons,gr_in hk]
theorem QInv.start (a : List Nat) {d : Nat} (hd : 0 < d) : QInv a (List.replicate a.length 0) d a.length 0 := ⟨by simp,by simp [Low.nil],by simp [val],hd⟩
theorem QInv.step {a o : List Nat} {d k r q r' : Nat} (h : QInv a o d (k + 1) r) (hk : k < a.length) (hn : r * 1000000000 + gr a k = q * d + r') (hr : r' < d) (ha : gr a k ≤ 999999999) : QInv a (o.set k q) d k r' ∧ q ≤ 999999999 := by
  have hq : q ≤ 999999999 := by
    rcases Nat.lt_or_ge 999999999 q with h1 | h1
    · exfalso
      have e1 : 1000000000 * d ≤ q * d := Nat.mul_le_mul_right _ h1
      have e2 := h.rest
      have e3 : (r + 1) * 1000000000 ≤ d * 1000000000 := Nat.mul_le_mul_right _ e2
      rw [Nat.add_mul] at e3
      rw [Nat.mul_comm d] at e3
      omega
    · exact h1
  have hl : k < o.length := by rw [h.len];exact hk
  have hs : (o.set k q).drop k = q :: o.drop (k + 1) := by
    rw [List.drop_eq_getElem_cons (by simpa using hl),List.drop_set_of_lt (by omega)]
    simp
  refine ⟨⟨by simp [h.len],?_,?_,hr⟩,hq⟩
  · rw [hs];exact Low.cons.2 ⟨by rw [BB_eq];omega,h.low⟩
  · rw [hs,val_drop_step hk,h.vl,val_cons,BB_eq]
    grind
theorem QInv.done {a o : List Nat} {d r : Nat} (h : QInv a o d 0 r) : Low o ∧ val o = val a / d ∧ r = val a % d := by
  have h1 := h.vl
  simp at h1
  have hr := h.rest
  have hl := h.low
  simp at hl
  refine ⟨hl,?_,?_⟩
  · rw [h1,Nat.mul_comm,Nat.mul_add_div (by omega),Nat.div_eq_of_lt hr];simp
  · rw [h1,Nat.mul_comm,Nat.mul_add_mod,Nat.mod_eq_of_lt hr]
end Go.Proofs.YtidfgdchcpmnfaaGreat
namespace Go.Proofs.YtidfgdchcpmnfaaGreat
open Go.RowKit
set_option maxRecDepth 100000
set_option maxHeartbeats 2000000
set_option linter.unusedSimpArgs false
set_option linter.unusedVariables false
theorem field_Int_0 : ∀ (a b : Value) (w : World),Sem.run Tryz.prog (Instr.field 28 (.agg #[a,b]) 0) w = .ok a w := fun a b w => by kernel_rfl
theorem field_Int_1 : ∀ (a b : Value) (w : World),Sem.run Tryz.prog (Instr.field 28 (.agg #[a,b]) 1) w = .ok b w := fun a b w => by kernel_rfl
theorem RInt.rd {w : World} {b s : Value} {x : Int} (h : RInt w (.agg #[b,s]) x) : Rd w s (dig x.natAbs) := by
  obtain ⟨s',e,h⟩ := h;cases e;exact h
theorem group_any (s : Value) (l : List Nat) (i : Int) (w : World) (hs : Rd w s l) (hl : Low l) (h0 : 0 ≤ i) :
    Calls Tryz.prog 160 #[s,.int .i64 i] w fun e w' => e = .returned (.int .u64 (gr l i.toNat : Nat)) ∧ w = w' := by
  obtain ⟨n,rfl⟩ := Int.eq_ofNat_of_zero_le h0
  rw [Int.toNat_natCast]
  clear h0
  have hg := gr_le hl n
  rcases hs with ⟨rfl,rfl⟩ | ⟨b,o,c,rfl,h2,h3,h4,h5⟩
  · have h8 : decide ((n : Int) < 0) = false := by simp
    go_enter Tryz.func160,Tryz.ntmps160
    go_wp2_with fail
    go_ret
    exact ⟨by simp [gr],rfl⟩
  · by_cases hn : n < l.length
    · have h6 := h5 n hn
      clear h5
      go_enter Tryz.func160,Tryz.ntmps160
      go_wp2
      go_ret
      exact ⟨rfl,rfl⟩
    · clear h5
      go_enter Tryz.func160,Tryz.ntmps160
      go_wp2
      go_ret
      exact ⟨by rw [gr_out (by omega)];rfl,rfl⟩
theorem group_nat (s : Value) (l : List Nat) (k : Nat) (w : World) (hs : Rd w s l) (hl : Low l) :
    Calls Tryz.prog 160 #[s,.int .i64 (k : Nat)] w fun e w' => e = .returned (.int .u64 (gr l k : Nat)) ∧ w = w' := by
  have := group_any s l k w hs hl (by omega)
  rwa [Int.toNat_natCast] at this
theorem cells32_snoc' (l : List Nat) (g : Nat) : cells32 l ++ [.int .u32 (g : Nat)] = cells32 (l ++ [g]) := by simp [cells32]
theorem rplus_any (s t : Value) (a b : List Nat) (w : World) (hs : Rd w s a) (ht : Rd w t b) (ha : Low a) (hb : Low b) (la : a.length ≤ 1000000000) (lb : b.length ≤ 1000000000) :
    Calls Tryz.prog 128 #[s,t] w (GRdF (dig (val a + val b)) w) := by
  obtain ⟨i0,hi,hz0,hz1,hz2⟩ := info_parts infoU32
  obtain ⟨p,c,rfl,_,_⟩ := hs.form
  obtain ⟨q,d,rfl,_,_⟩ := ht.form
  have HA := Lib.hid ha
  have HB := Lib.hid hb
  clear ha hb
  have hf1 := field_Int_1
  have hO := fresh_own w
  have hB0 : Below w.heap.size w (w.alloc (.cells #[] 118)) := (Below.refl _ _).alloc (Nat.le_refl _) _
  go_enter Tryz.func128,Tryz.ntmps128
  go_wp2_with fail
  go_loopw [5,6,7,8,10,11,12,13,14,15,16,17,18,19,20,21,22,23,24,25,26,27,28,29,30,31,32,33,34,35,36,37,38] (fun v cc i _ _ _ _ _ _ _ _ _ _ _ _ _ _ _ _ _ _ _ _ _ _ _ _ _ _ _ _ _ _ wr => ∃ (k e : Nat) (o : List Nat),k ≤ max a.length b.length ∧ i = .int .i64 (k : Nat) ∧ cc = .int .u64 (e : Nat) ∧ PInv a b o k e ∧ wr.ownsRow w.heap.size 118 1 v k (cells32 o) ∧ Below w.heap.size w wr) (fun _ _ i _ _ _ _ _ _ _ _ _ _ _ _ _ _ _ _ _ _ _ _ _ _ _ _ _ _ _ _ _ _ _ => max a.length b.length - (intOf i).toNat)
  case atStart => exact ⟨0,0,[],by omega,rfl,rfl,PInv.zero a b,hO,hB0⟩
  case round =>
    obtain ⟨k,e,o,hk,rfl,rfl,hI,hown,hB⟩ := hrel
    have ga : gr a k ≤ 999999999 := gr_le HA.out k
    have gb : gr b k ≤ 999999999 := gr_le HB.out k
    have ge : e ≤ 1 := hI.car
    have hsz := hB.size
    by_cases hlt : k < a.length ∨ k < b.length
    · have hN := fun r q => hI.step (r := r) (q := q) ga gb
      obtain ⟨r,hr⟩ : ∃ r,(gr a k + gr b k + e) % 1000000000 = r := ⟨_,rfl⟩
      obtain ⟨m,hm⟩ : ∃ m,(gr a k + gr b k + e) / 1000000000 = m := ⟨_,rfl⟩
      have hN := hI.step (r := r) (q := m) ga gb (by omega) (by omega)
      have hr2 : ((gr a k : Int) + gr b k + e) % 1000000000 = r := by omega
      have hm2 : ((gr a k : Int) + gr b k + e) / 1000000000 = m := by omega
      have hr3 : r ≤ 999999999 := by omega
      have HN := Lib.hid hN
      clear hr hm hN
      have hlt2 : k + 1 ≤ max a.length b.length := by omega
      have hd1 : decide (k < a.length) = true ∨ (decide (k < a.length) = false ∧ decide (k < b.length) = true) := by
        by_cases h : k < a.length
        · left;simpa using h
        · right;exact ⟨by simpa using h,by simp;omega⟩
      clear hlt
      by_cases hka : k < a.length
      all_goals
        (try have hkb : k < b.length := by omega)
        clear hd1
        go_wp2_with fail
        refine (group_nat _ a k _ (hs.below hB) HA.out).mono ?_
        rintro e' w' ⟨rfl,rfl⟩
        go_wp2_with fail
        refine (group_nat _ b k _ (ht.below hB) HB.out).mono ?_
        rintro e' w' ⟨rfl,rfl⟩
        go_wp2_with (at_builtin;refine wpList_append_own _ rfl _ _ 26 rfl w.heap.size 118 i0 (.int .u32 0) 1 4 Tryz.underlying26 hi hz0 hz1 hz2 rfl (by decide) _ _ _ rfl (hown.alloc _) ⟨wr.heap.size,0,none⟩ 1 1 [.int .u32 (r : Nat)] rfl rfl (cell_one_new _ _ _) (by simp [Value.oneCell']) (by unfold maxLen;omega) (by omega) (by simp;omega) ?_)
        intro v' w1 hown' hgrow _
        rw [cells32_snoc'] at hown'
        have hB1 : Below w.heap.size w w1 := (hB.alloc hsz _).grown hgrow (by simp;omega) (fun j e => (hown.lt j e).1)
        clear hgrow
        go_wp2_with fail
        go_roundw
        case rel => exact ⟨k + 1,m,o ++ [r],hlt2,by go_num,by rw [hm2],HN.out,hown',hB1⟩
        case measure => simp [intOf];omega
    · have hka : ¬ k < a.length := by omega
      have hkb : ¬ k < b.length := by omega
      have hD := hI.done (by omega) (by omega)
      have HV : Hid (sg false (val (o ++ [e])) = ((val a + val b : Nat) : Int)) := by unfold Hid;rw [hD.2];rfl
      clear hlt
      go_wp2_with (at_builtin;refine wpList_append_own _ rfl _ _ 26 rfl w.heap.size 118 i0 (.int .u32 0) 1 4 Tryz.underlying26 hi hz0 hz1 hz2 rfl (by decide) _ _ _ rfl (hown.alloc _) ⟨wr.heap.size,0,none⟩ 1 1 [.int .u32 (e : Nat)] rfl rfl (cell_one_new _ _ _) (by simp [Value.oneCell']) (by unfold maxLen;omega) (by omega) (by simp;omega) ?_)
      intro v' w1 hown' hgrow _
      rw [cells32_snoc'] at hown'
      have hB1 : Below w.heap.size w w1 := (hB.alloc hsz _).grown hgrow (by simp;omega) (fun j e => (hown.lt j e).1)
      clear hgrow
      have hR := Rd.of_owns (l := o ++ [e]) (by rw [List.length_append,hI.len];exact hown')
      go_wp2_with fail
      refine (rmadeF_any false _ _ _ hR hD.1 (by rw [List.length_append,hI.len];simp;omega)).mono ?_
      rw [HV.out]
      rintro e2 w2 ⟨g2,p2,n2,c2,rfl,hi2,hfr2,hb2⟩
      have hR2 := hi2.rd
      go_wp2_with fail
      go_ret
      exact ⟨_,rfl,hR2,fun k hk => Nat.le_trans hB1.size (hfr2 k hk),hB1.trans (hb2.mono hB1.size)⟩
end Go.Proofs.YtidfgdchcpmnfaaGreat
namespace Go.Proofs.YtidfgdchcpmnfaaGreat
open Go.RowKit
set_option maxRecDepth 100000
set_option maxHeartbeats 2000000
set_option linter.unusedSimpArgs false
set_option linter.unusedVariables false
theorem rscaled_any (s : Value) (a : List Nat) (d : Nat) (w : World) (hs : Rd w s a) (ha : Low a) (la : a.length ≤ 1000000001) (hd : d ≤ 999999999) :
    Calls Tryz.prog 172 #[s,.int .u64 (d : Nat)] w (GRdF (dig (val a * d)) w) := by
  obtain ⟨i0,hi,hz0,hz1,hz2⟩ := info_parts infoU32
  obtain ⟨p,c,rfl,_,_⟩ := hs.form
  have HA := Lib.hid ha
  clear ha
  have hf1 := field_Int_1
  have hO := fresh_own w
  have hB0 : Below w.heap.size w (w.alloc (.cells #[] 118)) := (Below.refl _ _).alloc (Nat.le_refl _) _
  go_enter Tryz.func172,Tryz.ntmps172
  go_wp2_with fail
  go_loopw [5,6,7,8,10,11,12,13,14,15,16,17,18,19,20,21,22,23,24,25,26,27,28,29,30,31,32] (fun v cc i _ _ _ _ _ _ _ _ _ _ _ _ _ _ _ _ _ _ _ _ _ _ _ _ wr => ∃ (k e : Nat) (o : List Nat),k ≤ a.length ∧ i = .int .i64 (k : Nat) ∧ cc = .int .u64 (e : Nat) ∧ SInv a o d k e ∧ wr.ownsRow w.heap.size 118 1 v k (cells32 o) ∧ Below w.heap.size w wr) (fun _ _ i _ _ _ _ _ _ _ _ _ _ _ _ _ _ _ _ _ _ _ _ _ _ _ _ _ => a.length - (intOf i).toNat)
  case atStart => exact ⟨0,0,[],by omega,rfl,rfl,SInv.zero a d,hO,hB0⟩
  case round =>
    obtain ⟨k,e,o,hk,rfl,rfl,hI,hown,hB⟩ := hrel
    have ga : gr a k ≤ 999999999 := gr_le HA.out k
    have ge : e ≤ 999999999 := hI.car
    have hsz := hB.size
    by_cases hlt : k < a.length
    · obtain ⟨ba,oa,rfl,hba,hca⟩ := hs.at (by intro e;subst e;simp at hlt)
      have hcell : wr.cell? ⟨ba,oa + k,none⟩ = some (.int .u32 (gr a k : Nat)) := (hB.cell (p := ⟨ba,oa + k,none⟩) hba).trans (hca k hlt)
      clear hca
      obtain ⟨x,hx⟩ : ∃ x : Nat,(gr a k : Int) * d = x := ⟨gr a k * d,by simp⟩
      have hx2 : gr a k * d = x := by
        have h2 : ((gr a k * d : Nat) : Int) = x := by rw [← hx];simp
        omega
      have hx3 : x ≤ 999999998000000001 := by
        have h1 : gr a k * d ≤ 999999999 * 999999999 := Nat.mul_le_mul ga hd
        omega
      obtain ⟨r,hr⟩ : ∃ r,(x + e) % 1000000000 = r := ⟨_,rfl⟩
      obtain ⟨m,hm⟩ : ∃ m,(x + e) / 1000000000 = m := ⟨_,rfl⟩
      have hN := hI.step (r := r) (q := m) (by omega) (by omega) (by omega)
      have hr2 : ((x : Int) + e) % 1000000000 = r := by omega
      have hm2 : ((x : Int) + e) / 1000000000 = m := by omega
      have hr3 : r ≤ 999999999 := by omega
      have HN := Lib.hid hN
      clear hr hm hN hx2
      have hlt2 : k + 1 ≤ a.length := by omega
      go_wp2_with (at_builtin;refine wpList_append_own _ rfl _ _ 26 rfl w.heap.size 118 i0 (.int .u32 0) 1 4 Tryz.underlying26 hi hz0 hz1 hz2 rfl (by decide) _ _ _ rfl (hown.alloc _) ⟨wr.heap.size,0,none⟩ 1 1 [.int .u32 (r : Nat)] rfl rfl (cell_one_new _ _ _) (by simp [Value.oneCell']) (by unfold maxLen;omega) (by omega) (by simp;omega) ?_)
      intro v' w1 hown' hgrow _
      rw [cells32_snoc'] at hown'
      have hB1 : Below w.heap.size w w1 := (hB.alloc hsz _).grown hgrow (by simp;omega) (fun j e => (hown.lt j e).1)
      clear hgrow
      go_wp2_with fail
      go_roundw
      case rel => exact ⟨k + 1,m,o ++ [r],hlt2,by go_num,by rw [hm2],HN.out,hown',hB1⟩
      case measure => simp [intOf];omega
    · obtain rfl : k = a.length := by omega
      have hD := hI.done (Nat.le_refl _)
      have HV : Hid (sg false (val (o ++ [e])) = ((val a * d : Nat) : Int)) := by unfold Hid;rw [hD.2];rfl
      clear hlt
      go_wp2_with (at_builtin;refine wpList_append_own _ rfl _ _ 26 rfl w.heap.size 118 i0 (.int .u32 0) 1 4 Tryz.underlying26 hi hz0 hz1 hz2 rfl (by decide) _ _ _ rfl (hown.alloc _) ⟨wr.heap.size,0,none⟩ 1 1 [.int .u32 (e : Nat)] rfl rfl (cell_one_new _ _ _) (by simp [Value.oneCell']) (by unfold maxLen;omega) (by omega) (by simp;omega) ?_)
      intro v' w1 hown' hgrow _
      rw [cells32_snoc'] at hown'
      have hB1 : Below w.heap.size w w1 := (hB.alloc hsz _).grown hgrow (by simp;omega) (fun j e => (hown.lt j e).1)
      clear hgrow
      have hR := Rd.of_owns (l := o ++ [e]) (by rw [List.length_append,hI.len];exact hown')
      go_wp2_with fail
      refine (rmadeF_any false _ _ _ hR hD.1 (by rw [List.length_append,hI.len];simp;omega)).mono ?_
      rw [HV.out]
      rintro e2 w2 ⟨g2,p2,n2,c2,rfl,hi2,hfr2,hb2⟩
      have hR2 := hi2.rd
      go_wp2_with fail
      go_ret
      exact ⟨_,rfl,hR2,fun k hk => Nat.le_trans hB1.size (hfr2 k hk),hB1.trans (hb2.mono hB1.size)⟩
theorem rminus_any (s t : Value) (a b : List Nat) (w : World) (hs : Rd w s a) (ht : Rd w t b) (ha : Low a) (hb : Low b) (la : a.length ≤ 1000000002) (lb : b.length ≤ a.length) (hle : val b ≤ val a) :
    Calls Tryz.prog 130 #[s,t] w (GRdF (dig (val a - val b)) w) := by
  obtain ⟨i0,hi,hz0,hz1,hz2⟩ := info_parts infoU32
  obtain ⟨p,c,rfl,_,_⟩ := hs.form
  obtain ⟨q,d,rfl,_,_⟩ := ht.form
  have HA := Lib.hid ha
  have HB := Lib.hid hb
  have HLE := Lib.hid hle
  clear ha hb hle
  have hf1 := field_Int_1
  have hO := fresh_own w
  have hB0 : Below w.heap.size w (w.alloc (.cells #[] 118)) := (Below.refl _ _).alloc (Nat.le_refl _) _
  go_enter Tryz.func130,Tryz.ntmps130
  go_wp2_with fail
  go_loopw [5,6,7,8,10,11,12,13,14,15,16,17,18,19,20,21,22,23,24,25,26,27,28,29,30,31,32,33] (fun v cc i _ _ _ _ _ _ _ _ _ _ _ _ _ _ _ _ _ _ _ _ _ _ _ _ _ wr => ∃ (k e : Nat) (o : List Nat),k ≤ a.length ∧ i = .int .i64 (k : Nat) ∧ cc = .int .u64 (e : Nat) ∧ MInv a b o k e ∧ wr.ownsRow w.heap.size 118 1 v k (cells32 o) ∧ Below w.heap.size w wr) (fun _ _ i _ _ _ _ _ _ _ _ _ _ _ _ _ _ _ _ _ _ _ _ _ _ _ _ _ _ => a.length - (intOf i).toNat)
  case atStart => exact ⟨0,0,[],by omega,rfl,rfl,MInv.zero a b,hO,hB0⟩
  case round =>
    obtain ⟨k,e,o,hk,rfl,rfl,hI,hown,hB⟩ := hrel
    have ga : gr a k ≤ 999999999 := gr_le HA.out k
    have gb : gr b k ≤ 999999999 := gr_le HB.out k
    have ge : e ≤ 1 := hI.car
    have hsz := hB.size
    by_cases hlt : k < a.length
    · obtain ⟨x,hx⟩ : ∃ x : Nat,x + gr b k + e = 1000000000 + gr a k := ⟨1000000000 + gr a k - gr b k - e,by omega⟩
      obtain ⟨r,hr⟩ : ∃ r,x % 1000000000 = r := ⟨_,rfl⟩
      obtain ⟨m,hm⟩ : ∃ m,x / 1000000000 = m := ⟨_,rfl⟩
      obtain ⟨y,hy⟩ : ∃ y,y + m = 1 := ⟨1 - m,by omega⟩
      have hN := hI.step (r := r) (c' := y) (by omega) (by omega) (by omega)
      have hr2 : ((1000000000 : Int) + gr a k - gr b k - e) % 1000000000 = r := by omega
      have hm2 : ((1000000000 : Int) + gr a k - gr b k - e) / 1000000000 = m := by omega
      have hy2 : (1 : Int) - m = y := by omega
      have hr3 : r ≤ 999999999 := by omega
      have hm3 : m ≤ 1 := by omega
      have HN := Lib.hid hN
      have HY := Lib.hid hy2
      clear hr hm hN hx hy hy2
      have hlt2 : k + 1 ≤ a.length := by omega
      go_wp2_with fail
      refine (group_nat _ a k _ (hs.below hB) HA.out).mono ?_
      rintro e' w' ⟨rfl,rfl⟩
      go_wp2_with fail
      refine (group_nat _ b k _ (ht.below hB) HB.out).mono ?_
      rintro e' w' ⟨rfl,rfl⟩
      go_wp2_with (at_builtin;refine wpList_append_own _ rfl _ _ 26 rfl w.heap.size 118 i0 (.int .u32 0) 1 4 Tryz.underlying26 hi hz0 hz1 hz2 rfl (by decide) _ _ _ rfl (hown.alloc _) ⟨wr.heap.size,0,none⟩ 1 1 [.int .u32 (r : Nat)] rfl rfl (cell_one_new _ _ _) (by simp [Value.oneCell']) (by unfold maxLen;omega) (by omega) (by simp;omega) ?_)
      intro v' w1 hown' hgrow _
      rw [cells32_snoc'] at hown'
      have hB1 : Below w.heap.size w w1 := (hB.alloc hsz _).grown hgrow (by simp;omega) (fun j e => (hown.lt j e).1)
      clear hgrow
      go_wp2_with fail
      go_roundw
      case rel => exact ⟨k + 1,y,o ++ [r],hlt2,by go_num,by rw [← HY.out],HN.out,hown',hB1⟩
      case measure => simp [intOf];omega
    · obtain rfl : k = a.length := by omega
      have hD := hI.done (Nat.le_refl _) lb HLE.out
      have hlow := hI.low
      have hlen := hI.len
      have HV : Hid (sg false (val o) = ((val a - val b : Nat) : Int)) := by unfold Hid;rw [hD];rfl
      have hR := Rd.of_owns (l := o) (by rw [hlen];exact hown)
      clear hlt hD
      go_wp2_with fail
      refine (rmadeF_any false _ _ _ hR hlow (by rw [hlen];omega)).mono ?_
      rw [HV.out]
      rintro e2 w2 ⟨g2,p2,n2,c2,rfl,hi2,hfr2,hb2⟩
      have hR2 := hi2.rd
      go_wp2_with fail
      go_ret
      exact ⟨_,rfl,hR2,fun k hk => Nat.le_trans hB.size (hfr2 k hk),hB.trans (hb2.mono hB.size)⟩
end Go.Proofs.YtidfgdchcpmnfaaGreat
namespace Go.Proofs.YtidfgdchcpmnfaaGreat
open Go.RowKit
set_option maxRecDepth 100000
set_option maxHeartbeats 2000000
set_option linter.unusedSimpArgs false
set_option linter.unusedVariables false
theorem rshort_any (s : Value) (a : List Nat) (d : Nat) (w : World) (hs : Rd w s a) (ha : Low a) (la : a.length ≤ 2000000000) (hd : 1 ≤ d) (hd2 : d ≤ 999999999) :
    Calls Tryz.prog 171 #[s,.int .u64 (d : Nat)] w fun e w' => ∃ v,e = .returned (.tuple #[v,.int .u64 (val a % d : Nat)]) ∧ Rd w' v (dig (val a / d)) ∧ Below w.heap.size w w' := by
  obtain ⟨i0,hi,hz0,hz1,hz2⟩ := info_parts infoU32
  obtain ⟨p,c,rfl,_,_⟩ := hs.form
  have HA := Lib.hid ha
  clear ha
  have hf1 := field_Int_1
  obtain ⟨n,hn⟩ : ∃ n,a.length = n := ⟨_,rfl⟩
  rw [hn] at hs la ⊢
  have HNL := Lib.hid hn
  clear hn
  go_enter Tryz.func171,Tryz.ntmps171
  go_wp2_with (at_make;refine wpList_make_full _ rfl _ _ 26 rfl w.heap.size 118 i0 (.int .u32 0) 1 Tryz.underlying26 hi hz0 hz1 _ _ _ _ n rfl rfl (by omega) (by omega) (by rw [hz2];omega) (by unfold maxLen;omega) (Nat.le_refl _) ?_)
  intro w1 hown hgrow
  rw [cells32_made] at hown
  have hB1 : Below w.heap.size w w1 := (Below.refl _ _).grown hgrow (Nat.le_refl _) (fun k e => by cases e)
  clear hgrow
  go_wp2
  go_loopw [7,8,9,16,17,18,19,20,21,22,23,24,25,26,27,28,29,30,31,32,33,34,35,36,37] (fun rr i _ _ _ _ _ _ _ _ _ _ _ _ _ _ _ _ _ _ _ _ _ _ _ wr => ∃ (k r : Nat) (i' : Int) (o : List Nat),i = .int .i64 i' ∧ Hid (i' = (k : Int) - 1) ∧ k ≤ n ∧ rr = .int .u64 (r : Nat) ∧ Hid (QInv a o d k r) ∧ wr.ownsRow w.heap.size 118 1 (.slice (some ⟨w.heap.size,0,none⟩) n n) n (cells32 o) ∧ Below w.heap.size w wr) (fun _ i _ _ _ _ _ _ _ _ _ _ _ _ _ _ _ _ _ _ _ _ _ _ _ _ => (intOf i + 1).toNat)
  case atStart => exact ⟨n,0,_,_,rfl,rfl,Nat.le_refl _,rfl,by have := HNL.out;subst this;exact QInv.start a hd,hown,hB1⟩
  case round =>
    obtain ⟨k,r,i',o,rfl,hk',hkn,rfl,hI,hO,hB⟩ := hrel
    cases k with
    | zero =>
      obtain rfl : i' = -1 := by have := hk'.out;simpa using this
      have hD := hI.out.done
      have hlen : o.length = n := by have := hI.out.len;rw [HNL.out] at this;exact this
      have HV : Hid (sg false (val o) = ((val a / d : Nat) : Int)) := by unfold Hid;rw [hD.2.1];rfl
      have HR2 := Lib.hid hD.2.2
      have hlow := hD.1
      have hR := Rd.of_owns (l := o) (by rw [hlen];exact hO)
      have HLEN := Lib.hid hlen
      clear hD hlen
      go_wp2_with fail
      refine (rmade_any false _ _ _ hR hlow (by rw [HLEN.out];omega)).mono ?_
      rw [HV.out]
      rintro e2 w2 ⟨v2,rfl,hi2,hb2⟩
      obtain ⟨g2,p2,n2,c2,rfl⟩ := hi2.form
      have hR3 := hi2.rd
      go_wp2_with fail
      go_ret2
      exact ⟨_,by rw [HR2.out];rfl,hR3,hB.trans (hb2.mono hB.size)⟩
    | succ k =>
      obtain rfl : i' = (k : Int) := by have := hk'.out;simp at this;omega
      have ga : gr a k ≤ 999999999 := gr_le HA.out k
      have hkl : k < a.length := by have := HNL.out;omega
      obtain ⟨ba,oa,rfl,hba,hca⟩ := hs.at (by intro e;subst e;simp at hkl)
      have hcell : wr.cell? ⟨ba,oa + k,none⟩ = some (.int .u32 (gr a k : Nat)) := (hB.cell (p := ⟨ba,oa + k,none⟩) hba).trans (hca k hkl)
      clear hca
      have hr : r ≤ 999999998 := by have := hI.out.rest;omega
      obtain ⟨x,hx⟩ : ∃ x : Nat,(r : Int) * 1000000000 + gr a k = x := ⟨r * 1000000000 + gr a k,by simp⟩
      have hxn : r * 1000000000 + gr a k = x := by omega
      have hx3 : x ≤ 999999998999999999 := by omega
      obtain ⟨q,hq⟩ : ∃ q,x / d = q := ⟨_,rfl⟩
      obtain ⟨m,hm⟩ : ∃ m,x % d = m := ⟨_,rfl⟩
      have hqm : x = q * d + m := by rw [← hq,← hm,Nat.mul_comm];exact (Nat.div_add_mod x d).symm
      have hmd : m < d := by rw [← hm];exact Nat.mod_lt _ (by omega)
      have hN := hI.out.step (q := q) (r' := m) hkl (by omega) hmd ga
      have hq3 : q ≤ 999999999 := hN.2
      have HN := Lib.hid hN.1
      have hquo := fun w => quo_runL (n := x) (d := d) (v := q) hd (by omega) (by rw [← hq];simp) (wrap_u64 (by omega)) w
      have hrem := fun w => rem_runL (n := x) (d := d) (v := m) hd (by omega) (by rw [← hm];simp) (wrap_u64 (by omega)) w
      have hdz : ((d : Int) == 0) = false := by simp;omega
      have i1 : (x : Int) / d = q := by rw [← hq];simp
      have i2 : (x : Int) % d = m := by rw [← hm];simp
      have w1' : IntKind.u64.wrap (q : Int) = q := wrap_u64 (by omega)
      have w2' : (q : Int) % 4294967296 = q := by omega
      have hlo : o.length = n := by have := hI.out.len;rw [HNL.out] at this;exact this
      have hcl : wr.cell? ⟨w.heap.size,k,none⟩ = some (.int .u32 (gr o k : Nat)) := by
        rw [hO.cellAt k (by omega)];exact cells32_get (by omega)
      have hfr := hO.frozenAt k
      have hst := hO.stored k (.int .u32 (q : Nat))
      rw [cells32_set] at hst
      have HST := Lib.hid hst
      have hkn2 : (k : Int) < n := by omega
      clear hN hq hm hqm hxn hst hlo
      go_wp2_with fail
      go_roundw
      case rel => exact ⟨k,m,_,_,rfl,rfl,by omega,by rw [i2],HN,HST.out.1,hB.setCell (p := ⟨w.heap.size,k,none⟩) (Nat.le_refl _) _⟩
      case measure => simp [intOf]
theorem rsize_eq (p q : Option Addr) (c d n : Nat) (a b : List Nat) (w : World) (hs : Rd w (.slice p n c) a) (ht : Rd w (.slice q n d) b) (ha : Low a) (hb : Low b) (la : a.length = n) (lb : b.length = n) (hn : n ≤ 2000000000) :
    Calls Tryz.prog 129 #[.slice p n c,.slice q n d] w fun e w' => e = .returned (.int .i64 (cmpI (val a) (val b))) ∧ Below w.heap.size w w' := by
  have HA := Lib.hid ha
  have HB := Lib.hid hb
  have HLA := Lib.hid la
  have HLB := Lib.hid lb
  clear ha hb la lb
  go_enter Tryz.func129,Tryz.ntmps129
  go_wp2_with fail
  go_loopw [5,19,20,21,22,23,24,25,26,27,28,29,30,31,32,33,34,35,36,37,38,39,40] (fun i _ _ _ _ _ _ _ _ _ _ _ _ _ _ _ _ _ _ _ _ _ _ wr => ∃ (k : Nat) (i' : Int),i = .int .i64 i' ∧ Hid (i' = (k : Int) - 1) ∧ k ≤ n ∧ Hid (∀ j,k ≤ j → gr a j = gr b j) ∧ Below w.heap.size w wr) (fun i _ _ _ _ _ _ _ _ _ _ _ _ _ _ _ _ _ _ _ _ _ _ _ => (intOf i + 1).toNat)
  case atStart => exact ⟨n,_,rfl,rfl,Nat.le_refl _,fun j hj => by have := HLA.out;have := HLB.out;rw [gr_out (by omega),gr_out (by omega)],Below.refl _ _⟩
  case round =>
    obtain ⟨k,i',rfl,hk',hkn,hI,hB⟩ := hrel
    cases k with
    | zero =>
      obtain rfl : i' = -1 := by have := hk'.out;simpa using this
      have hab : a = b := by
        have := val_drop_eq (i := 0) (a := a) (b := b) (by rw [HLA.out,HLB.out]) (fun j _ => hI.out j (by omega))
        simpa using this
      have HV : Hid (cmpI (val a) (val b) = 0) := by unfold Hid;rw [hab];unfold cmpI;simp
      clear hab
      go_wp2_with fail
      go_ret
      exact ⟨ret_int HV.out.symm,hB⟩
    | succ k =>
      obtain rfl : i' = (k : Int) := by have := hk'.out;simp at this;omega
      have hka : k < a.length := by have := HLA.out;omega
      have hkb : k < b.length := by have := HLB.out;omega
      obtain ⟨ba,oa,rfl,hba,hca⟩ := hs.at (by intro e;subst e;simp at hka)
      obtain ⟨bb,ob,rfl,hbb,hcb⟩ := ht.at (by intro e;subst e;simp at hkb)
      have hc1 : wr.cell? ⟨ba,oa + k,none⟩ = some (.int .u32 (gr a k : Nat)) := (hB.cell (p := ⟨ba,oa + k,none⟩) hba).trans (hca k hka)
      have hc2 : wr.cell? ⟨bb,ob + k,none⟩ = some (.int .u32 (gr b k : Nat)) := (hB.cell (p := ⟨bb,ob + k,none⟩) hbb).trans (hcb k hkb)
      have ga : gr a k ≤ 999999999 := gr_le HA.out k
      have gb : gr b k ≤ 999999999 := gr_le HB.out k
      have hdr := val_drop_eq (i := k + 1) (a := a) (b := b) (by rw [HLA.out,HLB.out]) (fun j hj => hI.out j hj)
      have h0 : (0 : Int) ≤ k := by omega
      have h1 : (k : Int) < n := by omega
      clear hca hcb hka hkb
      rcases Nat.lt_trichotomy (gr a k) (gr b k) with h | h | h
      · have hv := val_lt_of HA.out (by rw [hdr]) h
        have HV : Hid (cmpI (val a) (val b) = -1) := by unfold Hid cmpI;rw [if_pos (by omega)]
        clear hdr hv
        generalize gr a k = x at *
        generalize gr b k = y at *
        have d1 : decide (x < y) = true := by simpa using h
        have d2 : decide ((x : Int) < y) = true := by simpa using h
        go_wp2_with fail
        go_quiet (fail)
        go_wp2_with fail
        go_ret
        exact ⟨ret_int HV.out.symm,by first | exact Below.drewn hB _ | exact Below.drewn (Below.drewn hB _) _⟩
      · have HE := Lib.hid h
        clear hdr
        have d1 : decide (gr a k < gr b k) = false := by simp;omega
        have d3 : decide (gr b k < gr a k) = false := by simp;omega
        generalize hxx : gr a k = x at *
        generalize hyy : gr b k = y at *
        have HXX := Lib.hid hxx
        have HYY := Lib.hid hyy
        clear h hxx hyy
        go_wp2_with fail
        go_quiet (fail)
        go_wp2_with fail
        go_quiet (fail)
        go_wp2_with fail
        go_roundw
        case rel => exact ⟨k,_,rfl,rfl,by omega,fun j hj => if e : j = k then by rw [e,HXX.out,HYY.out];exact HE.out else hI.out j (by omega),Below.drewn hB _⟩
        case measure => simp [intOf]
      · have hv := val_lt_of (i := k) HB.out (by rw [hdr]) h
        have HV : Hid (cmpI (val a) (val b) = 1) := by unfold Hid cmpI;rw [if_neg (by omega),if_pos (by omega)]
        clear hdr hv
        generalize gr a k = x at *
        generalize gr b k = y at *
        have d1 : decide (x < y) = false := by simp;omega
        have d3 : decide (y < x) = true := by simpa using h
        go_wp2_with fail
        go_quiet (fail)
        go_wp2_with fail
        go_quiet (fail)
        go_wp2_with fail
        go_ret
        exact ⟨ret_int HV.out.symm,by first | exact Below.drewn hB _ | exact Below.drewn (Below.drewn hB _) _⟩
end Go.Proofs.YtidfgdchcpmnfaaGreat
