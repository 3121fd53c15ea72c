/-
  Lemmas for the statements about rotations, part 36 of 51.
-/
import Derived.Deep.LoopGhost
import Derived.Test.YtidfgdchcpmnfaaGreatZb03
import Derived.Test.YtidfgdchcpmnfaaGreatZb09
import Derived.Test.YtidfgdchcpmnfaaGreatZb35
namespace Go.Proofs.YtidfgdchcpmnfaaGreat
open Go.RowKit
set_option maxRecDepth 100000
set_option maxHeartbeats 2000000
set_option linter.unusedSimpArgs false
set_option linter.unusedVariables false
theorem rsize_ne (s t : Value) (a b : List Nat) (w : World) (hs : Rd w s a) (ht : Rd w t b) (ha : Canon a) (hb : Canon b) (hn : a.length ≠ b.length) :
    Calls Tryz.prog 129 #[s,t] w fun e w' => e = .returned (.int .i64 (cmpI (val a) (val b))) ∧ Below w.heap.size w w' := by
  obtain ⟨p,c,rfl,_,_⟩ := hs.form
  obtain ⟨q,d,rfl,_,_⟩ := ht.form
  have hne : ((a.length : Int) != b.length) = true := by simp;omega
  rcases Nat.lt_or_ge a.length b.length with h | h
  · have hv := canon_lt ha hb h
    have HV : Hid (cmpI (val a) (val b) = -1) := by unfold Hid cmpI;rw [if_pos (by omega)]
    have d1 : decide (a.length < b.length) = true := by simpa using h
    have HN := Lib.hid hn
    clear hn h hv
    go_enter Tryz.func129,Tryz.ntmps129
    go_wp2
    go_ret
    exact ⟨ret_int HV.out.symm,Below.refl _ _⟩
  · have hv := canon_lt hb ha (by omega)
    have HV : Hid (cmpI (val a) (val b) = 1) := by unfold Hid cmpI;rw [if_neg (by omega),if_pos (by omega)]
    have d1 : decide (a.length < b.length) = false := by simp;omega
    have HN := Lib.hid hn
    have HH := Lib.hid h
    clear hn h hv
    go_enter Tryz.func129,Tryz.ntmps129
    go_wp2
    go_ret
    exact ⟨ret_int HV.out.symm,Below.refl _ _⟩
theorem rsize_any (s t : Value) (a b : List Nat) (w : World) (hs : Rd w s a) (ht : Rd w t b) (ha : Canon a) (hb : Canon b) (la : a.length ≤ 2000000000) :
    Calls Tryz.prog 129 #[s,t] w fun e w' => e = .returned (.int .i64 (cmpI (val a) (val b))) ∧ Below w.heap.size w w' := by
  by_cases h : a.length = b.length
  · obtain ⟨p,c,rfl,_,_⟩ := hs.form
    obtain ⟨q,d,rfl,_,_⟩ := ht.form
    rw [← h] at ht ⊢
    exact rsize_eq p q c d a.length a b w hs ht ha.1 hb.1 rfl h.symm la
  · exact rsize_ne s t a b w hs ht ha hb h
theorem wpList_append_nils {P : Program} {w : World} {ops : Array Oper} {rest : List Oper} {o : Oper} {a : Act} {Q : Exit → Act → World → Prop} (hgd : o.guard = none) (s x : Operand) (t : TypeId)
    (hop : o.op = Op.call { callee := Callee.builtin Builtin.append,args := #[s,x],argTypes := #[t,t] })
    (e : TypeId) (i : TypeInfo) (h1 : P.underlying t = some (.slice e)) (h2 : P.info? e = some i)
    (b : Addr) (n c : Nat) (hnc : n ≤ c) (hs : a.eval s = .slice (some b) n c) (hx : a.eval x = .slice none 0 0)
    (h : wpList P ops Q rest (a.put o.dst (.slice (some b) n c)) w) : wpList P ops Q (o :: rest) a w :=
  wpList_plain hgd fun _ hK => by
    have hrun : (Builtin.append_ #[t,t] o.type #[.slice (some b) n c,.slice none 0 0]).run P w = .ok (.slice (some b) n c) w := by
      simp [Builtin.append_,run_underlying h1,sizeOf,typeInfo,h2,Builtin.lenOf,Builtin.firstCells,storeCells,hnc]
    unfold Oper.wp
    simp [execOp,hop,resolve,invoke,builtin,hs,hx,hrun,Result.andThen]
    exact hK _ _ h
theorem one_own (w : World) (d : Nat) : (w.alloc (.cells #[.int .u32 (d : Nat)] 118)).ownsRow w.heap.size 118 1 (.slice (some ⟨w.heap.size,0,none⟩) 1 1) 1 (cells32 [d]) := World.ownsRow_lit (size := 1) w #[.int .u32 (d : Nat)] 1 (Nat.le_refl _) (by simp [maxLen]) (by simp)
theorem rshifted_any (s : Value) (a : List Nat) (d : Nat) (w : World) (hs : Rd w s a) (ha : Low a) (la : a.length ≤ 1000000000) (hd : d ≤ 999999999) :
    Calls Tryz.prog 173 #[s,.int .u32 (d : Nat)] w (GRdF (dig (d + 1000000000 * val a)) w) := by
  obtain ⟨i0,hi,hz0,hz1,hz2⟩ := info_parts infoU32
  have hf1 := field_Int_1
  have hl : Low (d :: a) := Low.cons.2 ⟨by rw [BB_eq];omega,ha⟩
  have HV : Hid (sg false (val (d :: a)) = ((d + 1000000000 * val a : Nat) : Int)) := by unfold Hid;rw [val_cons,BB_eq];rfl
  have hB0 : Below w.heap.size w (w.alloc (.cells #[.int .u32 (d : Nat)] 118)) := (Below.refl _ _).alloc (Nat.le_refl _) _
  have HL := Lib.hid hl
  clear hl ha
  rcases hs with ⟨rfl,rfl⟩ | ⟨b,o,c,rfl,h2,h3,h4,h5⟩
  · have hR := Rd.of_owns (one_own w d)
    go_enter Tryz.func173,Tryz.ntmps173
    go_wp2_with (at_builtin;refine wpList_append_nils rfl _ _ 26 rfl 118 i0 Tryz.underlying26 hi _ 1 1 (Nat.le_refl _) rfl rfl ?_)
    refine (rmadeF_any false _ _ _ hR HL.out (by simp)).mono ?_
    rw [HV.out]
    rintro e2 w2 ⟨g2,p2,n2,c2,rfl,hi2,hfr2,hb2⟩
    have hR2 := hi2.rd
    go_wp2_with fail
    go_ret
    exact ⟨_,rfl,hR2,fun k hk => Nat.le_trans hB0.size (hfr2 k hk),hB0.trans (hb2.mono hB0.size)⟩
  · have H5 := Lib.hid h5
    clear h5
    go_enter Tryz.func173,Tryz.ntmps173
    go_wp2_with (at_builtin;refine wpList_append_own _ rfl _ _ 26 rfl w.heap.size 118 i0 (.int .u32 0) 1 4 Tryz.underlying26 hi hz0 hz1 hz2 rfl (by decide) _ _ _ rfl (one_own w d) ⟨b,o,none⟩ a.length c (cells32 a) rfl (cells32_length a) (cells32_at fun i hi => (World.cell?_alloc_lt _ _ ⟨b,o + i,none⟩ h4).trans (H5.out i hi)) (cells32_one a) (by unfold maxLen;omega) (by omega) (by simp) ?_)
    intro v' w1 hown hgrow _
    have hB1 : Below w.heap.size w w1 := ((Below.refl _ _).alloc (Nat.le_refl _) _).grown hgrow (by simp) (fun j e => by simp [Value.ownBlock] at e;omega)
    clear hgrow
    have hR := Rd.of_owns (l := d :: a) (by rw [List.length_cons,Nat.add_comm];exact hown)
    go_wp2_with fail
    refine (rmadeF_any false _ _ _ hR HL.out (by simp;omega)).mono ?_
    rw [HV.out]
    rintro e2 w2 ⟨g2,p2,n2,c2,rfl,hi2,hfr2,hb2⟩
    have hR2 := hi2.rd
    go_wp2_with fail
    go_ret
    exact ⟨_,rfl,hR2,fun k hk => Nat.le_trans hB1.size (hfr2 k hk),hB1.trans (hb2.mono hB1.size)⟩
end Go.Proofs.YtidfgdchcpmnfaaGreat
namespace Go.Proofs.YtidfgdchcpmnfaaGreat
set_option linter.unusedSimpArgs false
structure RInv (a o : List Nat) (M V k R : Nat) : Prop where
  len : o.length = M
  low : Low (o.drop k)
  vl : val (a.drop k) = val (o.drop k) * V + R
  rest : R < V
theorem RInv.start {a : List Nat} {M V : Nat} (hV : val (a.drop M) < V) : RInv a (List.replicate M 0) M V M (val (a.drop M)) := ⟨by simp,by simp [Low.nil],by simp [val],hV⟩
theorem RInv.step {a o : List Nat} {M V k R q R' : Nat} (h : RInv a o M V (k + 1) R) (hk : k < M) (hM : M ≤ a.length) (hn : gr a k + 1000000000 * R = q * V + R') (hr : R' < V) (ha : gr a k ≤ 999999999) : RInv a (o.set k q) M V k R' ∧ q ≤ 999999999 := by
  have hq : q ≤ 999999999 := by
    rcases Nat.lt_or_ge 999999999 q with h1 | h1
    · exfalso
      have e1 : 1000000000 * V ≤ q * V := Nat.mul_le_mul_right _ h1
      have e2 := h.rest
      have e3 : (R + 1) * 1000000000 ≤ V * 1000000000 := Nat.mul_le_mul_right _ e2
      rw [Nat.add_mul] at e3
      rw [Nat.mul_comm V] at e3
      omega
    · exact h1
  have hl : k < o.length := by rw [h.len];exact hk
  have hs : (o.set k q).drop k = q :: o.drop (k + 1) := by
    rw [List.drop_eq_getElem_cons (by simpa using hl),List.drop_set_of_lt (by omega)]
    simp
  refine ⟨⟨by simp [h.len],?_,?_,hr⟩,hq⟩
  · rw [hs];exact Low.cons.2 ⟨by rw [BB_eq];omega,h.low⟩
  · rw [hs,val_drop_step (by omega),h.vl,val_cons,BB_eq]
    grind
theorem RInv.done {a o : List Nat} {M V R : Nat} (h : RInv a o M V 0 R) : Low o ∧ val o = val a / V ∧ R = val a % V := by
  have h1 := h.vl
  simp at h1
  have hr := h.rest
  have hl := h.low
  simp at hl
  refine ⟨hl,?_,?_⟩
  · rw [h1,Nat.mul_comm,Nat.mul_add_div (by omega),Nat.div_eq_of_lt hr];simp
  · rw [h1,Nat.mul_comm,Nat.mul_add_mod,Nat.mod_eq_of_lt hr]
theorem top_two {l : List Nat} {n : Nat} (hn : 1 ≤ n) : (gr l n * 1000000000 + gr l (n - 1)) * BB ^ (n - 1) ≤ val l := by
  have h1 := val_split l (n - 1)
  have h2 := val_split (l.drop n) 0
  rw [show n - 1 + 1 = n by omega] at h1
  simp at h2
  have h3 : gr (l.drop n) 0 = gr l n := by unfold gr;simp
  rw [h3] at h2
  rw [h1,h2,BB_eq]
  have e : 1000000000 ^ (n - 1) * (gr l (n - 1) + 1000000000 * (gr l n + 1000000000 * val (l.drop (n + 1)))) = (gr l n * 1000000000 + gr l (n - 1)) * 1000000000 ^ (n - 1) + 1000000000 ^ (n - 1) * (1000000000 * (1000000000 * val (l.drop (n + 1)))) := by grind
  rw [e]
  omega
theorem guess_le {l : List Nat} {n V bt g : Nat} (hn : 1 ≤ n) (hV : V < (bt + 1) * BB ^ (n - 1)) (hg : g * (bt + 1) ≤ gr l n * 1000000000 + gr l (n - 1)) : g * V ≤ val l := by
  have h1 := top_two (l := l) hn
  have h2 : g * V ≤ g * ((bt + 1) * BB ^ (n - 1)) := Nat.mul_le_mul_left _ (Nat.le_of_lt hV)
  have h3 : g * (bt + 1) * BB ^ (n - 1) ≤ (gr l n * 1000000000 + gr l (n - 1)) * BB ^ (n - 1) := Nat.mul_le_mul_right _ hg
  rw [← Nat.mul_assoc] at h2
  omega
theorem guess_small {V R x g R' : Nat} (hR : R < V) (hx : x ≤ 999999999) (h : g * V + R' = x + 1000000000 * R) : g ≤ 999999999 := by
  rcases Nat.lt_or_ge 999999999 g with h1 | h1
  · exfalso
    have e1 : 1000000000 * V ≤ g * V := Nat.mul_le_mul_right _ h1
    omega
  · exact h1
theorem val_lt_top {l : List Nat} {n : Nat} (hl : Low l) (hn : l.length = n) (h1 : 1 ≤ n) : val l < (gr l (n - 1) + 1) * BB ^ (n - 1) := by
  have h := val_split l (n - 1)
  rw [show n - 1 + 1 = n by omega,List.drop_eq_nil_of_le (by omega)] at h
  simp [val] at h
  have h2 : val (l.take (n - 1)) < BB ^ (n - 1) := by
    have := val_lt (hl.take (n - 1))
    rwa [List.length_take,Nat.min_eq_left (by omega)] at this
  rw [Nat.add_mul,Nat.mul_comm (gr l (n - 1))]
  omega
theorem scaled_len {b : List Nat} {n f : Nat} (hb : Canon b) (hn : b.length = n) (h1 : 1 ≤ n) (hf1 : 1 ≤ f) (hf : f * (gr b (n - 1) + 1) ≤ 1000000000) : (dig (val b * f)).length = n := by
  apply Nat.le_antisymm
  · refine dig_length_le ?_
    have h := val_lt_top hb.1 hn h1
    have h2 : val b * f < (gr b (n - 1) + 1) * BB ^ (n - 1) * f := Nat.mul_lt_mul_of_pos_right h hf1
    have h3 : f * (gr b (n - 1) + 1) * BB ^ (n - 1) ≤ BB * BB ^ (n - 1) := Nat.mul_le_mul_right _ (by rw [BB_eq];exact hf)
    have h4 : BB * BB ^ (n - 1) = BB ^ n := by
      rw [Nat.mul_comm,← Nat.pow_succ];congr 1;omega
    have h5 : (gr b (n - 1) + 1) * BB ^ (n - 1) * f = f * (gr b (n - 1) + 1) * BB ^ (n - 1) := by grind
    omega
  · have := dig_length_mono (show val b ≤ val b * f from Nat.le_mul_of_pos_right _ hf1)
    rw [dig_val hb] at this
    omega
end Go.Proofs.YtidfgdchcpmnfaaGreat
namespace Go.Proofs.YtidfgdchcpmnfaaGreat
open Go.RowKit
set_option maxRecDepth 1000000
set_option maxHeartbeats 4000000
set_option linter.unusedSimpArgs false
set_option linter.unusedVariables false
theorem rparts_lt (s t : Value) (a b : List Nat) (w : World) (hs : Rd w s a) (ht : Rd w t b) (ha : Canon a) (hb : Canon b) (la : a.length ≤ 1000000000) (hb2 : 2 ≤ b.length) (hlt : val a < val b) :
    Calls Tryz.prog 155 #[s,t] w (GTwo (dig (val a / val b)) (dig (val a % val b)) w) := by
  obtain ⟨p,c,rfl,hc1,hc2⟩ := hs.form
  obtain ⟨q,d,rfl,hd1,hd2⟩ := ht.form
  have HX : Hid (dig (val a / val b) = [] ∧ dig (val a % val b) = a) := by
    refine ⟨by rw [Nat.div_eq_of_lt hlt,dig_zero],by rw [Nat.mod_eq_of_lt hlt,dig_val ha]⟩
  have hcv : cmpI (val a) (val b) = -1 := by unfold cmpI;rw [if_pos (by omega)]
  have HCV := Lib.hid hcv
  have hn1 : ((b.length : Int) == 1) = false := by simp;omega
  clear hcv hlt
  go_enter Tryz.func155,Tryz.ntmps155
  go_wp2_with fail
  refine (rsize_any _ _ a b _ hs ht ha hb (by omega)).mono ?_
  rw [HCV.out]
  rintro e w1 ⟨rfl,hb1⟩
  go_wp2_with fail
  go_ret2
  exact ⟨_,_,rfl,by rw [HX.out.1];exact .inr ⟨w1.heap.size,0,0,rfl,by simp,by omega,by simp,fun i hi => by simp at hi⟩,by rw [HX.out.2];exact (hs.below hb1).alloc _,Below.al hb1 _⟩
theorem rparts_one (s t : Value) (a : List Nat) (d0 : Nat) (w : World) (hs : Rd w s a) (ht : Rd w t [d0]) (ha : Canon a) (hb : Canon [d0]) (la : a.length ≤ 1000000000) :
    Calls Tryz.prog 155 #[s,t] w (GTwo (dig (val a / d0)) (dig (val a % d0)) w) := by
  obtain ⟨p,c,rfl,hc1,hc2⟩ := hs.form
  obtain ⟨q,d,rfl,hd1,hd2⟩ := ht.form
  have ht' : Rd w (.slice q 1 d) [d0] := ht
  show Calls Tryz.prog 155 #[.slice p a.length c,.slice q 1 d] w _
  obtain ⟨gb,ob,rfl,hgb,hcb⟩ := ht'.at (by simp)
  have hc0 : w.cell? ⟨gb,ob,none⟩ = some (.int .u32 (d0 : Nat)) := by simpa [gr] using hcb 0 (by simp)
  have hd1' : d0 ≤ 999999999 := by have := hb.1 d0 (by simp);rw [BB_eq] at this;omega
  have hvd : val [d0] = d0 := by simp [val_cons]
  have hd0 : 1 ≤ d0 := by have := hb.pos (by simp);rw [hvd] at this;exact this
  have hr0 : val a % d0 < d0 := Nat.mod_lt _ hd0
  have hf1 := field_Int_1
  clear hvd hcb
  go_enter Tryz.func155,Tryz.ntmps155
  go_wp2_with fail
  refine (rshort_any _ a d0 _ hs ha.1 (by omega) hd0 hd1').mono ?_
  rintro e w1 ⟨v1,rfl,hv1,hb1⟩
  obtain ⟨R,hR⟩ : ∃ R,val a % d0 = R := ⟨_,rfl⟩
  rw [hR] at hr0 ⊢
  have HR := Lib.hid hR
  clear hR
  have hone := one_rd w1 R
  have HV : Hid (sg false (val [R]) = (R : Nat)) := by unfold Hid;simp [val_cons,sg]
  go_wp2_with fail
  refine (rmade_any false _ _ _ hone (Low.cons.2 ⟨by rw [BB_eq];omega,Low.nil⟩) (by simp)).mono ?_
  rw [HV.out]
  rintro e2 w2 ⟨v2,rfl,hi2,hb2⟩
  obtain ⟨g2,p2,n2,c2,rfl⟩ := hi2.form
  have hR2 := hi2.rd
  go_wp2_with fail
  go_ret2
  exact ⟨_,_,rfl,(hv1.alloc _).below hb2,by rw [HR.out];exact hR2,Below.tr (Below.al hb1 _) hb2⟩
theorem Rd.own_lt {w : World} {s : Value} {l : List Nat} (h : Rd w s l) : ∀ k,s.ownBlock = some k → k < w.heap.size := by
  rcases h with ⟨rfl,_⟩ | ⟨b,o,c,rfl,h2,h3,h4,h5⟩
  · intro k hk;simp [Value.ownBlock] at hk
  · intro k hk;simp [Value.ownBlock] at hk;omega
theorem Rd.drewN {w : World} {s : Value} {l : List Nat} (h : Rd w s l) (k : Nat) : Rd (w.drewN k) s l := h.below (Below.drewn (Below.refl _ _) k)
theorem Rd.setFar {w : World} {s : Value} {l : List Nat} (h : Rd w s l) {a : Addr} (hs : ∀ k,s.ownBlock = some k → k ≠ a.block) (u : Value) : Rd (w.setCell a u) s l := by
  rcases h with h | ⟨b,o,c,rfl,h2,h3,h4,h5⟩
  · exact .inl h
  · refine .inr ⟨b,o,c,rfl,h2,h3,by simpa [World.setCell] using h4,fun i hi => ?_⟩
    rw [World.cell?_setCell_far _ _ _ _ (fun e => hs b rfl e.symm)]
    exact h5 i hi
theorem rparts_long (s t : Value) (a b : List Nat) (w : World) (hs : Rd w s a) (ht : Rd w t b) (ha : Canon a) (hb : Canon b) (la : a.length ≤ 1000000000) (hb2 : 2 ≤ b.length) (hle : val b ≤ val a) :
    Calls Tryz.prog 155 #[s,t] w (GTwo (dig (val a / val b)) (dig (val a % val b)) w) := by
  obtain ⟨i0,hi,hz0,hz1,hz2⟩ := info_parts infoU32
  obtain ⟨p,c,rfl,_,_⟩ := hs.form
  obtain ⟨q,d,rfl,_,_⟩ := ht.form
  have hf1 := field_Int_1
  have hbn : b ≠ [] := by intro e;subst e;simp at hb2
  obtain ⟨gb,ob,rfl,hgb,hcb⟩ := ht.at hbn
  have hlb : b.length ≤ a.length := by
    have := dig_length_mono hle
    rwa [dig_val ha,dig_val hb] at this
  have htop : gr b (b.length - 1) ≤ 999999999 := gr_le hb.1 _
  have hct := hcb (b.length - 1) (by omega)
  have htp : 1 ≤ gr b (b.length - 1) := by
    have := hb.2
    rw [last_gr hbn] at this
    have : gr b (b.length - 1) ≠ 0 := by simpa using this
    omega
  obtain ⟨n,hn⟩ : ∃ n,b.length = n := ⟨_,rfl⟩
  have hscl := fun f h1 h2 => scaled_len (f := f) hb hn (by omega) h1 h2
  rw [hn] at hb2 htop hct htp hlb ⊢
  obtain ⟨tp,htpe⟩ : ∃ tp,gr b (n - 1) = tp := ⟨_,rfl⟩
  rw [htpe] at htop hct htp hscl
  obtain ⟨sc,hsc⟩ : ∃ sc : Nat,(1000000000 : Int) / ((tp : Int) + 1) = sc := ⟨1000000000 / (tp + 1),by simp⟩
  have hsc2 : 1000000000 / (tp + 1) = sc := by
    have : ((1000000000 / (tp + 1) : Nat) : Int) = sc := by rw [← hsc];simp
    omega
  have hsc3 : 1 ≤ sc := by rw [← hsc2];exact (Nat.le_div_iff_mul_le (by omega)).2 (by omega)
  have hsc4 : sc ≤ 500000000 := by rw [← hsc2];exact Nat.le_trans (Nat.div_le_div_left (c := 2) (by omega) (by omega)) (by omega)
  have hscm : sc * (tp + 1) ≤ 1000000000 := by rw [← hsc2];exact Nat.div_mul_le_self _ _
  have HLB := Lib.hid (hscl sc hsc3 hscm)
  have HA := Lib.hid ha
  have HB := Lib.hid hb
  have HLE := Lib.hid hle
  have HN := Lib.hid hn
  have hcv : 0 ≤ cmpI (val a) (val b) := by unfold cmpI;rw [if_neg (by omega)];split <;> omega
  obtain ⟨cv,hcve⟩ : ∃ cv,cmpI (val a) (val b) = cv := ⟨_,rfl⟩
  rw [hcve] at hcv
  have hdc : decide (cv < 0) = false := by simpa using hcv
  have HCV := Lib.hid hcve
  have hn1 : ((n : Int) == 1) = false := by simp;omega
  have hw1 : IntKind.u64.wrap (sc : Int) = sc := wrap_u64 (by omega)
  have hidx : ((n : Int) - 1).toNat = n - 1 := by omega
  clear hsc2 hcb ha hb hle hn hcve hcv hscl hscm htpe hbn
  rw [HN.out] at ht
  go_enter Tryz.func155,Tryz.ntmps155
  go_wp2_with fail
  refine (rsize_any _ _ a b _ hs ht HA.out HB.out (by omega)).mono ?_
  rw [HCV.out]
  rintro e w1 ⟨rfl,hb1⟩
  have hct1 : w1.cell? ⟨gb,ob + (n - 1),none⟩ = some (.int .u32 (tp : Nat)) := (hb1.cell (p := ⟨gb,ob + (n - 1),none⟩) hgb).trans hct
  go_wp2_with fail
  refine (rscaled_any _ a sc _ (hs.below hb1) HA.out.1 (by omega) (by omega)).mono ?_
  rintro e w2 ⟨v2,rfl,hv2,_,hb2'⟩
  obtain ⟨pa,ca,rfl,_,_⟩ := hv2.form
  go_wp2_with fail
  refine (rscaled_any _ b sc _ ((ht.below hb1).below hb2') HB.out.1 (by have := HN.out;omega) (by omega)).mono ?_
  rintro e w3 ⟨v3,rfl,hv3,_,hb3⟩
  obtain ⟨pb,cb,rfl,_,_⟩ := hv3.form
  have U0 : a.length ≤ (dig (val a * sc)).length := by
    have := dig_length_mono (show val a ≤ val a * sc from Nat.le_mul_of_pos_right _ hsc3)
    rwa [dig_val HA.out] at this
  have U1 : (dig (val a * sc)).length ≤ 1000000001 := by
    have := nsz_mul (val a) sc
    have h2 : nsz sc ≤ 1 := dig_length_le (by rw [BB_eq];omega)
    unfold nsz at this h2
    rw [dig_val HA.out] at this
    omega
  have hB3 : Below w.heap.size w w3 := Below.tr (Below.tr hb1 hb2') hb3
  have hU3 := hv2.below hb3
  have HU := Lib.hid (show val (dig (val a * sc)) = val a * sc from val_dig _)
  have HV := Lib.hid (show val (dig (val b * sc)) = val b * sc from val_dig _)
  have HUc := Lib.hid (dig_canon (val a * sc))
  have HVc := Lib.hid (dig_canon (val b * sc))
  have hvl := HLB.out
  generalize dig (val a * sc) = U at *
  generalize dig (val b * sc) = V at *
  rw [hvl] at hv3 ⊢
  have HVL := Lib.hid hvl
  obtain ⟨lu,hlu⟩ : ∃ lu,U.length = lu := ⟨_,rfl⟩
  rw [hlu] at hU3 U0 U1 ⊢
  have HLU := Lib.hid hlu
  clear hlu hvl hv2 HLB hb1 hb2' hb3 hct hct1 hsc hw1
  obtain ⟨M,hM⟩ : ∃ M : Nat,(lu : Int) - n + 1 = M := ⟨lu - n + 1,by omega⟩
  have hM2 : M + n = lu + 1 := by omega
  obtain ⟨ga,oa,rfl,hga,hua⟩ := hU3.at (by intro e;have := HLU.out;subst e;simp at this;omega)
  have HUA := Lib.hid hua
  have hcap : lu ≤ ca := by
    obtain ⟨_,_,e,h,_⟩ := hU3.form
    cases e;have := HLU.out;omega
  have m1 : (0 : Int) ≤ M := by omega
  have m2 : (M : Int) ≤ lu := by omega
  have m3 : M < ca := by omega
  clear hua
  have hV0 : BB ^ (n - 1) ≤ val V := le_of_dig_length (n := val V) (k := n - 1) (by rw [dig_val HVc.out,HVL.out];omega)
  have hRdd : Rd w3 (.slice (some ⟨ga,oa + M,none⟩) (lu - M) (ca - M)) (U.drop M) := by
    have e1 := HLU.out
    refine .inr ⟨ga,oa + M,ca - M,by rw [List.length_drop,e1],by rw [List.length_drop,e1];omega,by omega,hga,fun i hi => ?_⟩
    rw [List.length_drop] at hi
    rw [Nat.add_assoc,HUA.out (M + i) (by omega)]
    unfold gr;simp
  have hR0 : val (U.drop M) < val V := by
    have h1 := val_lt (HUc.out.1.drop M)
    rw [List.length_drop,HLU.out,show lu - M = n - 1 by omega] at h1
    omega
  have HRI0 := Lib.hid (RInv.start (a := U) hR0)
  have hlenV : (dig (val V)).length = n := by rw [dig_val HVc.out,HVL.out]
  have HLV := Lib.hid hlenV
  have hlenR : ∀ R,R < val V → (dig R).length ≤ 1000000000 := fun R h => by
    have := dig_length_mono (Nat.le_of_lt h)
    rw [hlenV] at this;omega
  have HLR := Lib.hid hlenR
  obtain ⟨R0,hR0e⟩ : ∃ R0,val (U.drop M) = R0 := ⟨_,rfl⟩
  rw [hR0e] at HRI0
  have HMV : Hid (sg false (val (U.drop M)) = ((R0 : Nat) : Int)) := by unfold Hid;rw [hR0e];rfl
  have hlowd := HUc.out.1.drop M
  have hlend : (U.drop M).length ≤ 2000000001 := by rw [List.length_drop,HLU.out];omega
  clear hR0 hlenV hlenR hR0e hV0
  go_wp2_with fail
  refine (rmade_any false _ _ _ hRdd hlowd hlend).mono ?_
  rw [HMV.out]
  rintro e w4 ⟨v4,rfl,hi4,hb4⟩
  obtain ⟨g4,p4,n4,c4,rfl⟩ := hi4.form
  have hR4 : Rd w4 (.slice p4 n4 c4) (dig R0) := by simpa using hi4.rd
  obtain ⟨_,_,e4,_,_⟩ := hR4.form
  cases e4
  clear hRdd hlowd hlend hi4
  have hU4 := hU3.below hb4
  have hV4 := hv3.below hb4
  have hB4 := Below.tr hB3 hb4
  have hz4 := hb4.size
  have hzB := hB4.size
  have hvo := hv3.own_lt
  go_wp2_with (at_make;refine wpList_make_full _ rfl _ _ 26 rfl w.heap.size 118 i0 (.int .u32 0) 1 Tryz.underlying26 hi hz0 hz1 _ _ _ _ M rfl rfl (by omega) (by omega) (by rw [hz2];omega) (by unfold maxLen;omega) (by omega) ?_)
  intro w5 hq5 hgr5
  rw [cells32_made] at hq5
  have hb5 : Below w4.heap.size w4 w5 := (Below.refl _ _).grown hgr5 (Nat.le_refl _) (fun k e => by cases e)
  have hU5 := hU4.below hb5
  have hV5 := hV4.below hb5
  have hR5 := hR4.below hb5
  have hB5 := Below.tr hB4 hb5
  have hz5 := hgr5.size
  have hq5lt : w4.heap.size < w5.heap.size := by
    have := (hq5.lt w4.heap.size rfl).2
    exact this
  obtain ⟨gq,hgq⟩ : ∃ gq,w4.heap.size = gq := ⟨_,rfl⟩
  rw [hgq] at hq5 hq5lt hz4 hzB ⊢
  have hsepU : ga ≠ gq := by omega
  have hsepV : ∀ k,(Value.slice pb n cb).ownBlock = some k → k ≠ gq := fun k hk => by have := hvo k hk;omega
  have HSV := Lib.hid hsepV
  clear hgr5 hb5 hU4 hV4 hR4 hB4 hb4 hB3 hU3 hv3 hgq hvo hsepV hi hz0 hz1 hz2 hz5 HUA hM HMV
  go_wp2_with fail
  go_loopw [10,12,13,74,75,76,77,78,79,80,81,82,83,84,85,86,87,88,89,90,91,92,93,94,95,96,97,98,99,100,101,102,103,104,105,106,107,108,109,110,111,112,113,114,115,116,117,118,119] (fun rest i g _ _ _ _ _ _ _ _ _ _ _ _ _ _ _ _ _ _ _ _ _ _ _ _ _ _ _ _ _ _ _ _ _ _ _ _ _ _ _ _ _ _ _ _ _ _ wr => ∃ (k R : Nat) (i' : Int) (o : List Nat) (pr : Option Addr) (cr : Nat),i = .int .i64 i' ∧ Hid (i' = (k : Int) - 1) ∧ k ≤ M ∧ rest = .slice pr (dig R).length cr ∧ Rd wr (.slice pr (dig R).length cr) (dig R) ∧ Hid (RInv U o M (val V) k R) ∧ Rd wr (.slice (some ⟨ga,oa,none⟩) lu ca) U ∧ Rd wr (.slice pb n cb) V ∧ wr.ownsRow w.heap.size 118 1 (.slice (some ⟨gq,0,none⟩) M M) M (cells32 o) ∧ Below w.heap.size w wr) (fun _ i _ _ _ _ _ _ _ _ _ _ _ _ _ _ _ _ _ _ _ _ _ _ _ _ _ _ _ _ _ _ _ _ _ _ _ _ _ _ _ _ _ _ _ _ _ _ _ _ => (intOf i + 1).toNat)
  case atStart => exact ⟨M,R0,_,_,p4,c4,rfl,by unfold Hid;omega,Nat.le_refl _,rfl,hR5,HRI0,hU5,hV5,hq5,hB5⟩
  case round =>
    obtain ⟨k,R,i',o,pr,cr,rfl,hk',hkM,rfl,hrest,hI,hU,hV,hO,hB⟩ := hrel
    clear hR5 hU5 hV5 hq5 hB5 HRI0
    cases k with
    | zero =>
      obtain rfl : i' = -1 := by have := hk'.out;simpa using this
      have hD := hI.out.done
      have hRV := hI.out.rest
      have hRl := HLR.out R hRV
      have hlo : o.length = M := hI.out.len
      have HX : Hid (sg false (val o) = ((val a / val b : Nat) : Int) ∧ dig (val (dig R) / sc) = dig (val a % val b)) := by
        have h1 := hD.2.1
        have h2 := hD.2.2
        rw [HU.out,HV.out] at h1 h2
        rw [Nat.mul_div_mul_right _ _ (by omega)] at h1
        rw [Nat.mul_mod_mul_right] at h2
        refine ⟨by rw [h1];rfl,?_⟩
        rw [val_dig,h2,Nat.mul_div_cancel _ (by omega)]
      have hlow := hD.1
      have HLO := Lib.hid hlo
      clear hD hRV hlo
      go_wp2_with fail
      refine (rshort_any _ (dig R) sc _ hrest (dig_low _) (by omega) hsc3 (by omega)).mono ?_
      rintro e w6 ⟨v6,rfl,hv6,hb6⟩
      rw [HX.out.2] at hv6
      have hR := Rd.of_owns (l := o) (by rw [HLO.out];exact owns_to hO hb6)
      go_wp2_with fail
      refine (rmade_any false _ _ _ hR hlow (by rw [HLO.out];omega)).mono ?_
      rw [HX.out.1]
      rintro e2 w7 ⟨v2,rfl,hi2,hb7⟩
      obtain ⟨g2,p2,n2,c2,rfl⟩ := hi2.form
      have hR2 := hi2.rd
      rw [Int.natAbs_natCast] at hR2
      go_wp2_with fail
      go_ret2
      exact ⟨_,_,rfl,hR2,hv6.below hb7,Below.tr (Below.tr hB hb6) hb7⟩
    | succ k =>
      obtain rfl : i' = (k : Int) := by have := hk'.out;simp at this;omega
      have hLU := HLU.out
      have gx : gr U k ≤ 999999999 := gr_le HUc.out.1 k
      obtain ⟨g0',o0',e0',hba,hcu⟩ := hU.at (by intro e;subst e;simp at hLU;omega)
      cases e0'
      have hcell : wr.cell? ⟨ga,oa + k,none⟩ = some (.int .u32 (gr U k : Nat)) := hcu k (by omega)
      have hRV := hI.out.rest
      have hRl := HLR.out R hRV
      have k1 : (0 : Int) ≤ k := by omega
      have k2 : (k : Int) < lu := by omega
      have HLU2 := Lib.hid hLU
      have HRV := Lib.hid hRV
      clear hcu hLU hRV
      go_wp2_with fail
      refine (rshifted_any _ (dig R) (gr U k) _ hrest (dig_low _) hRl gx).mono ?_
      rw [val_dig]
      obtain ⟨T,hT⟩ : ∃ T,gr U k + 1000000000 * R = T := ⟨_,rfl⟩
      rw [hT]
      rintro e w6 ⟨v6,rfl,hv6,_,hb6⟩
      obtain ⟨p6,c6,rfl,_,_⟩ := hv6.form
      have HT := Lib.hid hT
      clear hT
      have hU6 := hU.below hb6
      have hV6 := hV.below hb6
      have hO6 := owns_to hO hb6
      have hB6 := Below.tr hB hb6
      have hzw := hb6.size
      have hqw := (hO.lt gq rfl).2
      have hVL := HVL.out
      obtain ⟨gv,ov,rfl,hgv,hcv⟩ := hV6.at (by intro e;subst e;simp at hVL;omega)
      have hcellV : w6.cell? ⟨gv,ov + (n - 1),none⟩ = some (.int .u32 (gr V (n - 1) : Nat)) := hcv (n - 1) (by omega)
      clear hcv hVL
      have hbt : gr V (n - 1) ≤ 999999999 := gr_le HVc.out.1 _
      have hVt : Hid (val V < (gr V (n - 1) + 1) * BB ^ (n - 1)) := val_lt_top HVc.out.1 HVL.out (by omega)
      obtain ⟨bt,hbte⟩ : ∃ bt,gr V (n - 1) = bt := ⟨_,rfl⟩
      rw [hbte] at hcellV hbt hVt
      obtain ⟨x1,hx1⟩ : ∃ x1,gr (dig T) n = x1 := ⟨_,rfl⟩
      obtain ⟨x0,hx0⟩ : ∃ x0,gr (dig T) (n - 1) = x0 := ⟨_,rfl⟩
      have bx1 : x1 ≤ 999999999 := by rw [← hx1];exact gr_le (dig_low T) n
      have bx0 : x0 ≤ 999999999 := by rw [← hx0];exact gr_le (dig_low T) (n - 1)
      obtain ⟨S,hS⟩ : ∃ S : Nat,(x1 : Int) * 1000000000 + x0 = S := ⟨x1 * 1000000000 + x0,by simp⟩
      have hSn : x1 * 1000000000 + x0 = S := by omega
      have hSb : S ≤ 999999999999999999 := by omega
      obtain ⟨y,hy⟩ : ∃ y : Nat,(bt : Int) + 1 = y := ⟨bt + 1,by simp⟩
      have hyn : bt + 1 = y := by omega
      obtain ⟨g0,hg0⟩ : ∃ g0,S / y = g0 := ⟨_,rfl⟩
      have hgm : g0 * y ≤ S := by rw [← hg0];exact Nat.div_mul_le_self _ _
      have hgT : g0 * val V ≤ T := by
        have := guess_le (l := dig T) (n := n) (V := val V) (bt := bt) (g := g0) (by omega) hVt.out (by rw [hx1,hx0,hyn];omega)
        rwa [val_dig] at this
      have hRVo := HRV.out
      have HTo := HT.out
      obtain ⟨R1,hR1⟩ : ∃ R1,g0 * val V + R1 = T := ⟨T - g0 * val V,by omega⟩
      have hg0b : g0 ≤ 999999999 := guess_small (V := val V) (R := R) (x := gr U k) (R' := R1) hRVo gx (by omega)
      have i1 : (S : Int) / y = g0 := by rw [← hg0];simp
      have w1' : IntKind.u64.wrap (g0 : Int) = g0 := wrap_u64 (by omega)
      have hyz : ((y : Int) == 0) = false := by simp;omega
      have hquo := fun w => quo_runL (n := S) (d := y) (v := g0) (by omega) hSb i1 w1' w
      have HRW : Hid (dig (val (dig T) - val (dig (val V * g0))) = dig R1) := by
        unfold Hid;rw [val_dig,val_dig,Nat.mul_comm (val V)];congr 1;omega
      have hlT : (dig T).length ≤ 1000000001 := by
        have h1 : R < BB ^ (dig R).length := lt_of_dig_length (Nat.le_refl _)
        have h2 : T < BB ^ ((dig R).length + 1) := by
          rw [Nat.pow_succ]
          generalize BB ^ (dig R).length = z at *
          rw [BB_eq];omega
        have := dig_length_le h2
        omega
      have hls : (dig (val V * g0)).length ≤ (dig T).length := dig_length_mono (by rw [Nat.mul_comm];exact hgT)
      have hlv : val (dig (val V * g0)) ≤ val (dig T) := by rw [val_dig,val_dig,Nat.mul_comm];exact hgT
      have HGR := Lib.hid (fun (i : Int) (W : World) (h : Rd W (.slice p6 (dig T).length c6) (dig T)) (h0 : 0 ≤ i) => group_any _ (dig T) i W h (dig_low T) h0)
      have HR1 := Lib.hid hv6
      have hvd := hv6.drew
      have HR2 := Lib.hid hvd
      have HR1e := Lib.hid hR1
      have HLV2 := Lib.hid (And.intro hlT (And.intro hls hlv))
      have hn1' : (0 : Int) ≤ n := by omega
      have hn2' : (0 : Int) ≤ (n : Int) - 1 := by omega
      have hn3' : (n : Int) - 1 < n := by omega
      clear hbte hSn hyn hg0 hgm hgT hRVo HTo hR1 hlT hls hlv hvd hVt hrest
      go_wp2_with fail
      go_quiet ((go_at_call 160;exact Calls.quiet_of_same ((HGR.out _ _ (by first | exact HR1.out | exact HR2.out) (by omega)).mono fun e w' h => ⟨h.1,h.2.symm⟩)))
      go_wp2_with fail
      refine (rscaled_any _ V g0 _ (Rd.drewN hV6 _) HVc.out.1 (by have := HVL.out;omega) hg0b).mono ?_
      rintro e w7 ⟨v7,rfl,hv7,_,hb7⟩
      obtain ⟨p7,c7,rfl,_,_⟩ := hv7.form
      go_wp2_with fail
      refine (rminus_any _ _ (dig T) (dig (val V * g0)) _ ((Rd.drewN HR1.out _).below hb7) hv7 (dig_low _) (dig_low _) (by have := HLV2.out.1;omega) HLV2.out.2.1 HLV2.out.2.2).mono ?_
      rw [HRW.out]
      rintro e w8 ⟨v8,rfl,hv8,hfr8,hb8⟩
      obtain ⟨p8,c8,rfl,_,_⟩ := hv8.form
      have hU8 := ((Rd.drewN hU6 _).below hb7).below hb8
      have hV8 := ((Rd.drewN hV6 _).below hb7).below hb8
      have hO8 := owns_to (owns_to (owns_to hO6 (Below.drewn (Below.refl _ _) _)) hb7) hb8
      have hB8 := Below.tr (Below.tr (Below.drewn hB6 _) hb7) hb8
      have hz7 : w6.heap.size ≤ w7.heap.size := Nat.le_trans (Below.drewn (Below.refl w6.heap.size w6) _).size hb7.size
      have hsep8 : Hid (∀ z,(Value.slice p8 (dig R1).length c8).ownBlock = some z → gq < z) := fun z hz => by have := hfr8 z hz;omega
      clear hfr8 hv7 hb7 hb8 HGR HR1 HR2 hU hV hO hB hU6 hV6 hO6 hB6 hv6 hcellV hcell hquo
      go_wp2_with fail
      go_loopg [10,13,106,107,108,109,110,111,112,113,114] R1 (fun kk rest g _ _ _ _ _ _ _ _ _ wr => ∃ (Rr gg : Nat) (pr : Option Addr) (cr : Nat),Hid (kk = Rr) ∧ rest = .slice pr (dig Rr).length cr ∧ Rd wr (.slice pr (dig Rr).length cr) (dig Rr) ∧ Hid (∀ z,(Value.slice pr (dig Rr).length cr).ownBlock = some z → gq < z) ∧ g = .int .u64 (gg : Nat) ∧ Hid (gg * val V + Rr = T) ∧ gg ≤ 999999999 ∧ Rd wr (.slice (some ⟨ga,oa,none⟩) lu ca) U ∧ Rd wr (.slice (some ⟨gv,ov,none⟩) n cb) V ∧ wr.ownsRow w.heap.size 118 1 (.slice (some ⟨gq,0,none⟩) M M) M (cells32 o) ∧ Below w.heap.size w wr)
      case atStart => exact ⟨R1,g0,p8,c8,rfl,rfl,hv8,hsep8,rfl,HR1e,hg0b,hU8,hV8,hO8,hB8⟩
      case round =>
        obtain ⟨Rr,gg,pr2,cr2,hkk,rfl,hr9,hsep,rfl,hg9,hgb9,hU9,hV9,hO9,hB9⟩ := hrel
        clear hU8 hV8 hO8 hB8 hv8 hsep8
        have hlr : (dig Rr).length ≤ 1000000001 := by
          have h1 := hg9.out
          have := dig_length_mono (show Rr ≤ T by omega)
          have := HLV2.out.1
          omega
        obtain ⟨cv2,hcv2⟩ : ∃ cv2,cmpI (val (dig Rr)) (val V) = cv2 := ⟨_,rfl⟩
        have HCV2 := Lib.hid hcv2
        rw [val_dig] at hcv2
        by_cases hge : val V ≤ Rr
        · have hc0 : 0 ≤ cv2 := by rw [← hcv2];unfold cmpI;rw [if_neg (by omega)];split <;> omega
          have hdc2 : decide (0 ≤ cv2) = true := by simpa using hc0
          obtain ⟨R2,hR2⟩ : ∃ R2,Rr = val V + R2 := ⟨Rr - val V,by omega⟩
          have hg10 : (gg + 1) * val V + R2 = T := by have := hg9.out;rw [Nat.add_mul];omega
          have hgb10 : gg + 1 ≤ 999999999 := guess_small (V := val V) (R := R) (x := gr U k) (R' := R2) HRV.out gx (by rw [hg10];exact HT.out.symm)
          have HRW2 : Hid (dig (val (dig Rr) - val V) = dig R2) := by unfold Hid;rw [val_dig];congr 1;omega
          have hlv2 : V.length ≤ (dig Rr).length := by have := dig_length_mono hge;rwa [dig_val HVc.out] at this
          have hle2 : Hid (val V ≤ val (dig Rr)) := by unfold Hid;rw [val_dig];exact hge
          have hRlt : Hid (R2 < Rr) := by have := HVc.out.pos (by intro e;have := HVL.out;rw [e] at this;simp at this;omega);unfold Hid;omega
          have HG10 := Lib.hid hg10
          clear hcv2 hge hc0 hR2 hg10
          go_wp2_with fail
          refine (rsize_any _ _ (dig Rr) V _ hr9 hV9 (dig_canon _) HVc.out (by omega)).mono ?_
          rw [HCV2.out]
          rintro e w9 ⟨rfl,hb9⟩
          go_wp2_with fail
          refine (rminus_any _ _ (dig Rr) V _ (hr9.below hb9) (hV9.below hb9) (dig_low _) HVc.out.1 (by omega) hlv2 hle2.out).mono ?_
          rw [HRW2.out]
          rintro e w10 ⟨v10,rfl,hv10,hfr10,hb10⟩
          obtain ⟨p10,c10,rfl,_,_⟩ := hv10.form
          have hU10 := (hU9.below hb9).below hb10
          have hV10 := (hV9.below hb9).below hb10
          have hO10 := owns_to (owns_to hO9 hb9) hb10
          have hB10 := Below.tr (Below.tr hB9 hb9) hb10
          have hqz := (hO9.lt gq rfl).2
          have hz9 := hb9.size
          have a0 : Hid (∀ z,(Value.slice p10 (dig R2).length c10).ownBlock = some z → gq < z) := fun z hz => by have := hfr10 z hz;omega
          clear hfr10
          go_wp2_with fail
          go_roundg R2
          case measure => rw [hkk.out];exact hRlt.out
          case rel => exact ⟨R2,gg + 1,p10,c10,rfl,rfl,hv10,a0,by go_num,HG10,hgb10,hU10,hV10,hO10,hB10⟩
        · have hc0 : cv2 < 0 := by rw [← hcv2];unfold cmpI;rw [if_pos (by omega)];omega
          have hdc2 : decide (0 ≤ cv2) = false := by simp;omega
          have hN := hI.out.step (q := gg) (R' := Rr) (by omega) (by have := HLU2.out;omega) (by rw [hg9.out];exact HT.out) (by omega) gx
          have HN := Lib.hid hN.1
          have hlo : o.length = M := hI.out.len
          clear hcv2 hge hc0 hN
          have hkM2 : k < M := by omega
          go_wp2_with fail
          refine (rsize_any _ _ (dig Rr) V _ hr9 hV9 (dig_canon _) HVc.out (by omega)).mono ?_
          rw [HCV2.out]
          rintro e w9 ⟨rfl,hb9⟩
          have hO10 := owns_to hO9 hb9
          have hcl : w9.cell? ⟨gq,k,none⟩ = some (.int .u32 (gr o k : Nat)) := by
            rw [hO10.cellAt k (by omega)];exact cells32_get (by omega)
          have hfr := hO10.frozenAt k
          have hst := hO10.stored k (.int .u32 (gg : Nat))
          rw [cells32_set] at hst
          have HST := Lib.hid hst
          have hU10 := (hU9.below hb9).setFar (a := ⟨gq,k,none⟩) (fun z hz => by simp [Value.ownBlock] at hz;subst hz;exact hsepU) (.int .u32 (gg : Nat))
          have hV10 := (hV9.below hb9).setFar (a := ⟨gq,k,none⟩) HSV.out (.int .u32 (gg : Nat))
          have hr10 := (hr9.below hb9).setFar (a := ⟨gq,k,none⟩) (fun z hz => by have := hsep.out z hz;show z ≠ gq;omega) (.int .u32 (gg : Nat))
          have hB10 := (Below.tr hB9 hb9).setCell (p := ⟨gq,k,none⟩) hzB (.int .u32 (gg : Nat))
          have hkM3 : (k : Int) < M := by omega
          clear hst hlo
          go_wp2_with fail
          go_roundw
          case rel => exact ⟨k,Rr,_,_,pr2,cr2,rfl,rfl,by omega,rfl,hr10,HN,hU10,hV10,HST.out.1,hB10⟩
          case measure => simp [intOf]
end Go.Proofs.YtidfgdchcpmnfaaGreat
