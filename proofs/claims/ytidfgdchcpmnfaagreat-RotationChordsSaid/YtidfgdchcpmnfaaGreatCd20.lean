/-
  Lemmas for the theorem vchords_holds, part 20 of 33.
-/
import Derived.Test.YtidfgdchcpmnfaaGreatCd06
import Derived.Test.YtidfgdchcpmnfaaGreatCd12
import Derived.Test.YtidfgdchcpmnfaaGreatCd19
namespace Go.Proofs.YtidfgdchcpmnfaaGreat
open Go.RowKit
set_option linter.unusedSimpArgs false
set_option linter.unusedVariables false
set_option maxRecDepth 20000
theorem MatO.congr {w : World} {base b R C K m : Nat} {rb : Nat → Nat} {e e' : Nat → Nat → Rat} (h : MatO w base b R C K m rb e) (he : ∀ r c,r < m → c < C → e r c = e' r c) : MatO w base b R C K m rb e' :=
  ⟨h.outer,h.hb,fun i hi => (h.rows i hi).congr (fun _ _ => rfl) (fun c hc => he i c hi hc),h.hrb,h.inj⟩
theorem MatO.box {w : World} {base b R C K m : Nat} {rb : Nat → Nat} {e : Nat → Nat → Rat} (h : MatO w base b R C K m rb e) {D o : Nat} (h1 : b ≠ D) (h2 : ∀ i,i < m → rb i ≠ D) {u : Value} (hc : w.cell? ⟨D,o,none⟩ = some u) (hu : notU32 u = true) (x : Value) : MatO (w.setCell ⟨D,o,none⟩ x) base b R C K m rb e :=
  ⟨h.outer.setOther (by simpa using h1) x,h.hb,fun i hi => (h.rows i hi).other (h2 i hi) hc hu x,h.hrb,h.inj⟩
theorem MatO.box4 {w : World} {base b R C K m : Nat} {rb : Nat → Nat} {e : Nat → Nat → Rat} (h : MatO w base b R C K m rb e) {D : Nat} (h1 : b ≠ D) (h2 : ∀ i,i < m → rb i ≠ D) {u0 u1 u2 u3 : Value} (q : Bx w D [u0,u1,u2,u3])
    (n0 : notU32 u0 = true) (n1 : notU32 u1 = true) (n2 : notU32 u2 = true) (n3 : notU32 u3 = true) (x0 x1 x2 x3 : Value) :
    MatO ((((w.setCell ⟨D,0,none⟩ x0).setCell ⟨D,1,none⟩ x1).setCell ⟨D,2,none⟩ x2).setCell ⟨D,3,none⟩ x3) base b R C K m rb e := by
  refine (((h.box h1 h2 q.c0 n0 x0).box h1 h2 (o := 1) (u := u1) ?_ n1 x1).box h1 h2 (o := 2) (u := u2) ?_ n2 x2).box h1 h2 (o := 3) (u := u3) ?_ n3 x3
  · rw [World.cell?_setCell_other _ _ _ _ (by simp)];exact q.c1
  · rw [World.cell?_setCell_other _ _ _ _ (by simp),World.cell?_setCell_other _ _ _ _ (by simp)];exact q.c2
  · rw [World.cell?_setCell_other _ _ _ _ (by simp),World.cell?_setCell_other _ _ _ _ (by simp),World.cell?_setCell_other _ _ _ _ (by simp)];exact q.c3
def hdr (C r : Nat) : Value := .slice (some ⟨r,0,none⟩) C C
theorem MatO.swap {w w' : World} {base b R C K : Nat} {rb : Nat → Nat} {e : Nat → Nat → Rat} (h : MatO w base b R C K R rb e) {j k : Nat} (hj : j < R) (hk : k < R)
    (hw : w' = (w.setCell ⟨b,k,none⟩ (hdr C (rb j))).setCell ⟨b,j,none⟩ (hdr C (rb k)) ∨ (j ≠ k ∧ w' = (w.setCell ⟨b,j,none⟩ (hdr C (rb k))).setCell ⟨b,k,none⟩ (hdr C (rb j)))) :
    MatO w' base b R C K R (fun i => if i = j then rb k else if i = k then rb j else rb i) (swp e j k) := by
  have hck : ∀ i,i < R → w.cell? ⟨b,i,none⟩ = some (hdr C (rb i)) := fun i hi => by have := h.outer.cell hi;rw [if_pos hi] at this;exact this
  have hrow : ∀ i,i < R → RowO w' (rb i) C K (fun _ => true) (e i) := fun i hi => by
    rcases hw with rfl | ⟨hne,rfl⟩
    · refine ((h.rows i hi).other (h.hrb i hi).2 (hck k hk) rfl _).other (h.hrb i hi).2 (u := hdr C (rb j)) ?_ rfl _
      by_cases e1 : j = k
      · subst e1;simp [go_sem,hck j hj,h.outer.frozen j]
      · rw [World.cell?_setCell_other _ _ _ _ (by simp;try omega)];exact hck j hj
    · refine ((h.rows i hi).other (h.hrb i hi).2 (hck j hj) rfl _).other (h.hrb i hi).2 (u := hdr C (rb k)) ?_ rfl _
      rw [World.cell?_setCell_other _ _ _ _ (by simp;try omega)];exact hck k hk
  refine ⟨?_,h.hb,fun i hi => ?_,fun i hi => ?_,fun x y hx hy => ?_⟩
  · rcases hw with rfl | ⟨hne,rfl⟩
    · refine ((h.outer.set k _).set j _).congr (fun i hi => ?_)
      simp only [hdr]
      by_cases e1 : i = j
      · subst e1;simp [hi]
      · by_cases e2 : i = k
        · subst e2;simp [e1,hi]
        · simp [e1,e2,hi]
    · refine ((h.outer.set j _).set k _).congr (fun i hi => ?_)
      simp only [hdr]
      by_cases e1 : i = j
      · subst e1;simp [hi,hne]
      · by_cases e2 : i = k
        · subst e2;simp [e1,hi]
        · simp [e1,e2,hi]
  · have hsw : swp e j k i = if i = j then e k else if i = k then e j else e i := by
      funext c;unfold swp;split <;> (try split) <;> rfl
    rw [hsw]
    by_cases e1 : i = j
    · rw [if_pos e1,if_pos e1];exact hrow k hk
    · by_cases e2 : i = k
      · rw [if_neg e1,if_pos e2,if_neg e1,if_pos e2];exact hrow j hj
      · rw [if_neg e1,if_neg e2,if_neg e1,if_neg e2];exact hrow i hi
  · by_cases e1 : i = j
    · simpa [e1] using h.hrb k hk
    · by_cases e2 : i = k
      · rw [if_neg e1,if_pos e2];exact h.hrb j hj
      · rw [if_neg e1,if_neg e2];exact h.hrb i hi
  · have := h.inj
    intro e1
    have i1 := fun a ha => h.inj x a hx ha
    split at e1 <;> split at e1 <;> (try split at e1) <;> (try split at e1) <;> first
      | omega
      | (have a1 := h.inj _ _ hk hk e1;omega)
      | (have a1 := h.inj _ _ hk hj e1;omega)
      | (have a1 := h.inj _ _ hj hk e1;omega)
      | (have a1 := h.inj _ _ hj hj e1;omega)
      | (have a1 := h.inj _ _ hk hy e1;omega)
      | (have a1 := h.inj _ _ hj hy e1;omega)
      | (have a1 := h.inj _ _ hx hk e1;omega)
      | (have a1 := h.inj _ _ hx hj e1;omega)
      | (have a1 := h.inj _ _ hx hy e1;omega)
theorem Bx.grown {w w' : World} {b : Nat} {cs : List Value} (h : Bx w b cs) {g : Nat} (hne : b ≠ g) (hg : w.grownBy w' (some g)) : Bx w' b cs := by
  have e := hg.block b h.1 (by simpa using hne)
  exact ⟨Nat.lt_of_lt_of_le h.1 hg.size,fun i u hu => ⟨(World.cell?_of_block (w := w) (a := ⟨b,i,none⟩) e).trans (h.2 i u hu).1,(World.frozen?_of_block (w := w) (a := ⟨b,i,none⟩) e).trans (h.2 i u hu).2⟩⟩
theorem MatO.hd {w : World} {base b R C K : Nat} {rb : Nat → Nat} {e : Nat → Nat → Rat} (h : MatO w base b R C K R rb e) {i : Nat} (hi : i < R) : w.cell? ⟨b,i,none⟩ = some (.slice (some ⟨rb i,0,none⟩) C C) ∧ rb i < w.heap.size := by
  have := h.outer.cell hi
  rw [if_pos hi] at this
  exact ⟨this,(h.rows i hi).lt⟩
end Go.Proofs.YtidfgdchcpmnfaaGreat
namespace Go.Proofs.YtidfgdchcpmnfaaGreat
open Go.RowKit
set_option maxRecDepth 100000
set_option maxHeartbeats 8000000
set_option linter.unusedSimpArgs false
set_option linter.unusedVariables false
theorem mcode_q {R C : Nat} (h1 : 1 ≤ R) (h2 : R ≤ 64) (h3 : 1 ≤ C) (h4 : C ≤ 64) : mcode R (fun _ => C) (fun _ _ => true) = 0 := by
  unfold mcode
  rw [if_pos ⟨h1,h2,h3,h4,allB_iff.2 (fun i hi => by simp [rowOk,allB_iff.2 (fun j hj => rfl : ∀ j,j < C → (fun _ => true) j = true)])⟩]
theorem mcheckQ_any (v : Value) (R C K : Nat) (e : Nat → Nat → Rat) (w : World) (h : MatQ w v R C K e) (hK : K ≤ 1000000000) (h1 : 1 ≤ R) (h2 : R ≤ 64) (h3 : 1 ≤ C) (h4 : C ≤ 64) :
    Calls Tryz.prog 48 #[v] w (GI 0 w) := by
  have := mcheck_any v R K _ _ e w h hK
  rw [mcode_q h1 h2 h3 h4] at this
  exact this
theorem mchecks_any (b o n c : Nat) (w : World) (hn : n ≤ c) (hc : c ≤ 9223372036854775807) (hb : b < w.heap.size)
    (hall : ∀ k,k < n → ∃ p R C cc K e,w.cell? ⟨b,o + k,none⟩ = some (.slice p R cc) ∧ MatQ w (.slice p R cc) R C K e ∧ K ≤ 1000000000 ∧ 1 ≤ R ∧ R ≤ 64 ∧ 1 ≤ C ∧ C ≤ 64) :
    Calls Tryz.prog 141 #[.slice (some ⟨b,o,none⟩) n c] w (GI 0 w) := by
  have HA := Lib.hid hall
  have hB0 : Below w.heap.size w w := Below.refl _ _
  clear hall
  go_enter Tryz.func141,Tryz.ntmps141
  go_wp2_with fail
  go_loopw [8,4,5,9,10,11,12,13,14,15,16,17] (fun i _ _ _ _ _ _ _ _ _ _ _ wr => ∃ k : Nat,k ≤ n ∧ i = .int .i64 (k : Nat) ∧ Below w.heap.size w wr) (fun i _ _ _ _ _ _ _ _ _ _ _ _ => n - (intOf i).toNat)
  case atStart => exact ⟨0,by omega,rfl,hB0⟩
  case round =>
    obtain ⟨k,hk,rfl,hB⟩ := hrel
    by_cases hlt : k < n
    · obtain ⟨p,R,C,cc,K,e,c0,hM,hK,h1,h2,h3,h4⟩ := HA.out k hlt
      have c1 := cellB hB hb c0
      have hkd : decide (k < n) = true := by simpa using hlt
      go_wp2_with fail
      refine (mcheckQ_any _ R C K e _ (hM.below hB) hK h1 h2 h3 h4).mono ?_
      rintro e w1 ⟨rfl,hb1⟩
      go_wp2_with fail
      go_roundw
      case rel => exact ⟨k + 1,by omega,by go_num,Below.tr hB hb1⟩
      case measure => simp [intOf];omega
    · have he : k = n := by omega
      subst he
      have hkd : decide (k < k) = false := by simp
      go_wp2_with fail
      go_ret
      exact ⟨rfl,hB⟩
def GMatOC (base R C K : Nat) (e : Nat → Nat → Rat) (w : World) (x : Ending) (w' : World) : Prop := ∃ b rb,x = .returned (.tuple #[.slice (some ⟨b,0,none⟩) R R,.int .i64 0]) ∧ MatO w' base b R C K R rb e ∧ Below base w w'
theorem transpose_any (v : Value) (R C K : Nat) (e : Nat → Nat → Rat) (w : World) (h : MatQ w v R C K e) (hK : K ≤ 1000000000) (h1 : 1 ≤ R) (h2 : R ≤ 64) (h3 : 1 ≤ C) (h4 : C ≤ 64) :
    Calls Tryz.prog 102 #[v] w (GMatOC w.heap.size C R K (fun i j => e j i) w) := by
  obtain ⟨p,c,rfl,hl1,hl2⟩ := h.form
  go_enter Tryz.func102,Tryz.ntmps102
  go_wp2_with fail
  refine (mcheckQ_any _ R C K e _ h hK h1 h2 h3 h4).mono ?_
  rintro x w1 ⟨rfl,hb1⟩
  go_wp2_with fail
  refine (turned_any _ R C K e _ (h.below hb1) (by omega) (by omega) (by omega)).mono ?_
  rintro x w2 ⟨b2,rb2,rfl,hM2,hb2⟩
  go_wp2_with fail
  go_ret2
  exact ⟨_,_,rfl,hM2.base hb1.size,Below.tr hb1 hb2⟩
theorem square_any (v : Value) (R K : Nat) (e : Nat → Nat → Rat) (w : World) (h : MatQ w v R R K e) (hK : K ≤ 1000000000) (h1 : 1 ≤ R) (h2 : R ≤ 64) :
    Calls Tryz.prog 145 #[v] w (GI 0 w) := by
  obtain ⟨p,c,rfl,hl1,hl2⟩ := h.form
  obtain ⟨b,o,q,d,rfl,hbl,c0,hr⟩ := h.at_ h1
  rw [Nat.add_zero] at c0
  go_enter Tryz.func145,Tryz.ntmps145
  go_wp2_with fail
  refine (mcheckQ_any _ R R K e _ h hK h1 h2 h1 h2).mono ?_
  rintro x w1 ⟨rfl,hb1⟩
  have c1 := cellB hb1 hbl c0
  go_wp2_with fail
  go_ret
  exact ⟨rfl,hb1⟩
theorem mulC_any (B1 B2 b1 o1 b2 o2 R C M c1 c2 K i j : Nat) (e f : Nat → Nat → Rat) (w : World) (hB1 : w.cell? ⟨B1,0,none⟩ = some (.slice (some ⟨b1,o1,none⟩) R c1)) (hBl1 : B1 < w.heap.size) (ha : MatQ w (.slice (some ⟨b1,o1,none⟩) R c1) R M K e) (hi : i < R)
    (hB2 : w.cell? ⟨B2,0,none⟩ = some (.slice (some ⟨b2,o2,none⟩) C c2)) (hBl2 : B2 < w.heap.size) (hb : MatQ w (.slice (some ⟨b2,o2,none⟩) C c2) C M K f) (hj : j < C) (hK : M * (2 * K + 1) + K ≤ 99999999) :
    Calls Tryz.prog 143 #[.int .i64 (i : Nat),.int .i64 (j : Nat),.pointer (some ⟨B1,0,none⟩),.pointer (some ⟨B2,0,none⟩)] w (GQ (dotQ (e i) (f j) M) w) := by
  obtain ⟨_,_,he,hl1,hl2⟩ := ha.form
  cases he
  obtain ⟨_,_,he,hl3,hl4⟩ := hb.form
  cases he
  obtain ⟨_,_,qa,da,he,hal,ca,hra⟩ := ha.at_ hi
  cases he
  obtain ⟨_,_,qb,db,he,hbl,cb,hrb⟩ := hb.at_ hj
  cases he
  have hW : Below w.heap.size w (w.alloc (.cells #[.bool false,.slice none 0 0,.bool false,.slice none 0 0] 30)) := (Below.refl _ _).alloc (Nat.le_refl _) _
  have hsz : w.heap.size < (w.alloc (.cells #[.bool false,.slice none 0 0,.bool false,.slice none 0 0] 30)).heap.size := by simp
  have S0 : (fun w' : World => w'.cell? ⟨B1,0,none⟩ = some (.slice (some ⟨b1,o1,none⟩) R c1) ∧ w'.cell? ⟨B2,0,none⟩ = some (.slice (some ⟨b2,o2,none⟩) C c2) ∧ w'.cell? ⟨b1,o1 + i,none⟩ = some (.slice qa M da) ∧ w'.cell? ⟨b2,o2 + j,none⟩ = some (.slice qb M db) ∧ w.heap.size < w'.heap.size) (w.alloc (.cells #[.bool false,.slice none 0 0,.bool false,.slice none 0 0] 30)).drew := ⟨cellB hW.drew hBl1 hB1,cellB hW.drew hBl2 hB2,cellB hW.drew hal ca,cellB hW.drew hbl cb,hsz⟩
  have KK : ∀ A B : World,(fun w' : World => w'.cell? ⟨B1,0,none⟩ = some (.slice (some ⟨b1,o1,none⟩) R c1) ∧ w'.cell? ⟨B2,0,none⟩ = some (.slice (some ⟨b2,o2,none⟩) C c2) ∧ w'.cell? ⟨b1,o1 + i,none⟩ = some (.slice qa M da) ∧ w'.cell? ⟨b2,o2 + j,none⟩ = some (.slice qb M db) ∧ w.heap.size < w'.heap.size) A → Below A.heap.size A B → (fun w' : World => w'.cell? ⟨B1,0,none⟩ = some (.slice (some ⟨b1,o1,none⟩) R c1) ∧ w'.cell? ⟨B2,0,none⟩ = some (.slice (some ⟨b2,o2,none⟩) C c2) ∧ w'.cell? ⟨b1,o1 + i,none⟩ = some (.slice qa M da) ∧ w'.cell? ⟨b2,o2 + j,none⟩ = some (.slice qb M db) ∧ w.heap.size < w'.heap.size) B := by
    rintro A B ⟨k0,k1,k2,k3,k4⟩ hb
    have hs := hb.size
    exact ⟨cellB hb (by omega) k0,cellB hb (by omega) k1,cellB hb (by omega) k2,cellB hb (by omega) k3,by omega⟩
  have KS : ∀ (A : World) (x0 x1 x2 x3 : Value),(fun w' : World => w'.cell? ⟨B1,0,none⟩ = some (.slice (some ⟨b1,o1,none⟩) R c1) ∧ w'.cell? ⟨B2,0,none⟩ = some (.slice (some ⟨b2,o2,none⟩) C c2) ∧ w'.cell? ⟨b1,o1 + i,none⟩ = some (.slice qa M da) ∧ w'.cell? ⟨b2,o2 + j,none⟩ = some (.slice qb M db) ∧ w.heap.size < w'.heap.size) A → (fun w' : World => w'.cell? ⟨B1,0,none⟩ = some (.slice (some ⟨b1,o1,none⟩) R c1) ∧ w'.cell? ⟨B2,0,none⟩ = some (.slice (some ⟨b2,o2,none⟩) C c2) ∧ w'.cell? ⟨b1,o1 + i,none⟩ = some (.slice qa M da) ∧ w'.cell? ⟨b2,o2 + j,none⟩ = some (.slice qb M db) ∧ w.heap.size < w'.heap.size) ((((A.setCell ⟨w.heap.size,0,none⟩ x0).setCell ⟨w.heap.size,1,none⟩ x1).setCell ⟨w.heap.size,2,none⟩ x2).setCell ⟨w.heap.size,3,none⟩ x3) := by
    rintro A x0 x1 x2 x3 ⟨k0,k1,k2,k3,k4⟩
    have far : ∀ (b o : Nat) (v : Value),b < w.heap.size → A.cell? ⟨b,o,none⟩ = some v → ((((A.setCell ⟨w.heap.size,0,none⟩ x0).setCell ⟨w.heap.size,1,none⟩ x1).setCell ⟨w.heap.size,2,none⟩ x2).setCell ⟨w.heap.size,3,none⟩ x3).cell? ⟨b,o,none⟩ = some v := by
      intro b o v hb hc
      have hne : w.heap.size ≠ b := by omega
      rw [World.cell?_setCell_far _ _ _ _ (by simpa using hne),World.cell?_setCell_far _ _ _ _ (by simpa using hne),World.cell?_setCell_far _ _ _ _ (by simpa using hne),World.cell?_setCell_far _ _ _ _ (by simpa using hne)]
      exact hc
    exact ⟨far _ _ _ hBl1 k0,far _ _ _ hBl2 k1,far _ _ _ hal k2,far _ _ _ hbl k3,by simpa using k4⟩
  have hx0 : Bx (w.alloc (.cells #[.bool false,.slice none 0 0,.bool false,.slice none 0 0] 30)) w.heap.size [.bool false,.slice none 0 0,.bool false,.slice none 0 0] := by have := Bx.new w [.bool false,.slice none 0 0,.bool false,.slice none 0 0] 30;simpa using this
  have hD := dot_any qa qb M da db K (e i) (f j) (w.alloc (.cells #[.bool false,.slice none 0 0,.bool false,.slice none 0 0] 30)).drew ((hra.below hW).below (Below.refl _ _).drew) ((hrb.below hW).below (Below.refl _ _).drew) hK
  have HD := Lib.hid hD
  have hB0 := hW.drew
  clear hD ca cb hB1 hB2 hK
  go_enter Tryz.func143,Tryz.ntmps143
  go_wp2_with fail
  have tk1 : True := trivial
  go_region_held3 (fun w' : World => w'.cell? ⟨B1,0,none⟩ = some (.slice (some ⟨b1,o1,none⟩) R c1) ∧ w'.cell? ⟨B2,0,none⟩ = some (.slice (some ⟨b2,o2,none⟩) C c2) ∧ w'.cell? ⟨b1,o1 + i,none⟩ = some (.slice qa M da) ∧ w'.cell? ⟨b2,o2 + j,none⟩ = some (.slice qb M db) ∧ w.heap.size < w'.heap.size) (first | with_reducible exact S0 | with_reducible exact KK _ _ (by assumption) (by assumption) | with_reducible exact KS _ _ _ _ _ (by assumption) | (simp;done))
    (first
      | (((have := tk1;clear tk1;(with_reducible refine HD.out.mono ?_);rintro e w1 ⟨v1,rfl,hi1,hb1⟩;obtain ⟨g1,p1,n1,c1,h1,o1,m1,e1,rfl⟩ := hi1.form;have hx1 := hx0.drew.to hb1;have d0 := hx1.c0;have d1 := hx1.c1;have d2 := hx1.c2;have d3 := hx1.c3;have f0 := hx1.f0;have f1 := hx1.f1;have f2 := hx1.f2;have f3 := hx1.f3)))
    )
  go_wp2_with fail
  exact bodyPost_ret (v := .agg #[.bool g1,.slice p1 n1 c1,.bool h1,.slice o1 m1 e1]) (by simp [results,Tryz.results143,go_sem,d0,d1,d2,d3,f0,f1,f2,f3]) rfl ⟨_,rfl,hi1.sets4 hx1 rfl rfl rfl rfl _ _ _ _,Below.sets4 (Below.tr hB0 hb1) (b := w.heap.size) (Nat.le_refl _) _ _ _ _⟩
end Go.Proofs.YtidfgdchcpmnfaaGreat
namespace Go.Proofs.YtidfgdchcpmnfaaGreat
open Go.RowKit
set_option maxRecDepth 100000
set_option maxHeartbeats 8000000
set_option linter.unusedSimpArgs false
set_option linter.unusedVariables false
theorem mmul_any (v u : Value) (R M C K : Nat) (e f : Nat → Nat → Rat) (w : World) (ha : MatQ w v R M K e) (hb : MatQ w u M C K f) (hK : M * (2 * K + 1) + K ≤ 99999999) (h1 : 1 ≤ R) (h2 : R ≤ 64) (h3 : 1 ≤ M) (h4 : M ≤ 64) (h5 : 1 ≤ C) (h6 : C ≤ 64) :
    Calls Tryz.prog 103 #[v,u] w (GMatOC w.heap.size R C (M * (2 * K + 1) + 1) (fun i j => dotQ (e i) (fun k => f k j) M) w) := by
  obtain ⟨p1,c1,rfl,hl1,hl2⟩ := ha.form
  obtain ⟨p2,c2,rfl,hl3,hl4⟩ := hb.form
  obtain ⟨b1,o1,qa,da,rfl,hal,ca,hra⟩ := ha.at_ h1
  obtain ⟨b2,o2,qb,db,rfl,hbl,cb,hrb⟩ := hb.at_ h3
  rw [Nat.add_zero] at ca cb
  have h1' : 0 < R := h1
  have h3' : 0 < M := h3
  have h5' : 0 < C := h5
  have hBw1 : Below w.heap.size w (w.alloc (.cells #[.slice (some ⟨b1,o1,none⟩) R c1] 23)) := (Below.refl _ _).alloc (Nat.le_refl _) _
  have hBw2 : Below w.heap.size w ((w.alloc (.cells #[.slice (some ⟨b1,o1,none⟩) R c1] 23)).alloc (.cells #[.slice (some ⟨b1,o1,none⟩) R c1,.slice (some ⟨b2,o2,none⟩) M c2] 23)) := Below.al hBw1 _
  have x0 : Bx (w.alloc (.cells #[.slice (some ⟨b1,o1,none⟩) R c1] 23)) w.heap.size [.slice (some ⟨b1,o1,none⟩) R c1] := by have := Bx.new w [.slice (some ⟨b1,o1,none⟩) R c1] 23;simpa using this
  have x1 : Bx ((w.alloc (.cells #[.slice (some ⟨b1,o1,none⟩) R c1] 23)).alloc (.cells #[.slice (some ⟨b1,o1,none⟩) R c1,.slice (some ⟨b2,o2,none⟩) M c2] 23)) w.heap.size [.slice (some ⟨b1,o1,none⟩) R c1] := x0.alloc _
  have y1 : Bx ((w.alloc (.cells #[.slice (some ⟨b1,o1,none⟩) R c1] 23)).alloc (.cells #[.slice (some ⟨b1,o1,none⟩) R c1,.slice (some ⟨b2,o2,none⟩) M c2] 23)) (w.heap.size + 1) [.slice (some ⟨b1,o1,none⟩) R c1,.slice (some ⟨b2,o2,none⟩) M c2] := by have := Bx.new (w.alloc (.cells #[.slice (some ⟨b1,o1,none⟩) R c1] 23)) [.slice (some ⟨b1,o1,none⟩) R c1,.slice (some ⟨b2,o2,none⟩) M c2] 23;simpa using this
  have hCk := mchecks_any (w.heap.size + 1) 0 2 2 ((w.alloc (.cells #[.slice (some ⟨b1,o1,none⟩) R c1] 23)).alloc (.cells #[.slice (some ⟨b1,o1,none⟩) R c1,.slice (some ⟨b2,o2,none⟩) M c2] 23)) (by omega) (by omega) (by simp) (fun k hk => by
    obtain rfl | rfl : k = 0 ∨ k = 1 := by omega
    · exact ⟨_,R,M,c1,K,e,y1.c0,ha.below hBw2,by omega,h1,h2,h3,h4⟩
    · exact ⟨_,M,C,c2,K,f,y1.c1,hb.below hBw2,by omega,h3,h4,h5,h6⟩)
  have HCk := Lib.hid hCk
  have HK := Lib.hid hK
  have Hra := Lib.hid ca
  have Hrb := Lib.hid cb
  clear hCk hK ca cb
  go_enter Tryz.func103,Tryz.ntmps103
  go_wp2_with fail
  refine HCk.out.mono ?_
  rintro x w1 ⟨rfl,hb1⟩
  have x2 := x1.to hb1
  have d0 := x2.c0
  have hB1 := Below.tr hBw2 hb1
  have ca := cellB hB1 hal Hra.out
  go_wp2_with fail
  refine (turned_any _ M C K f _ (hb.below hB1) (by omega) (by omega) (by omega)).mono ?_
  rintro x w2 ⟨b3,rb3,rfl,hM3,hb2⟩
  have hB2 := Below.tr hB1 hb2
  have x3 := x2.to hb2
  have hc3 := hM3.toR (by omega) (by omega)
  have hlt2 := x3.1
  have hBw5 : Below w.heap.size w (w2.alloc (.cells #[.slice (some ⟨b3,0,none⟩) C C] 23)) := Below.al hB2 _
  have x5 := (x3.alloc (.cells #[.slice (some ⟨b3,0,none⟩) C C] 23))
  have y5 : Bx (w2.alloc (.cells #[.slice (some ⟨b3,0,none⟩) C C] 23)) w2.heap.size [.slice (some ⟨b3,0,none⟩) C C] := by have := Bx.new w2 [.slice (some ⟨b3,0,none⟩) C C] 23;simpa using this
  have hc5 := hc3.below (w' := (w2.alloc (.cells #[.slice (some ⟨b3,0,none⟩) C C] 23))) ((Below.refl _ _).alloc (Nat.le_refl _) _)
  have S0 : (fun w' : World => w'.cell? ⟨w.heap.size,0,none⟩ = some (.slice (some ⟨b1,o1,none⟩) R c1) ∧ w'.cell? ⟨b2,o2,none⟩ = some (.slice qb C db) ∧ w.heap.size < w'.heap.size) (w2.alloc (.cells #[.slice (some ⟨b3,0,none⟩) C C] 23)).drew := ⟨x5.c0,cellB hBw5.drew hbl Hrb.out,by simp;omega⟩
  have KK : ∀ A B : World,(fun w' : World => w'.cell? ⟨w.heap.size,0,none⟩ = some (.slice (some ⟨b1,o1,none⟩) R c1) ∧ w'.cell? ⟨b2,o2,none⟩ = some (.slice qb C db) ∧ w.heap.size < w'.heap.size) A → Below A.heap.size A B → (fun w' : World => w'.cell? ⟨w.heap.size,0,none⟩ = some (.slice (some ⟨b1,o1,none⟩) R c1) ∧ w'.cell? ⟨b2,o2,none⟩ = some (.slice qb C db) ∧ w.heap.size < w'.heap.size) B := by
    rintro A B ⟨k0,k1,k2⟩ hb
    have hs := hb.size
    exact ⟨cellB hb (by omega) k0,cellB hb (by omega) k1,by omega⟩
  have hF : ∀ (i j : Nat) (w' : World),i < R → j < C → Below (w2.alloc (.cells #[.slice (some ⟨b3,0,none⟩) C C] 23)).drew.heap.size (w2.alloc (.cells #[.slice (some ⟨b3,0,none⟩) C C] 23)).drew w' → Calls Tryz.prog 143 #[.int .i64 (i : Nat),.int .i64 (j : Nat),.pointer (some ⟨w.heap.size,0,none⟩),.pointer (some ⟨w2.heap.size,0,none⟩)] w' (GQ ((fun i j => dotQ (e i) (fun k => f k j) M) i j) w') := fun i j w' hi hj hb =>
    mulC_any w.heap.size w2.heap.size b1 o1 b3 0 R C M c1 C K i j e (fun i j => f j i) w' (cellB hb x5.1 x5.c0) (Nat.lt_of_lt_of_le x5.1 hb.size) ((ha.below hBw5.drew).below hb) hi (cellB hb y5.1 y5.c0) (Nat.lt_of_lt_of_le y5.1 hb.size) ((hc5.below (Below.refl _ _).drew).below hb) hj HK.out
  have hT := made2_any R C (M * (2 * K + 1) + 1) 143 (.pointer (some ⟨w.heap.size,0,none⟩)) (.pointer (some ⟨w2.heap.size,0,none⟩)) (fun i j => dotQ (e i) (fun k => f k j) M) (w2.alloc (.cells #[.slice (some ⟨b3,0,none⟩) C C] 23)).drew (by omega) (by omega) (fun i j hi hj => dotQ_rsz M (fun k hk => ⟨ha.rsz hi hk,hb.rsz hk hj⟩)) (fun _ _ _ _ _ => rfl) hF
  have HT := Lib.hid hT
  clear hF hT
  go_wp2_with fail
  have tk1 : True := trivial
  go_region_held3 (fun w' : World => w'.cell? ⟨w.heap.size,0,none⟩ = some (.slice (some ⟨b1,o1,none⟩) R c1) ∧ w'.cell? ⟨b2,o2,none⟩ = some (.slice qb C db) ∧ w.heap.size < w'.heap.size) (first | with_reducible exact S0 | with_reducible exact KK _ _ (by assumption) (by assumption) | (simp;done))
    (first
      | (((have := tk1;clear tk1;(with_reducible refine HT.out.mono ?_);rintro x w6 ⟨b6,rb6,rfl,hM6,hb6⟩)))
    )
  go_wp2_with fail
  go_ret2
  exact ⟨_,_,rfl,hM6.base (by simpa using hBw5.size),Below.tr hBw5.drew (by simpa using hb6)⟩
end Go.Proofs.YtidfgdchcpmnfaaGreat
namespace Go.Proofs.YtidfgdchcpmnfaaGreat
open Go.RowKit
set_option maxRecDepth 100000
set_option maxHeartbeats 8000000
set_option linter.unusedSimpArgs false
set_option linter.unusedVariables false
theorem quotient_any (v u : Value) (x y : Rat) (w : World) (fa : RQ w v x) (fb : RQ w u y) (hl : rsz x ≤ 400000000) (hl2 : rsz y ≤ 400000000) (hy : y ≠ 0) :
    Calls Tryz.prog 148 #[v,u] w (GQ (x / y) w) := by
  obtain ⟨b,p,n,c,d,o,m,e,rfl⟩ := fa.form
  obtain ⟨f,i,j,k,g,r,t,a,rfl⟩ := fb.form
  have hb1 := rsz_num x
  have hb2 := rsz_den x
  have hb3 := rsz_num y
  have hb4 := rsz_den y
  have hB_0 : Below w.heap.size w w := Below.refl _ _
  go_enter Tryz.func148,Tryz.ntmps148
  go_wp2_with fail
  obtain ⟨hA1,m0,n0,o0⟩ := bx3 w rfl [.bool b,.slice p n c,.bool d,.slice o m e] 30 [.bool f,.slice i j k,.bool g,.slice r t a] 30 [.bool false,.slice none 0 0,.bool false,.slice none 0 0] 30
  have p0 := (fa.below hA1)
  have q0 := (fb.below hA1)
  (with_reducible refine (divQ_ok _ _ (x) (y) _ p0 q0 hl hl2 hy).mono ?_)
  rintro e w1 ⟨v1,rfl,hi1,hb1⟩
  obtain ⟨g1,p1,n1,c1,h1,o1,m1,e1,rfl⟩ := hi1.form
  have q2_1 := (o0.to hb1)
  obtain ⟨a0,e0,b0,f0,c0,g0,d0,h0⟩ := q2_1.cf4
  have q0_1 := (m0.to hb1)
  have i0 := (q0_1).1
  have q1_1 := (n0.to hb1)
  have j0 := (q1_1).1
  have k0 := (q2_1).1
  obtain ⟨hA2,r0⟩ := bx1 w1 rfl [.bool g1,.slice p1 n1 c1,.bool h1,.slice o1 m1 e1] 30
  obtain ⟨hA3,s0⟩ := bx1 ((((w1.setCell ⟨w.heap.size + 1 + 1,0,none⟩ (.bool g1)).setCell ⟨w.heap.size + 1 + 1,1,none⟩ (.slice p1 n1 c1)).setCell ⟨w.heap.size + 1 + 1,2,none⟩ (.bool h1)).setCell ⟨w.heap.size + 1 + 1,3,none⟩ (.slice o1 m1 e1)) (by simp : _ = w1.heap.size) [.bool g1,.slice p1 n1 c1,.bool h1,.slice o1 m1 e1] 30
  have l0 := (Below.tr (Below.tr hB_0 hA1) hb1)
  go_wp2_with fail
  exact bodyPost_ret (v := .agg #[.bool g1,.slice p1 n1 c1,.bool h1,.slice o1 m1 e1]) (by simp [results,Tryz.results148,go_sem,i0,j0,k0,a0,e0,b0,f0,c0,g0,d0,h0]) rfl ⟨_,rfl,((hi1.sets4 q2_1 rfl rfl rfl rfl (.bool g1) (.slice p1 n1 c1) (.bool h1) (.slice o1 m1 e1)).below hA3),(Below.tr (Below.sets4 l0 (b := w.heap.size + 1 + 1) (by omega) (.bool g1) (.slice p1 n1 c1) (.bool h1) (.slice o1 m1 e1)) hA3)⟩
def subR (e f : Nat → Rat) (k : Rat) (a j : Nat) : Nat → Rat := fun c => if a ≤ c ∧ c < j then e c - k * f c else e c
theorem subR_step (e f : Nat → Rat) (k : Rat) {a j : Nat} (ha : a ≤ j) : (fun c => if c = j then e j - k * f j else subR e f k a j c) = subR e f k a (j + 1) := by
  funext c
  unfold subR
  by_cases e1 : c = j
  · subst e1;rw [if_pos rfl,if_pos ⟨ha,by omega⟩]
  · rw [if_neg e1]
    by_cases e2 : a ≤ c ∧ c < j
    · rw [if_pos e2,if_pos ⟨e2.1,by omega⟩]
    · rw [if_neg e2,if_neg (by omega)]
theorem subR_skip (e f : Nat → Rat) (k : Rat) {a j : Nat} (h : f j = 0) : subR e f k a j = subR e f k a (j + 1) := by
  funext c
  unfold subR
  by_cases e1 : c = j
  · subst e1
    rw [if_neg (by omega),h]
    split
    · grind
    · rfl
  · by_cases e2 : a ≤ c ∧ c < j
    · rw [if_pos e2,if_pos ⟨e2.1,by omega⟩]
    · rw [if_neg e2,if_neg (by omega)]
theorem subR_at (e f : Nat → Rat) (k : Rat) (a j : Nat) : subR e f k a j j = e j := by unfold subR;rw [if_neg (by omega)]
def KM : Nat := 99999999
def GSub (br n : Nat) (x : Nat → Rat) (w : World) (e : Ending) (w' : World) : Prop := e = .returned (.tuple #[]) ∧ RowO w' br n KM (fun _ => true) x ∧ w.grownBy w' (some br)
theorem subtract_any (br bo n a KA : Nat) (e f : Nat → Rat) (kv : Value) (k : Rat) (w : World) (hr : RowO w br n KM (fun _ => true) e) (ho : RowO w bo n KM (fun _ => true) f) (hne : bo ≠ br) (hk : RQ w kv k)
    (hkK : rsz k ≤ 2 * KA) (he : ∀ c,c < n → rsz (e c) ≤ KA) (hf : ∀ c,c < n → rsz (f c) ≤ KA) (hKA : 4 * KA + 1 ≤ KM) (hn : n ≤ 1000000) (ha : a ≤ n) :
    Calls Tryz.prog 147 #[.slice (some ⟨br,0,none⟩) n n,.slice (some ⟨bo,0,none⟩) n n,kv,.int .i64 (a : Nat)] w (GSub br n (subR e f k a n) w) := by
  obtain ⟨kg,kp,kn,kc,kh,ko,km,ke,rfl⟩ := hk.form
  have hKM : KM ≤ 99999999 := Nat.le_refl _
  have HE := Lib.hid he
  have HF := Lib.hid hf
  have hlr := hr.lt
  have hlo := ho.lt
  have hnu := hr.nu
  have q0 : Bx (w.alloc (.cells #[.bool kg,.slice kp kn kc,.bool kh,.slice ko km ke] 30)) w.heap.size [.bool kg,.slice kp kn kc,.bool kh,.slice ko km ke] := by have := Bx.new w [.bool kg,.slice kp kn kc,.bool kh,.slice ko km ke] 30;simpa using this
  have hB0 : Below w.heap.size w (w.alloc (.cells #[.bool kg,.slice kp kn kc,.bool kh,.slice ko km ke] 30)) := (Below.refl _ _).alloc (Nat.le_refl _) _
  have hG0 : w.grownBy (w.alloc (.cells #[.bool kg,.slice kp kn kc,.bool kh,.slice ko km ke] 30)) (some br) := grown_below (grown_refl w br) hB0
  have hr0 : RowO (w.alloc (.cells #[.bool kg,.slice kp kn kc,.bool kh,.slice ko km ke] 30)) br n KM (fun _ => true) (subR e f k a a) := (hr.below (m := 0) hB0).congr (fun _ _ => rfl) (fun c _ => by unfold subR;rw [if_neg (by omega)])
  clear he hf
  go_enter Tryz.func147,Tryz.ntmps147
  go_wp2_with fail
  go_loopw [8,10,11,12,13,14,15,16,17,18,19,20,21,22,23,24,25,26,27,28,29,30,31,32,33,34,35] (fun i _ _ _ _ _ _ _ _ _ _ _ _ _ _ _ _ _ _ _ _ _ _ _ _ _ _ wr => ∃ (j : Nat),a ≤ j ∧ j ≤ n ∧ i = .int .i64 (j : Nat) ∧ RowO wr br n KM (fun _ => true) (subR e f k a j) ∧ Bx wr w.heap.size [.bool kg,.slice kp kn kc,.bool kh,.slice ko km ke] ∧ w.grownBy wr (some br)) (fun i _ _ _ _ _ _ _ _ _ _ _ _ _ _ _ _ _ _ _ _ _ _ _ _ _ _ _ => n - (intOf i).toNat)
  case atStart => exact ⟨a,by omega,ha,rfl,hr0,q0,hG0⟩
  case round =>
    obtain ⟨j,hj1,hj,rfl,hR,hq,hG⟩ := hrel
    have hzB := hG.size
    have hlq := hq.1
    by_cases hlt : j < n
    · have hkd : decide (j < n) = true := by simpa using hlt
      have hO := ho.grown hne hG hnu
      obtain ⟨yg,yp,yn,yc,yh,yo,ym,ye,y0,y1,y2,y3,hyq,hyn⟩ := hO.cells hlt
      have hy := hyq.rq
      have ly := HF.out j hlt
      have hlo1 : bo < wr.heap.size := by omega
      have hlr1 : br < wr.heap.size := by omega
      have hW : Below wr.heap.size wr wr := Below.refl _ _
      go_wp2_with fail
      refine (signQ_any _ _ _ hy (by omega)).mono ?_
      rintro x w1 ⟨rfl,hb1⟩
      by_cases hy0 : f j = 0
      · have HD : Hid (subR e f k a j = subR e f k a (j + 1)) := Lib.hid (subR_skip e f k hy0)
        have hsg : (sgn (f j).num == 0) = true := by rw [hy0];rfl
        have hsg2 : (sgn (f j).num != 0) = false := by rw [hy0];rfl
        have HY0 := Lib.hid hy0
        clear hy0
        go_wp2_with fail
        go_roundw
        case rel => exact ⟨j + 1,by omega,by omega,by go_num,by rw [← HD.out];exact hR.below (m := 0) hb1,hq.to hb1,grown_below hG hb1⟩
        case measure => simp [intOf];omega
      · have hsg := num_ne hy0
        have hsg2 := num_ne' hy0
        have HY0 := Lib.hid hy0
        clear hy0
        have hlo2 : bo < w1.heap.size := Nat.lt_of_lt_of_le hlo1 hb1.size
        have hlr2 : br < w1.heap.size := Nat.lt_of_lt_of_le hlr1 hb1.size
        have z0 := cellB hb1 hlo1 y0
        have z1 := cellB hb1 hlo1 y1
        have z2 := cellB hb1 hlo1 y2
        have z3 := cellB hb1 hlo1 y3
        have hR1 := hR.below (m := 0) hb1
        obtain ⟨xg,xp,xn,xc,xh,xo,xm,xe,x0,x1,x2,x3,hxq,hxn⟩ := hR1.cells hlt
        have hx := hxq.rq
        have hq1 := hq.to hb1
        have v0 := hq1.c0
        have v1 := hq1.c1
        have v2 := hq1.c2
        have v3 := hq1.c3
        have hlq1 := hq1.1
        have hky := ((hk.grown hG hnu).below hb1).drew
        have hyd := (hy.below hb1).drew
        have hxd := hx.drew
        rw [subR_at] at hxd
        have lx := HE.out j hlt
        have l1 := rsz_mul k (f j)
        have l2 := rsz_sub (e j) (k * f j)
        have l3 : rsz (k * f j) ≤ 400000000 := by omega
        have l4 : rsz (e j - k * f j) ≤ KM := by omega
        have hM := mulQ_any _ _ _ _ _ hky hyd (by omega) (by omega)
        have HM := Lib.hid hM
        clear hM
        go_wp2_with fail
        have tk1 : True := trivial
        have tk2 : True := trivial
        go_region_with
          (first
            | (((have := tk1;clear tk1;(with_reducible refine HM.out.mono ?_);rintro x w2 ⟨v2,rfl,hi2,hb2⟩;obtain ⟨g2,p2,n2,c2,h2,o2,m2,e2,rfl⟩ := hi2.form;have t0 := cellB hb2 hlr2 x0;have t1 := cellB hb2 hlr2 x1;have t2 := cellB hb2 hlr2 x2;have t3 := cellB hb2 hlr2 x3;have hxe := hxd.below hb2)))
            | (((have := tk2;clear tk2;(with_reducible refine (subQ_any _ _ _ _ _ hxe hi2 (by omega) l3).mono ?_);rintro x w3 ⟨v3,rfl,hi3,hb3⟩;obtain ⟨g3,p3,n3,c3,h3,o3,m3,e3,rfl⟩ := hi3.form;have hR3 := ((hR1.below (m := 0) (Below.refl _ _).drew).below (m := 0) hb2).below (m := 0) hb3;obtain ⟨_,_,_,_,_,_,_,_,s0,s1,s2,s3,_,_⟩ := hR3.cells hlt;have f0 := hR3.frozen (j * 4);have f1 := hR3.frozen (j * 4 + 1);have f2 := hR3.frozen (j * 4 + 2);have f3 := hR3.frozen (j * 4 + 3)))))
        all_goals
          go_wp2_with fail
          go_roundw
          case rel => exact ⟨j + 1,by omega,by omega,by go_num,by rw [← subR_step e f k hj1];exact (hR3.set4 hlt (QC.of hi3 l4)).congr (fun c _ => by simp) (fun c _ => rfl),(((hq1.drew.to hb2).to hb3).otherAt (b := br) (by omega) (j * 4) _).otherAt (b := br) (by omega) (j * 4 + 1) _ |>.otherAt (b := br) (by omega) (j * 4 + 2) _ |>.otherAt (b := br) (by omega) (j * 4 + 3) _,grown_set4 (grown_below (grown_below (grown_below (grown_below hG hb1) (Below.refl _ _).drew) hb2) hb3) _ _ _ _ _⟩
          case measure => simp [intOf];omega
    · have he : j = n := by omega
      subst he
      have hkd : decide (j < j) = false := by simp
      go_wp2_with fail
      go_end0
      exact ⟨rfl,hR,hG⟩
end Go.Proofs.YtidfgdchcpmnfaaGreat
namespace Go.Proofs.YtidfgdchcpmnfaaGreat
open Go.RowKit
set_option linter.unusedSimpArgs false
set_option linter.unusedVariables false
set_option maxRecDepth 20000
structure DetS (w0 w : World) (b D n : Nat) (rb : Nat → Nat) (e : Nat → Nat → Rat) (u0 u1 u2 u3 : Value) (d : Rat) : Prop where
  q2 : Bx w w0.heap.size [.bool false,.slice none 0 0,.bool false,.slice none 0 0]
  qd : Bx w D [u0,u1,u2,u3]
  hd : RQ w (.agg #[u0,u1,u2,u3]) d
  hM : MatO w w0.heap.size b n n KM n rb e
  hbD : b ≠ D
  hrD : ∀ i,i < n → rb i ≠ D
  hD : w0.heap.size < D
  hr2 : ∀ i,i < n → rb i ≠ w0.heap.size
  hB : Below w0.heap.size w0 w
section
variable {w0 w w' : World} {b D n : Nat} {rb : Nat → Nat} {e : Nat → Nat → Rat} {u0 u1 u2 u3 : Value} {d : Rat}
theorem DetS.below (h : DetS w0 w b D n rb e u0 u1 u2 u3 d) (hb : Below w.heap.size w w') : DetS w0 w' b D n rb e u0 u1 u2 u3 d :=
  ⟨h.q2.to hb,h.qd.to hb,h.hd.below hb,h.hM.below hb,h.hbD,h.hrD,h.hD,h.hr2,Below.tr h.hB hb⟩
theorem DetS.drew (h : DetS w0 w b D n rb e u0 u1 u2 u3 d) : DetS w0 w.drew b D n rb e u0 u1 u2 u3 d := h.below (Below.refl _ _).drew
theorem RQ.nus (h : RQ w (.agg #[u0,u1,u2,u3]) d) : notU32 u0 = true ∧ notU32 u1 = true ∧ notU32 u2 = true ∧ notU32 u3 = true := by
  obtain ⟨_,_,_,_,_,_,_,_,e⟩ := h.form
  cases e
  exact ⟨rfl,rfl,rfl,rfl⟩
theorem DetS.setd (h : DetS w0 w b D n rb e u0 u1 u2 u3 d) {x0 x1 x2 x3 : Value} {q : Rat} (hq : RQ w (.agg #[x0,x1,x2,x3]) q) :
    DetS w0 ((((w.setCell ⟨D,0,none⟩ x0).setCell ⟨D,1,none⟩ x1).setCell ⟨D,2,none⟩ x2).setCell ⟨D,3,none⟩ x3) b D n rb e x0 x1 x2 x3 q := by
  have N := h.hd.nus
  have hlt : w0.heap.size ≤ D := Nat.le_of_lt h.hD
  exact ⟨h.q2.other4 (b := D) (Nat.ne_of_lt h.hD) _ _ _ _,h.qd.store4 _ _ _ _,hq.sets4 h.qd N.1 N.2.1 N.2.2.1 N.2.2.2 _ _ _ _,h.hM.box4 h.hbD h.hrD h.qd N.1 N.2.1 N.2.2.1 N.2.2.2 _ _ _ _,h.hbD,h.hrD,h.hD,h.hr2,Below.sets4 h.hB (b := D) hlt _ _ _ _⟩
theorem DetS.row (h : DetS w0 w b D n rb e u0 u1 u2 u3 d) {i : Nat} (hi : i < n) {x : Nat → Rat} (hg : w.grownBy w' (some (rb i))) (hr : RowO w' (rb i) n KM (fun _ => true) x) :
    DetS w0 w' b D n rb (fun r => if r = i then x else e r) u0 u1 u2 u3 d := by
  have hn := (h.hM.rows i hi).nu
  have hlow := (h.hM.hrb i hi).1
  exact ⟨h.q2.grown (fun e => h.hr2 i hi e.symm) hg,h.qd.grown (fun e => h.hrD i hi e.symm) hg,h.hd.grown hg hn,h.hM.row hi hg hr,h.hbD,h.hrD,h.hD,h.hr2,h.hB.grown hg h.hB.size (fun k hk => by cases hk;exact hlow)⟩
theorem DetS.congr {e' : Nat → Nat → Rat} (h : DetS w0 w b D n rb e u0 u1 u2 u3 d) (he : ∀ r c,r < n → c < n → e r c = e' r c) : DetS w0 w b D n rb e' u0 u1 u2 u3 d :=
  ⟨h.q2,h.qd,h.hd,h.hM.congr he,h.hbD,h.hrD,h.hD,h.hr2,h.hB⟩
theorem DetS.swap (h : DetS w0 w b D n rb e u0 u1 u2 u3 d) {j k : Nat} (hj : j < n) (hk : k < n) (hne : j ≠ k)
    (hw : w' = (w.setCell ⟨b,k,none⟩ (hdr n (rb j))).setCell ⟨b,j,none⟩ (hdr n (rb k)) ∨ w' = (w.setCell ⟨b,j,none⟩ (hdr n (rb k))).setCell ⟨b,k,none⟩ (hdr n (rb j))) (h2b : b ≠ w0.heap.size) :
    DetS w0 w' b D n (fun i => if i = j then rb k else if i = k then rb j else rb i) (swp e j k) u0 u1 u2 u3 d := by
  have hck : ∀ i,i < n → w.cell? ⟨b,i,none⟩ = some (hdr n (rb i)) := fun i hi => (h.hM.hd hi).1
  have hM := h.hM.swap hj hk (w' := w') (hw.elim .inl (fun a => .inr ⟨hne,a⟩))
  have hb := h.hM.hb
  have hrr : ∀ (P : Nat → Prop),(∀ i,i < n → P (rb i)) → ∀ i,i < n → P (if i = j then rb k else if i = k then rb j else rb i) := fun P hP i hi => by
    split
    · exact hP k hk
    · split
      · exact hP j hj
      · exact hP i hi
  have far : ∀ {X : Nat} {cs : List Value},X ≠ b → Bx w X cs → Bx w' X cs := fun hX q => by
    rcases hw with rfl | rfl
    · exact (q.otherAt hX _ _).otherAt hX _ _
    · exact (q.otherAt hX _ _).otherAt hX _ _
  refine ⟨far (fun e => h2b e.symm) h.q2,far (fun e => h.hbD e.symm) h.qd,?_,hM,h.hbD,hrr (fun r => r ≠ D) h.hrD,h.hD,hrr (fun r => r ≠ w0.heap.size) h.hr2,?_⟩
  · rcases hw with rfl | rfl
    · exact (h.hd.setBox (hck k hk) rfl _).setBox (a := ⟨b,j,none⟩) (u := hdr n (rb j)) (by rw [World.cell?_setCell_other _ _ _ _ (by simp;try omega)];exact hck j hj) rfl _
    · exact (h.hd.setBox (hck j hj) rfl _).setBox (a := ⟨b,k,none⟩) (u := hdr n (rb k)) (by rw [World.cell?_setCell_other _ _ _ _ (by simp;try omega)];exact hck k hk) rfl _
  · rcases hw with rfl | rfl
    · exact (h.hB.setCell (p := ⟨b,k,none⟩) hb _).setCell (p := ⟨b,j,none⟩) hb _
    · exact (h.hB.setCell (p := ⟨b,j,none⟩) hb _).setCell (p := ⟨b,k,none⟩) hb _
theorem DetS.at_ (h : DetS w0 w b D n rb e u0 u1 u2 u3 d) {i j : Nat} (hi : i < n) (hj : j < n) :
    ∃ g q m c g' q' m' c',w.cell? ⟨rb i,j * 4,none⟩ = some (.bool g) ∧ w.cell? ⟨rb i,j * 4 + 1,none⟩ = some (.slice q m c) ∧ w.cell? ⟨rb i,j * 4 + 2,none⟩ = some (.bool g') ∧ w.cell? ⟨rb i,j * 4 + 3,none⟩ = some (.slice q' m' c') ∧
      RQ w (.agg #[.bool g,.slice q m c,.bool g',.slice q' m' c']) (e i j) := by
  obtain ⟨g,q,m,c,g',q',m',c',c0,c1,c2,c3,hq,_⟩ := (h.hM.rows i hi).cells hj
  exact ⟨g,q,m,c,g',q',m',c',c0,c1,c2,c3,hq.rq⟩
end
theorem pow5_step {B n j : Nat} (hj : j < n) : B * 5 ^ (n - j) = 5 * B * 5 ^ (n - (j + 1)) := by
  rw [show n - j = n - (j + 1) + 1 by omega,Nat.pow_succ,Nat.mul_comm (5 ^ (n - (j + 1))) 5,← Nat.mul_assoc,Nat.mul_comm B 5]
theorem pow5_le (B m : Nat) : B ≤ B * 5 ^ m := Nat.le_mul_of_pos_right _ (Nat.pow_pos (by omega))
end Go.Proofs.YtidfgdchcpmnfaaGreat
