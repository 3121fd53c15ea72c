/-
  Lemmas for the statements about rotations, part 17 of 51.
-/
import Derived.Test.YtidfgdchcpmnfaaGreatZb11
import Derived.Test.YtidfgdchcpmnfaaGreatZb16
namespace Go.Proofs.YtidfgdchcpmnfaaGreat
open Go.RowKit
set_option linter.unusedSimpArgs false
set_option linter.unusedVariables false
set_option maxRecDepth 20000
theorem RowO.congr {w : World} {b n K : Nat} {ok ok' : Nat → Bool} {e e' : Nat → Rat} (h : RowO w b n K ok e) (h1 : ∀ i,i < n → ok i = ok' i) (h2 : ∀ i,i < n → e i = e' i) : RowO w b n K ok' e' := by
  obtain ⟨f,k1,k2⟩ := h
  exact ⟨f,k1,fun j hj => by rw [← h1 j hj,← h2 j hj];exact k2 j hj⟩
theorem RowO.of_same {w w' : World} {b n K : Nat} {ok : Nat → Bool} {e : Nat → Rat} (h : RowO w b n K ok e) (h1 : w'.heap[b]? = w.heap[b]?) (h2 : ∀ u0 u1 u2 u3 ok q,QC w u0 u1 u2 u3 K ok q → QC w' u0 u1 u2 u3 K ok q) : RowO w' b n K ok e := by
  obtain ⟨f,k1,k2⟩ := h
  exact ⟨f,k1.of_block h1,fun j hj => h2 _ _ _ _ _ _ (k2 j hj)⟩
theorem RowR.rsz {w : World} {s : Value} {n K : Nat} {ok : Nat → Bool} {e : Nat → Rat} (h : RowR w s n K ok e) {i : Nat} (hi : i < n) (ho : ok i = true) : rsz (e i) ≤ K := by
  obtain ⟨p,c,rfl,_,_⟩ := h.form
  obtain ⟨b,o,g,q,m,d,g',q',m',d',_,_,_,_,_,_,hr,hn⟩ := h.at_ hi
  rw [ho] at hr
  exact hr.rq.rsz_le hn
theorem RowQ.rsz {w : World} {s : Value} {n K : Nat} {e : Nat → Rat} (h : RowQ w s n K e) {i : Nat} (hi : i < n) : Go.Proofs.YtidfgdchcpmnfaaGreat.rsz (e i) ≤ K := RowR.rsz h hi rfl
theorem RowQ.below {w w' : World} {s : Value} {n K : Nat} {e : Nat → Rat} (h : RowQ w s n K e) (hb : Below w.heap.size w w') : RowQ w' s n K e := RowR.below h hb
theorem RowQ.at_ {w : World} {p : Option Addr} {n c K : Nat} {e : Nat → Rat} (h : RowQ w (.slice p n c) n K e) {k : Nat} (hk : k < n) :
    ∃ b o g q m d g' q' m' d',p = some ⟨b,o,none⟩ ∧ b < w.heap.size ∧ w.cell? ⟨b,o + k * 4,none⟩ = some (.bool g) ∧ w.cell? ⟨b,o + k * 4 + 1,none⟩ = some (.slice q m d) ∧ w.cell? ⟨b,o + k * 4 + 2,none⟩ = some (.bool g') ∧ w.cell? ⟨b,o + k * 4 + 3,none⟩ = some (.slice q' m' d') ∧
      QRaw w (.agg #[.bool g,.slice q m d,.bool g',.slice q' m' d']) true (e k) ∧ Qn (.agg #[.bool g,.slice q m d,.bool g',.slice q' m' d']) K := RowR.at_ h hk
theorem RowQ.form {w : World} {s : Value} {n K : Nat} {e : Nat → Rat} (h : RowQ w s n K e) : ∃ p c,s = .slice p n c ∧ n ≤ c ∧ c ≤ 9223372036854775807 := RowR.form h
theorem MatQ.below {w w' : World} {v : Value} {R C K : Nat} {e : Nat → Nat → Rat} (h : MatQ w v R C K e) (hb : Below w.heap.size w w') : MatQ w' v R C K e := MatR.below h hb
theorem MatQ.form {w : World} {v : Value} {R C K : Nat} {e : Nat → Nat → Rat} (h : MatQ w v R C K e) : ∃ p c,v = .slice p R c ∧ R ≤ c ∧ c ≤ 9223372036854775807 := MatR.form h
theorem MatQ.at_ {w : World} {p : Option Addr} {R C c K : Nat} {e : Nat → Nat → Rat} (h : MatQ w (.slice p R c) R C K e) {k : Nat} (hk : k < R) :
    ∃ b o q d,p = some ⟨b,o,none⟩ ∧ b < w.heap.size ∧ w.cell? ⟨b,o + k,none⟩ = some (.slice q C d) ∧ RowQ w (.slice q C d) C K (e k) := MatR.at_ h hk
def Z4 : Array Value := #[.bool false,.slice none 0 0,.bool false,.slice none 0 0]
theorem RowO.made (w : World) (C K : Nat) : RowO (w.alloc (.cells (madeCells Z4 (C * 4)) 30)) w.heap.size C K (fun _ => false) (fun _ => 0) := by
  have hs : (madeCells Z4 (C * 4)).size = C * 4 := size_madeCells _ _
  refine ⟨fun i => Z4[i % 4]!,?_,fun j hj => ?_⟩
  · have := World.rowIs_alloc w (madeCells Z4 (C * 4)) 30 (fun i => Z4[i % 4]!) (fun i hi => by
      rw [hs] at hi
      simp [madeCells,hi,Z4])
    rw [hs] at this
    exact this
  · have e0 : j * 4 % 4 = 0 := by omega
    have e1 : (j * 4 + 1) % 4 = 1 := by omega
    have e2 : (j * 4 + 2) % 4 = 2 := by omega
    have e3 : (j * 4 + 3) % 4 = 3 := by omega
    simp only [e0,e1,e2,e3]
    exact QC.zero _ _
theorem MatO.start (w : World) (R C K : Nat) (rb : Nat → Nat) (e : Nat → Nat → Rat) (base : Nat) (hb : base ≤ w.heap.size) : MatO (w.alloc (.cells (madeCells #[.slice none 0 0] R) 25)) base w.heap.size R C K 0 rb e :=
  ⟨(World.rowIs_made w (.slice none 0 0) R 25).congr (fun i _ => by rw [if_neg (by omega)]),hb,fun i hi => by omega,fun i hi => by omega,fun i j hi => by omega⟩
structure MatP (w : World) (base b R C K k j : Nat) (rb : Nat → Nat) (e : Nat → Nat → Rat) : Prop where
  outer : w.rowIs b 25 R (fun i => if i < k + 1 then .slice (some ⟨rb i,0,none⟩) C C else .slice none 0 0)
  hb : base ≤ b
  rows : ∀ i,i < k → RowO w (rb i) C K (fun _ => true) (e i)
  row : RowO w (rb k) C K (fun c => decide (c < j)) (fun c => if c < j then e k c else 0)
  hrb : ∀ i,i < k + 1 → base ≤ rb i ∧ rb i ≠ b
  inj : ∀ i j,i < k + 1 → j < k + 1 → rb i = rb j → i = j
theorem MatP.below {w w' : World} {base b R C K k j : Nat} {rb : Nat → Nat} {e : Nat → Nat → Rat} (h : MatP w base b R C K k j rb e) (hb : Below w.heap.size w w') : MatP w' base b R C K k j rb e :=
  ⟨h.outer.of_block (hb.block b h.outer.lt),h.hb,fun i hi => (h.rows i hi).below (m := 0) hb,h.row.below (m := 0) hb,h.hrb,h.inj⟩
theorem MatP.start {w : World} {base b R C K k : Nat} {rb : Nat → Nat} {e : Nat → Nat → Rat} (h : MatO w base b R C K k rb e) (hk : k < R) (hbase : base ≤ w.heap.size) :
    MatP ((w.alloc (.cells (madeCells Z4 (C * 4)) 30)).setCell ⟨b,k,none⟩ (.slice (some ⟨w.heap.size,0,none⟩) C C)) base b R C K k 0 (fun i => if i = k then w.heap.size else rb i) e := by
  have hlt := h.outer.lt
  have hne : w.heap.size ≠ b := by omega
  have hc : (w.alloc (.cells (madeCells Z4 (C * 4)) 30)).cell? ⟨b,k,none⟩ = some (.slice none 0 0) := by
    have := (h.outer.alloc (.cells (madeCells Z4 (C * 4)) 30)).cell hk
    rw [if_neg (by omega)] at this
    exact this
  refine ⟨((h.outer.alloc _).set k _).congr (fun i hi => ?_),h.hb,fun i hi => ?_,?_,fun i hi => ?_,fun i j hi hj => ?_⟩
  · by_cases e1 : i = k
    · subst e1;simp
    · simp only [if_neg e1]
      by_cases e2 : i < k
      · rw [if_pos e2,if_pos (by omega)]
      · rw [if_neg e2,if_neg (by omega)]
  · rw [if_neg (by omega)]
    exact ((h.rows i hi).below (m := 0) ((Below.refl _ _).alloc (Nat.le_refl _) _)).other (h.hrb i hi).2 hc rfl _
  · simp only [if_true]
    exact ((RowO.made w C K).other hne hc rfl _).congr (fun i _ => by simp) (fun i _ => by simp)
  · by_cases e1 : i = k
    · rw [if_pos e1];exact ⟨hbase,hne⟩
    · rw [if_neg e1];exact h.hrb i (by omega)
  · by_cases e1 : i = k
    · by_cases e2 : j = k
      · intro _;omega
      · rw [if_pos e1,if_neg e2];intro e3;have := (h.rows j (by omega)).lt;omega
    · by_cases e2 : j = k
      · rw [if_neg e1,if_pos e2];intro e3;have := (h.rows i (by omega)).lt;omega
      · rw [if_neg e1,if_neg e2];exact h.inj i j (by omega) (by omega)
theorem MatP.step {w : World} {base b R C K k j : Nat} {rb : Nat → Nat} {e : Nat → Nat → Rat} (h : MatP w base b R C K k j rb e) (hj : j < C) {x0 x1 x2 x3 : Value} (hq : QC w x0 x1 x2 x3 K true (e k j)) :
    MatP (st4 w (rb k) (j * 4) x0 x1 x2 x3) base b R C K k (j + 1) rb e := by
  have hne : b ≠ rb k := fun e1 => (h.hrb k (by omega)).2 e1.symm
  refine ⟨(((h.outer.setOther (by simpa using hne) x0).setOther (by simpa using hne) x1).setOther (by simpa using hne) x2).setOther (by simpa using hne) x3,h.hb,fun i hi => ?_,?_,h.hrb,h.inj⟩
  · exact (h.rows i hi).other4 h.row (fun e1 => by have := h.inj i k (by omega) (by omega) e1;omega) hj x0 x1 x2 x3
  · refine (h.row.set4 hj hq).congr (fun c _ => ?_) (fun c _ => ?_)
    · by_cases e1 : c = j
      · subst e1;simp
      · rw [if_neg e1];simp;omega
    · by_cases e1 : c = j
      · subst e1;simp
      · rw [if_neg e1]
        by_cases e2 : c < j
        · rw [if_pos e2,if_pos (by omega)]
        · rw [if_neg e2,if_neg (by omega)]
theorem MatP.done {w : World} {base b R C K k : Nat} {rb : Nat → Nat} {e : Nat → Nat → Rat} (h : MatP w base b R C K k C rb e) : MatO w base b R C K (k + 1) rb e := by
  refine ⟨h.outer,h.hb,fun i hi => ?_,h.hrb,h.inj⟩
  by_cases e1 : i = k
  · subst e1
    exact h.row.congr (fun c hc => by simp [hc]) (fun c hc => by simp [hc])
  · exact h.rows i (by omega)
theorem MatP.facts {w : World} {base b R C K k j : Nat} {rb : Nat → Nat} {e : Nat → Nat → Rat} (h : MatP w base b R C K k j rb e) (hk : k < R) : w.cell? ⟨b,k,none⟩ = some (.slice (some ⟨rb k,0,none⟩) C C) ∧ b < w.heap.size ∧ rb k < w.heap.size ∧ rb k ≠ b ∧ base ≤ rb k ∧ base ≤ b := by
  refine ⟨?_,h.outer.lt,h.row.lt,(h.hrb k (by omega)).2,(h.hrb k (by omega)).1,h.hb⟩
  have := h.outer.cell hk
  rwa [if_pos (by omega)] at this
theorem MatP.low {w : World} {base b R C K k j : Nat} {rb : Nat → Nat} {e : Nat → Nat → Rat} (h : MatP w base b R C K k j rb e) {w0 : World} (hb : Below base w0 w) (x0 x1 x2 x3 : Value) (o : Nat) : Below base w0 (st4 w (rb k) o x0 x1 x2 x3) := by
  have := (h.hrb k (by omega)).1
  exact (((hb.setCell (p := ⟨rb k,o,none⟩) this x0).setCell (p := ⟨rb k,o + 1,none⟩) this x1).setCell (p := ⟨rb k,o + 2,none⟩) this x2).setCell (p := ⟨rb k,o + 3,none⟩) this x3
def GMatO (base R C K : Nat) (e : Nat → Nat → Rat) (w : World) (x : Ending) (w' : World) : Prop := ∃ b rb,x = .returned (.slice (some ⟨b,0,none⟩) R R) ∧ MatO w' base b R C K R rb e ∧ Below base w w'
end Go.Proofs.YtidfgdchcpmnfaaGreat
namespace Go.Proofs.YtidfgdchcpmnfaaGreat
open Go.RowKit
set_option maxRecDepth 100000
set_option maxHeartbeats 4000000
set_option linter.unusedSimpArgs false
set_option linter.unusedVariables false
def allB (n : Nat) (ok : Nat → Bool) : Bool := (List.range n).all ok
theorem allB_iff {n : Nat} {ok : Nat → Bool} : allB n ok = true ↔ ∀ i,i < n → ok i = true := by
  unfold allB;rw [List.all_eq_true];simp
theorem allB_no {n : Nat} {ok : Nat → Bool} {k : Nat} (hk : k < n) (h : ok k = false) : allB n ok = false := by
  cases h2 : allB n ok
  · rfl
  · have := allB_iff.1 h2 k hk;rw [h] at this;cases this
def GIdx (all : Bool) (w : World) (e : Ending) (w' : World) : Prop := ∃ x : Int,e = .returned (.int .i64 x) ∧ decide (0 ≤ x) = !all ∧ Below w.heap.size w w'
def GB (b : Bool) (w : World) (e : Ending) (w' : World) : Prop := e = .returned (.bool b) ∧ Below w.heap.size w w'
def GI (x : Int) (w : World) (e : Ending) (w' : World) : Prop := e = .returned (.int .i64 x) ∧ Below w.heap.size w w'
theorem canonC_any (v : Value) (ok : Bool) (q : Rat) (w : World) (h : QRaw w v ok q) (hn : Qn v 1000000000) :
    Calls Tryz.prog 139 #[v] w (GB (!ok) w) := by
  obtain ⟨b,p,n,c,d,o,m,e,rfl⟩ := h.form
  have hB_0 : Below w.heap.size w w := Below.refl _ _
  go_enter Tryz.func139,Tryz.ntmps139
  go_wp2_with fail
  obtain ⟨hA1,c0⟩ := bx1 w rfl [.bool b,.slice p n c,.bool d,.slice o m e] 30
  have b0 := (h.below hA1)
  (with_reducible refine (validQ_any _ _ _ _ b0 hn).mono ?_)
  rintro e w1 ⟨rfl,hb1⟩
  have a0 := (Below.tr (Below.tr hB_0 hA1) hb1)
  go_wp2_with fail
  go_ret
  exact ⟨rfl,a0⟩
theorem Qn.mono {v : Value} {K K' : Nat} (h : Qn v K) (hK : K ≤ K') : Qn v K' := by
  obtain ⟨b,p,n,c,b',p',n',c',e,l1,l2⟩ := h
  exact ⟨b,p,n,c,b',p',n',c',e,by omega,by omega⟩
theorem idxR_any (s : Value) (n K : Nat) (ok : Nat → Bool) (e : Nat → Rat) (w : World) (h : RowR w s n K ok e) (hK : K ≤ 1000000000) :
    Calls Tryz.prog 165 #[s,.func (.func 139) #[] #[]] w (GIdx (allB n ok) w) := by
  obtain ⟨p,c,rfl,h1,h2⟩ := h.form
  have hB0 : Below w.heap.size w w := Below.refl _ _
  go_enter Tryz.func165,Tryz.ntmps165
  go_wp2_with fail
  go_loopw [8,5,10,11,12,13,14,15,16,18] (fun i _ _ _ _ _ _ _ _ _ wr => ∃ k : Nat,k ≤ n ∧ i = .int .i64 (k : Nat) ∧ Hid (∀ j,j < k → ok j = true) ∧ Below w.heap.size w wr) (fun i _ _ _ _ _ _ _ _ _ _ => n - (intOf i).toNat)
  case atStart => exact ⟨0,by omega,rfl,Lib.hid (fun j hj => by omega),hB0⟩
  case round =>
    obtain ⟨k,hk,rfl,HJ,hB⟩ := hrel
    by_cases hlt : k < n
    · obtain ⟨b,o,g,q,m,d,g',q',m',d',rfl,hlb,c0,c1,c2,c3,hq,hqn⟩ := (h.below hB).at_ hlt
      have hqn := hqn.mono hK
      have hkd : decide (k < n) = true := by simpa using hlt
      cases hok : ok k
      · have HA := Lib.hid (allB_no hlt hok)
        rw [hok] at hq
        have HOK := Lib.hid hok
        clear hok
        go_wp2_with fail
        refine (canonC_any _ _ _ _ hq hqn).mono ?_
        rintro e w1 ⟨rfl,hb1⟩
        go_wp2_with fail
        go_ret
        exact ⟨_,rfl,by rw [HA.out];simp,Below.tr hB hb1⟩
      · rw [hok] at hq
        have HOK := Lib.hid hok
        clear hok
        go_wp2_with fail
        refine (canonC_any _ _ _ _ hq hqn).mono ?_
        rintro e w1 ⟨rfl,hb1⟩
        go_wp2_with fail
        go_roundw
        case rel => exact ⟨k + 1,by omega,by go_num,Lib.hid (fun j hj => if e : j < k then HJ.out j e else by rw [show j = k by omega];exact HOK.out),Below.tr hB hb1⟩
        case measure => simp [intOf];omega
    · obtain rfl : k = n := by omega
      have HA : Hid (allB k ok = true) := Lib.hid (allB_iff.2 HJ.out)
      have hkd : decide (k < k) = false := by simp
      go_wp2_with fail
      go_ret
      exact ⟨_,rfl,by rw [HA.out];simp,hB⟩
theorem contR_any (s : Value) (n K : Nat) (ok : Nat → Bool) (e : Nat → Rat) (w : World) (h : RowR w s n K ok e) (hK : K ≤ 1000000000) :
    Calls Tryz.prog 138 #[s,.func (.func 139) #[] #[]] w (GB (!allB n ok) w) := by
  go_enter Tryz.func138,Tryz.ntmps138
  go_wp2_with fail
  refine (idxR_any s n K ok e _ h hK).mono ?_
  rintro e w1 ⟨x,rfl,hx,hb1⟩
  have HX := Lib.hid hx
  clear hx
  go_wp2_with fail
  go_ret
  exact ⟨ret_bool HX.out,hb1⟩
theorem mcanon_any (s : Value) (n K : Nat) (ok : Nat → Bool) (e : Nat → Rat) (w : World) (h : RowR w s n K ok e) (hK : K ≤ 1000000000) :
    Calls Tryz.prog 101 #[s] w (GB (allB n ok) w) := by
  go_enter Tryz.func101,Tryz.ntmps101
  go_wp2_with fail
  refine (contR_any s n K ok e _ h hK).mono ?_
  rintro e w1 ⟨rfl,hb1⟩
  go_wp2_with fail
  go_ret
  exact ⟨by simp,hb1⟩
end Go.Proofs.YtidfgdchcpmnfaaGreat
namespace Go.Proofs.YtidfgdchcpmnfaaGreat
open Go.RowKit
set_option maxRecDepth 100000
set_option maxHeartbeats 4000000
set_option linter.unusedSimpArgs false
set_option linter.unusedVariables false
def rowOk (L : Nat → Nat) (ok : Nat → Nat → Bool) (i : Nat) : Bool := decide (L i = L 0) && allB (L i) (ok i)
def mcode (R : Nat) (L : Nat → Nat) (ok : Nat → Nat → Bool) : Int := if 1 ≤ R ∧ R ≤ 64 ∧ 1 ≤ L 0 ∧ L 0 ≤ 64 ∧ allB R (rowOk L ok) = true then 0 else 1
theorem chkC_any (s : Value) (n n0 K R c d B b o : Nat) (q : Option Addr) (ok : Nat → Bool) (e : Nat → Rat) (w : World) (h : RowR w s n K ok e) (hK : K ≤ 1000000000) (hR : 0 < R) (hc : R ≤ c)
    (hB : w.cell? ⟨B,0,none⟩ = some (.slice (some ⟨b,o,none⟩) R c)) (h0 : w.cell? ⟨b,o,none⟩ = some (.slice q n0 d)) :
    Calls Tryz.prog 100 #[s,.pointer (some ⟨B,0,none⟩)] w (GB (!(decide (n = n0) && allB n ok)) w) := by
  obtain ⟨p,cc,rfl,h1,h2⟩ := h.form
  have hB0 : Below w.heap.size w w := Below.refl _ _
  by_cases hn : n = n0
  · subst hn
    go_enter Tryz.func100,Tryz.ntmps100
    go_wp2_with fail
    refine (mcanon_any _ n K ok e _ h hK).mono ?_
    rintro e w1 ⟨rfl,hb1⟩
    go_wp2_with fail
    refine bodyPost_ret (v := .bool (!allB n ok)) (by simp [results,Tryz.results100,go_sem]) rfl ?_
    exact ⟨by simp,hb1⟩
  · have hd : (n != n0) = true := by simpa using hn
    have hd2 : (n == n0) = false := by simpa using hn
    have hd3 : ¬ ((n : Int) = (n0 : Int)) := by omega
    have HN := Lib.hid hn
    clear hn
    go_enter Tryz.func100,Tryz.ntmps100
    go_wp2_with fail
    refine bodyPost_ret (v := .bool true) (by simp [results,Tryz.results100,go_sem]) rfl ?_
    exact ⟨by simp [HN.out],hB0⟩
theorem idxM_any (v : Value) (R K B c b o : Nat) (L : Nat → Nat) (ok : Nat → Nat → Bool) (e : Nat → Nat → Rat) (w : World) (h : MatR w (.slice (some ⟨b,o,none⟩) R c) R L K ok e) (hK : K ≤ 1000000000) (hR : 0 < R) (hBl : B < w.heap.size)
    (hB : w.cell? ⟨B,0,none⟩ = some (.slice (some ⟨b,o,none⟩) R c)) :
    Calls Tryz.prog 137 #[.slice (some ⟨b,o,none⟩) R c,.func (.func 100) #[] #[.pointer (some ⟨B,0,none⟩)]] w (GIdx (allB R (rowOk L ok)) w) := by
  obtain ⟨_,_,he,h1,h2⟩ := h.form
  cases he
  have hB0 : Below w.heap.size w w := Below.refl _ _
  have HB := Lib.hid hB
  clear hB
  go_enter Tryz.func137,Tryz.ntmps137
  go_wp2_with fail
  go_loopw [8,5,10,11,12,13,14,15,16,18] (fun i _ _ _ _ _ _ _ _ _ wr => ∃ k : Nat,k ≤ R ∧ i = .int .i64 (k : Nat) ∧ Hid (∀ j,j < k → rowOk L ok j = true) ∧ Below w.heap.size w wr) (fun i _ _ _ _ _ _ _ _ _ _ => R - (intOf i).toNat)
  case atStart => exact ⟨0,by omega,rfl,Lib.hid (fun j hj => by omega),hB0⟩
  case round =>
    obtain ⟨k,hk,rfl,HJ,hBw⟩ := hrel
    by_cases hlt : k < R
    · obtain ⟨b',o',q,d,he,hlb,c0,hr⟩ := (h.below hBw).at_ hlt
      cases he
      obtain ⟨b',o',q0,d0,he,hlb0,c00,hr0⟩ := (h.below hBw).at_ hR
      cases he
      rw [Nat.add_zero] at c00
      have HCB : Hid (wr.cell? ⟨B,0,none⟩ = some (.slice (some ⟨b,o,none⟩) R c)) := Lib.hid (by rw [(bcell hBw).1 _ _ hBl];exact HB.out)
      have H00 := Lib.hid c00
      clear c00
      have hkd : decide (k < R) = true := by simpa using hlt
      cases hok : rowOk L ok k
      · have HA := Lib.hid (allB_no hlt hok)
        have HOK := Lib.hid hok
        clear hok
        go_wp2_with fail
        refine (chkC_any _ _ _ _ _ _ _ _ _ _ _ _ _ _ hr hK hR h1 HCB.out H00.out).mono ?_
        have HOK' := HOK.out
        unfold rowOk at HOK'
        rw [HOK']
        rintro e w1 ⟨rfl,hb1⟩
        clear HOK'
        go_wp2_with fail
        go_ret
        exact ⟨_,rfl,by rw [HA.out];simp,Below.tr hBw hb1⟩
      · have HOK := Lib.hid hok
        clear hok
        go_wp2_with fail
        refine (chkC_any _ _ _ _ _ _ _ _ _ _ _ _ _ _ hr hK hR h1 HCB.out H00.out).mono ?_
        have HOK' := HOK.out
        unfold rowOk at HOK'
        rw [HOK']
        rintro e w1 ⟨rfl,hb1⟩
        clear HOK'
        go_wp2_with fail
        go_roundw
        case rel => exact ⟨k + 1,by omega,by go_num,Lib.hid (fun j hj => if e : j < k then HJ.out j e else by rw [show j = k by omega];exact HOK.out),Below.tr hBw hb1⟩
        case measure => simp [intOf];omega
    · obtain rfl : k = R := by omega
      have HA : Hid (allB k (rowOk L ok) = true) := Lib.hid (allB_iff.2 HJ.out)
      have hkd : decide (k < k) = false := by simp
      go_wp2_with fail
      go_ret
      exact ⟨_,rfl,by rw [HA.out];simp,hBw⟩
theorem contM_any (R K B c b o : Nat) (L : Nat → Nat) (ok : Nat → Nat → Bool) (e : Nat → Nat → Rat) (w : World) (h : MatR w (.slice (some ⟨b,o,none⟩) R c) R L K ok e) (hK : K ≤ 1000000000) (hR : 0 < R) (hBl : B < w.heap.size)
    (hB : w.cell? ⟨B,0,none⟩ = some (.slice (some ⟨b,o,none⟩) R c)) :
    Calls Tryz.prog 99 #[.slice (some ⟨b,o,none⟩) R c,.func (.func 100) #[] #[.pointer (some ⟨B,0,none⟩)]] w (GB (!allB R (rowOk L ok)) w) := by
  have HB := Lib.hid hB
  clear hB
  go_enter Tryz.func99,Tryz.ntmps99
  go_wp2_with fail
  refine (idxM_any (.slice none 0 0) R K B c b o L ok e _ h hK hR hBl HB.out).mono ?_
  rintro e w1 ⟨x,rfl,hx,hb1⟩
  have HX := Lib.hid hx
  clear hx
  go_wp2_with fail
  go_ret
  exact ⟨ret_bool HX.out,hb1⟩
theorem mcheck_any (v : Value) (R K : Nat) (L : Nat → Nat) (ok : Nat → Nat → Bool) (e : Nat → Nat → Rat) (w : World) (h : MatR w v R L K ok e) (hK : K ≤ 1000000000) :
    Calls Tryz.prog 48 #[v] w (GI (mcode R L ok) w) := by
  obtain ⟨p,c,rfl,h1,h2⟩ := h.form
  have hB1 : Below w.heap.size w (w.alloc (.cells #[.slice p R c] 23)) := (Below.refl _ _).alloc (Nat.le_refl _) _
  by_cases hr : 1 ≤ R ∧ R ≤ 64
  · obtain ⟨hr1,hr2⟩ := hr
    obtain ⟨b,o,q,d,rfl,hlb,c0,hr0⟩ := h.at_ (k := 0) (by omega)
    rw [Nat.add_zero] at c0
    have c0' : (w.alloc (.cells #[.slice (some ⟨b,o,none⟩) R c] 23)).cell? ⟨b,o,none⟩ = some (.slice q (L 0) d) := by rw [(bcell hB1).1 _ _ hlb];exact c0
    have hd1 : decide ((R : Int) < 1) = false := by simp;omega
    have hd2 : decide (64 < (R : Int)) = false := by simp;omega
    generalize hL : L 0 = l at *
    by_cases hl : 1 ≤ l ∧ l ≤ 64
    · obtain ⟨hl1,hl2⟩ := hl
      have hd3 : decide ((l : Int) < 1) = false := by simp;omega
      have hd4 : decide (64 < (l : Int)) = false := by simp;omega
      have HC : ∀ A,Hid (allB R (rowOk L ok) = A → mcode R L ok = if A then 0 else 1) := fun A => Lib.hid (fun hA => by
        unfold mcode
        rw [hL,hA]
        cases A
        · rw [if_neg (by simp)];rfl
        · rw [if_pos ⟨hr1,hr2,hl1,hl2,rfl⟩];rfl)
      have hM : MatR (w.alloc (.cells #[.slice (some ⟨b,o,none⟩) R c] 23)) (.slice (some ⟨b,o,none⟩) R c) R L K ok e := h.below ((Below.refl _ _).alloc (Nat.le_refl _) _)
      have hcB : (w.alloc (.cells #[.slice (some ⟨b,o,none⟩) R c] 23)).cell? ⟨w.heap.size,0,none⟩ = some (.slice (some ⟨b,o,none⟩) R c) := by rw [World.cell?_alloc_at _ _ _ _ rfl];rfl
      have HcB := Lib.hid hcB
      have HL := Lib.hid hL
      clear hcB hL c0
      cases hA : allB R (rowOk L ok)
      all_goals
        have HA := (HC _).out hA
        have HA := Lib.hid HA
        clear HC
        have HQ := Lib.hid hA
        clear hA
        go_enter Tryz.func48,Tryz.ntmps48
        go_wp2_with fail
        refine (contM_any R K w.heap.size c b o L ok e _ hM hK (by omega) (by simp) HcB.out).mono ?_
        rw [HQ.out]
        rintro e w1 ⟨rfl,hb1⟩
        go_wp2_with fail
        go_ret
        exact ⟨ret_int (by rw [HA.out];rfl),Below.tr hB1 hb1⟩
    · have HM : Hid (mcode R L ok = 1) := Lib.hid (by unfold mcode;rw [hL,if_neg (by omega)])
      have HL := Lib.hid hL
      clear hL c0
      rcases (by omega : l = 0 ∨ 64 < l) with hz | hz
      · subst hz
        go_enter Tryz.func48,Tryz.ntmps48
        go_wp2_with fail
        go_ret
        exact ⟨ret_int HM.out.symm,hB1⟩
      · have hd3 : decide ((l : Int) < 1) = false := by simp;omega
        have hd4 : decide (64 < (l : Int)) = true := by simp;omega
        go_enter Tryz.func48,Tryz.ntmps48
        go_wp2_with fail
        go_ret
        exact ⟨ret_int HM.out.symm,hB1⟩
  · have HM : Hid (mcode R L ok = 1) := Lib.hid (by unfold mcode;rw [if_neg (by omega)])
    rcases (by omega : R = 0 ∨ 64 < R) with hz | hz
    · subst hz
      go_enter Tryz.func48,Tryz.ntmps48
      go_wp2_with fail
      go_ret
      exact ⟨ret_int HM.out.symm,hB1⟩
    · have hd3 : decide ((R : Int) < 1) = false := by simp;omega
      have hd4 : decide (64 < (R : Int)) = true := by simp;omega
      go_enter Tryz.func48,Tryz.ntmps48
      go_wp2_with fail
      go_ret
      exact ⟨ret_int HM.out.symm,hB1⟩
end Go.Proofs.YtidfgdchcpmnfaaGreat
