/-
  Lemmas for the statements about rotations, part 2 of 51.
-/
import Derived.Deep.RegionHeld3
import Derived.Lib.SliceRun
import Derived.Test.YtidfgdchcpmnfaaGreatZb01
namespace Go.Proofs.YtidfgdchcpmnfaaGreat
open Go.RowKit
set_option maxRecDepth 100000
set_option maxHeartbeats 400000
set_option linter.unusedSimpArgs false
set_option linter.unusedVariables false
theorem infoU32 : (Tryz.prog.info? 118).map (fun i => (i.zero,i.size,i.bytes)) = some (some (.int .u32 0),1,4) := by kernel_rfl
def cells32 (l : List Nat) : List Value := l.map fun g => .int .u32 (g : Nat)
theorem Rd.of_owns {w : World} {base : Nat} {v : Value} {l : List Nat} (h : w.ownsRow base 118 1 v l.length (cells32 l)) : Rd w v l := by
  rcases h.2 with ⟨rfl,h0⟩ | ⟨g,cap,cur,rfl,hb,hg,hn,hm,hs,ht⟩
  · exact .inl ⟨rfl,List.eq_nil_of_length_eq_zero h0⟩
  · refine .inr ⟨g,0,cap,rfl,hn,by simpa [maxLen] using hm,(Array.getElem?_eq_some_iff.1 hg).1,fun i hi => ?_⟩
    have := h.cells (g := g) rfl i (.int .u32 (gr l i : Nat)) (by simp [cells32,gr_in hi,hi])
    have e : (⟨g,0,none⟩ : Addr).add i = ⟨g,0 + i,none⟩ := by unfold Addr.add;split <;> simp_all
    rwa [e] at this
theorem dig_snoc_step {n m : Nat} {l : List Nat} (hm : 0 < m) (h : l ++ dig m = dig n) : (l ++ [m % 1000000000]) ++ dig (m / 1000000000) = dig n := by
  rw [List.append_assoc,← h,dig_pos (by omega : m ≠ 0)]
  rfl
theorem cell_one_new (w : World) (v : Value) (t : TypeId) : ∀ j u,[v][j]? = some u → (w.alloc (.cells #[v] t)).cell? ((⟨w.heap.size,0,none⟩ : Addr).add j) = some u := by
  intro j u h
  cases j with
  | zero => simp at h;subst h;simp [Addr.add,World.cell?_alloc_at]
  | succ j => simp at h
theorem split_any (n : Nat) (w : World) (hn : n < 18446744073709551616) :
    Calls Tryz.prog 115 #[.int .u64 (n : Nat)] w fun e w' => ∃ v,e = .returned v ∧ w'.ownsRow w.heap.size 118 1 v (dig n).length (cells32 (dig n)) ∧ Below w.heap.size w w' := by
  obtain ⟨i0,hi,hz0,hz1,hz2⟩ := info_parts infoU32
  have HN := Lib.hid hn
  have hlen : (dig n).length ≤ 3 := dig_length_le (by rw [BB_eq];omega)
  have HLEN := Lib.hid hlen
  clear hn hlen
  go_enter Tryz.func115,Tryz.ntmps115
  go_wp2
  go_loopw [0,3,4,5,6,7,8,9,10,11,12,13] (fun m v _ _ _ _ _ _ _ _ _ _ wr => ∃ (k : Nat) (l : List Nat),k ≤ 18446744073709551615 ∧ m = .int .u64 (k : Nat) ∧ Hid (l ++ dig k = dig n) ∧ wr.ownsRow w.heap.size 118 1 v l.length (cells32 l) ∧ Below w.heap.size w wr)
    (fun m _ _ _ _ _ _ _ _ _ _ _ _ => (intOf m).toNat)
  case atStart => exact ⟨n,[],by have := HN.out;omega,rfl,by simp [Hid],World.ownsRow_nil _ _ _ _,Below.refl _ _⟩
  case round =>
    obtain ⟨k,l,hk,rfl,hl,hown,hB⟩ := hrel
    by_cases h0 : 0 < k
    · have HS := Lib.hid (dig_snoc_step h0 hl.out)
      have hll : l.length ≤ 2 := by
        have h1 := congrArg List.length hl.out
        have h2 := HLEN.out
        rw [List.length_append,dig_pos (by omega : k ≠ 0),List.length_cons] at h1
        omega
      have hsz := hB.size
      go_wp2_with (at_builtin;refine wpList_append_own _ rfl _ _ 26 rfl w.heap.size 118 i0 (.int .u32 0) 1 4 Tryz.underlying26 hi hz0 hz1 hz2 rfl (by decide) _ _ _ rfl (hown.alloc _) ⟨wr.heap.size,0,none⟩ 1 1 [.int .u32 ((k % 1000000000 : Nat) : Int)] rfl rfl ?c1 ?c2 ?c3 ?c4 ?c5 ?_)
      case c1 => exact cell_one_new _ _ _
      case c2 => simp [Value.oneCell']
      case c3 => unfold maxLen;omega
      case c4 => omega
      case c5 => simp;omega
      intro v' w1 hown' hgrow _
      have hown2 : w1.ownsRow w.heap.size 118 1 v' (l ++ [k % 1000000000]).length (cells32 (l ++ [k % 1000000000])) := by
        rw [List.length_append,List.length_singleton]
        have : cells32 (l ++ [k % 1000000000]) = cells32 l ++ [.int .u32 ((k % 1000000000 : Nat) : Int)] := by simp [cells32]
        rw [this];exact hown'
      have hB1 : Below w.heap.size w w1 := (hB.alloc hsz _).grown hgrow (by simp;omega) (fun j e => (hown.lt j e).1)
      clear hown' hgrow
      go_wp2
      go_roundw
      case rel => exact ⟨k / 1000000000,l ++ [k % 1000000000],by omega,by go_num,HS,hown2,hB1⟩
      case measure => simp [intOf];omega
    · obtain rfl : k = 0 := by omega
      clear h0
      go_wp2
      go_ret
      have e : l = dig n := by rw [← hl.out,dig_zero,List.append_nil]
      exact ⟨_,rfl,by rw [← e];exact hown,hB⟩
end Go.Proofs.YtidfgdchcpmnfaaGreat
namespace Go.Proofs.YtidfgdchcpmnfaaGreat
open Go.RowKit
set_option maxRecDepth 100000
set_option maxHeartbeats 400000
set_option linter.unusedSimpArgs false
set_option linter.unusedVariables false
theorem wrap_neg_u64 {k : Nat} (hk : k ≤ 9223372036854775808) : IntKind.u64.wrap (-IntKind.u64.wrap (-(k : Int))) = k := by
  simp [IntKind.wrap,IntKind.bits,IntKind.signed];omega
theorem of_any (n : Int) (w : World) (h0 : -9223372036854775808 ≤ n) (h1 : n ≤ 9223372036854775807) :
    Calls Tryz.prog 69 #[.int .i64 n] w (GInt n w) := by
  by_cases hn : n < 0
  · obtain ⟨k,rfl⟩ : ∃ k : Nat,n = -(k : Int) := ⟨n.natAbs,by omega⟩
    have hk : k ≤ 9223372036854775808 := by omega
    have hk0 : 0 < k := by omega
    have hlt : decide (-(k : Int) < 0) = true := by simp;omega
    have hw := wrap_neg_u64 hk
    have HX : Hid (sg true (val (dig k)) = -(k : Int)) := by unfold Hid;rw [val_dig];rfl
    clear hn h1 h0
    go_enter Tryz.func69,Tryz.ntmps69
    go_wp2_with fail
    refine (split_any k _ (by omega)).mono ?_
    rintro e w1 ⟨v,rfl,hown,hb1⟩
    obtain ⟨hc1,hf1⟩ := bcell hb1
    have hsz : w.heap.size < w1.heap.size := by have := hb1.size;simp at this;omega
    go_wp2_with fail
    refine (made_any true _ _ _ (Rd.of_owns hown) (dig_low k)).mono ?_
    rw [HX.out]
    rintro e w2 ⟨v2,rfl,hi2,hb2⟩
    obtain ⟨g2,p2,n2,c2,rfl⟩ := hi2.form
    obtain ⟨hc2,hf2⟩ := bcell hb2
    have hsz2 : w.heap.size < w2.heap.size := Nat.lt_of_lt_of_le hsz hb2.size
    have hB : Below w.heap.size w w2 := ((Below.refl _ _).alloc (Nat.le_refl _) _).trans ((hb1.mono (by simp)).trans (hb2.mono (by omega)))
    go_wp2_with fail
    refine bodyPost_ret (v := .agg #[.bool g2,.slice p2 n2 c2]) (by simp [results,Tryz.results69,go_sem,hc2,hc1,hsz,hsz2]) rfl ⟨_,rfl,?_,?_⟩
    · exact hi2.box2 (q := false) (p := none) (n := 0) (c := 0) (by simp [hc2,hc1,hsz]) (by simp [hc2,hc1,hsz]) _ _
    · exact below_box2 hB (Nat.le_refl _) _ _
  · obtain ⟨k,rfl⟩ := Int.eq_ofNat_of_zero_le (Int.not_lt.1 hn)
    have hk : k ≤ 9223372036854775807 := by omega
    have hlt : decide ((k : Int) < 0) = false := by simp
    have HX : Hid (sg false (val (dig k)) = (k : Int)) := by unfold Hid;rw [val_dig];rfl
    clear hn h1 h0
    go_enter Tryz.func69,Tryz.ntmps69
    go_wp2_with fail
    refine (split_any k _ (by omega)).mono ?_
    rintro e w1 ⟨v,rfl,hown,hb1⟩
    obtain ⟨hc1,hf1⟩ := bcell hb1
    have hsz : w.heap.size < w1.heap.size := by have := hb1.size;simp at this;omega
    go_wp2_with fail
    refine (made_any false _ _ _ (Rd.of_owns hown) (dig_low k)).mono ?_
    rw [HX.out]
    rintro e w2 ⟨v2,rfl,hi2,hb2⟩
    obtain ⟨g2,p2,n2,c2,rfl⟩ := hi2.form
    obtain ⟨hc2,hf2⟩ := bcell hb2
    have hsz2 : w.heap.size < w2.heap.size := Nat.lt_of_lt_of_le hsz hb2.size
    have hB : Below w.heap.size w w2 := ((Below.refl _ _).alloc (Nat.le_refl _) _).trans ((hb1.mono (by simp)).trans (hb2.mono (by omega)))
    go_wp2_with fail
    refine bodyPost_ret (v := .agg #[.bool g2,.slice p2 n2 c2]) (by simp [results,Tryz.results69,go_sem,hc2,hc1,hsz,hsz2]) rfl ⟨_,rfl,?_,?_⟩
    · exact hi2.box2 (q := false) (p := none) (n := 0) (c := 0) (by simp [hc2,hc1,hsz]) (by simp [hc2,hc1,hsz]) _ _
    · exact below_box2 hB (Nat.le_refl _) _ _
end Go.Proofs.YtidfgdchcpmnfaaGreat
namespace Go.Proofs.YtidfgdchcpmnfaaGreat
open Go.RowKit
set_option maxRecDepth 100000
set_option maxHeartbeats 400000
set_option linter.unusedSimpArgs false
set_option linter.unusedVariables false
def GOwn (l : List Nat) (w : World) (e : Ending) (w' : World) : Prop := ∃ v,e = .returned v ∧ w'.ownsRow w.heap.size 118 1 v l.length (cells32 l) ∧ Below w.heap.size w w'
theorem cells32_at {w : World} {b o : Nat} {l : List Nat} (h5 : ∀ i,i < l.length → w.cell? ⟨b,o + i,none⟩ = some (.int .u32 (gr l i : Nat))) :
    ∀ j u,(cells32 l)[j]? = some u → w.cell? ((⟨b,o,none⟩ : Addr).add j) = some u := by
  intro j u hj
  have hlt : j < l.length := by
    have := (List.getElem?_eq_some_iff.1 hj).1
    simpa [cells32] using this
  have e : (⟨b,o,none⟩ : Addr).add j = ⟨b,o + j,none⟩ := by unfold Addr.add;split <;> simp_all
  rw [e,h5 j hlt,gr_in hlt,← hj]
  simp [cells32,hlt]
theorem cells32_length (l : List Nat) : (cells32 l).length = l.length * 1 := by simp [cells32]
theorem cells32_one (l : List Nat) : ∀ u ∈ cells32 l,u.oneCell' = true := by simp [cells32,Value.oneCell']
theorem clone_any (s : Value) (l : List Nat) (w : World) (hs : Rd w s l) (hl : l.length ≤ 1000000000) :
    Calls Tryz.prog 152 #[s] w (GOwn l w) := by
  rcases hs with ⟨rfl,rfl⟩ | ⟨b,o,c,rfl,h2,h3,h4,h5⟩
  · have hk := Lib.run_eql_slice_nil (P := Tryz.prog) w 26 118 none 0 0 0 0 Tryz.underlying26
    go_enter Tryz.func152,Tryz.ntmps152
    go_wp2
    go_ret
    exact ⟨_,rfl,World.ownsRow_nil _ _ _ _,Below.refl _ _⟩
  · obtain ⟨i0,hi,hz0,hz1,hz2⟩ := info_parts infoU32
    have hk := Lib.run_eql_slice_nil (P := Tryz.prog) w 26 118 (some ⟨b,o,none⟩) l.length c 0 0 Tryz.underlying26
    have H5 := Lib.hid h5
    clear h5
    go_enter Tryz.func152,Tryz.ntmps152
    go_wp2_with (at_builtin;refine wpList_append_own _ rfl _ _ 26 rfl w.heap.size 118 i0 (.int .u32 0) 1 4 Tryz.underlying26 hi hz0 hz1 hz2 rfl (by decide) _ _ _ rfl (World.ownsRow_made w #[] 0 (Nat.le_refl _) (by simp [maxLen]) (by simp)) ⟨b,o,none⟩ l.length c (cells32 l) rfl (cells32_length l) ?c1 (cells32_one l) ?c3 ?c4 ?c5 ?_)
    case c1 => exact cells32_at fun i hi => (World.cell?_alloc_lt _ _ ⟨b,o + i,none⟩ h4).trans (H5.out i hi)
    case c3 => unfold maxLen;omega
    case c4 => omega
    case c5 => simp
    intro v' w1 hown hgrow _
    have hB : Below w.heap.size w w1 := ((Below.refl _ _).alloc (Nat.le_refl _) _).grown hgrow (by simp) (fun j e => by simp [Value.ownBlock] at e;omega)
    clear hgrow
    go_wp2
    go_ret
    exact ⟨_,rfl,by simpa using hown,hB⟩
theorem Raw.sign {w : World} {b : Bool} {s : Value} {x : Int} (hv : Raw w (.agg #[.bool b,s]) x) (h : x ≠ 0) : b = decide (x < 0) := by
  obtain ⟨neg,s',l,h1,h2,h3,rfl⟩ := hv
  cases h1
  exact cnt_sign h
theorem sg_of {w : World} {b : Bool} {s : Value} {x : Int} (hv : Raw w (.agg #[.bool b,s]) x) : sg b x.natAbs = x := by
  by_cases h : x = 0
  · subst h;exact sg_zero _
  · have := hv.sign h
    unfold sg
    subst this
    by_cases h2 : x < 0 <;> simp [h2] <;> omega
theorem sg_not {w : World} {b : Bool} {s : Value} {x : Int} (hv : Raw w (.agg #[.bool b,s]) x) : sg (!b) x.natAbs = -x := by
  have := sg_of hv
  unfold sg at *
  cases b <;> simp at this ⊢ <;> omega
theorem neg_any (v : Value) (x : Int) (w : World) (hv : Raw w v x) (hl : isz x ≤ 1000000000) :
    Calls Tryz.prog 134 #[v] w (GInt (-x) w) := by
  obtain ⟨b,p,n,c,rfl⟩ := hv.form
  have HX : Hid (sg (!b) (val (dig x.natAbs)) = -x) := by unfold Hid;rw [val_dig];exact sg_not hv
  have hv1 := hv.alloc (.cells #[.bool b,.slice p n c] 28)
  have hv2 := hv1.alloc (.cells #[.bool false,.slice none 0 0] 28)
  go_enter Tryz.func134,Tryz.ntmps134
  go_wp2_with fail
  have K : ∀ A B : World,(fun w' : World => w'.cell? ⟨w.heap.size,0,none⟩ = some (.bool b) ∧ w'.cell? ⟨w.heap.size,1,none⟩ = some (.slice p n c) ∧ w.heap.size + 1 < w'.heap.size) A → Below A.heap.size A B → (fun w' : World => w'.cell? ⟨w.heap.size,0,none⟩ = some (.bool b) ∧ w'.cell? ⟨w.heap.size,1,none⟩ = some (.slice p n c) ∧ w.heap.size + 1 < w'.heap.size) B := by
    rintro A B ⟨h1,h2,h3⟩ hb
    have hs := hb.size
    exact ⟨by rw [(bcell hb).1 _ _ (by omega)];exact h1,by rw [(bcell hb).1 _ _ (by omega)];exact h2,by omega⟩
  have K2 : ∀ (A : World) (u v : Value),(fun w' : World => w'.cell? ⟨w.heap.size,0,none⟩ = some (.bool b) ∧ w'.cell? ⟨w.heap.size,1,none⟩ = some (.slice p n c) ∧ w.heap.size + 1 < w'.heap.size) A → (fun w' : World => w'.cell? ⟨w.heap.size,0,none⟩ = some (.bool b) ∧ w'.cell? ⟨w.heap.size,1,none⟩ = some (.slice p n c) ∧ w.heap.size + 1 < w'.heap.size) ((A.setCell ⟨w.heap.size + 1,0,none⟩ u).setCell ⟨w.heap.size + 1,1,none⟩ v) := by
    rintro A u v ⟨h1,h2,h3⟩
    simp [go_sem,h1,h2,h3]
  have Q0 : Bx ((w.alloc (.cells #[.bool b,.slice p n c] 28)).alloc (.cells #[.bool false,.slice none 0 0] 28)).drew (w.heap.size + 1) [.bool false,.slice none 0 0] := by
    have := Bx.new (w.alloc (.cells #[.bool b,.slice p n c] 28)) [.bool false,.slice none 0 0] 28
    rw [World.size_alloc] at this
    exact this.drew
  go_region_held3 (fun w' : World => w'.cell? ⟨w.heap.size,0,none⟩ = some (.bool b) ∧ w'.cell? ⟨w.heap.size,1,none⟩ = some (.slice p n c) ∧ w.heap.size + 1 < w'.heap.size) (first | (simp;done) | exact K _ _ (by assumption) (by assumption) | exact K2 _ _ _ (by assumption))
    (first
      | (go_at_call 119;refine (groups_any _ x _ hv2.drew).mono ?_;rintro e w1 ⟨s1,rfl,hs1,hb1⟩;have Q1 := Q0.to hb1)
      | (go_at_call 152;refine (clone_any _ _ _ hs1 hl).mono ?_;rintro e w2 ⟨s2,rfl,hs2,hb2⟩;have Q2 := Q1.to hb2)
      | (go_at_call 114;refine (made_any _ _ _ _ (Rd.of_owns hs2) (dig_low _)).mono ?_;rintro e w3 ⟨s3,rfl,hs3,hb3⟩;obtain ⟨g3,p3,n3,c3,rfl⟩ := hs3.form;have Q3 := Q2.to hb3;have q0 := Q3.c0;have q1 := Q3.c1;have r0 := Q3.f0;have r1 := Q3.f1))
  go_wp2
  have hB : Below w.heap.size w w3 := (((((Below.refl _ _).alloc (Nat.le_refl _) _).alloc (by simp) _).drew.trans (hb1.mono (by simp;omega))).trans (hb2.mono (by have := Q1.1;omega))).trans (hb3.mono (by have := Q2.1;omega))
  refine bodyPost_ret (v := .agg #[.bool g3,.slice p3 n3 c3]) (by simp [results,Tryz.results134,go_sem,q0,q1]) rfl ⟨_,rfl,?_,below_box2 hB (by omega) _ _⟩
  refine RInt.box2 ?_ q0 q1 _ _
  rw [← HX.out];exact hs3
end Go.Proofs.YtidfgdchcpmnfaaGreat
namespace Go.Proofs.YtidfgdchcpmnfaaGreat
set_option linter.unusedVariables false
theorem val_take_succ (l : List Nat) (k : Nat) : val (l.take (k + 1)) = val (l.take k) + BB ^ k * gr l k := by
  by_cases h : k < l.length
  · rw [List.take_succ_eq_append_getElem h,val_append,List.length_take,Nat.min_eq_left (by omega),gr_in h]
    simp [val_cons]
  · rw [gr_out (by omega),List.take_of_length_le (by omega),List.take_of_length_le (by omega)]
    simp
theorem val_take_all {l : List Nat} {k : Nat} (h : l.length ≤ k) : val (l.take k) = val l := by rw [List.take_of_length_le h]
theorem take_set_succ {l : List Nat} {k v : Nat} (h : k < l.length) : (l.set k v).take (k + 1) = l.take k ++ [v] := by
  rw [List.take_succ_eq_append_getElem (by simpa using h)]
  simp [List.take_set_of_le]
structure PlusInv (a b o : List Nat) (n k c : Nat) : Prop where
  len : o.length = n
  low : Low (o.take k)
  vl : val (o.take k) + BB ^ k * c = val (a.take k) + val (b.take k)
  car : c ≤ 1
theorem PlusInv.zero (a b : List Nat) (n : Nat) : PlusInv a b (List.replicate n 0) n 0 0 := ⟨by simp,by simp [Low.nil],by simp,by omega⟩
theorem PlusInv.low_step {a b o : List Nat} {n k c : Nat} (h : PlusInv a b o n k c) (hk : k < n) (hs : gr a k + gr b k + c < 1000000000) : PlusInv a b (o.set k (gr a k + gr b k + c)) n (k + 1) 0 := by
  have hl : k < o.length := by rw [h.len];exact hk
  refine ⟨by simp [h.len],?_,?_,by omega⟩
  · rw [take_set_succ hl];exact Low.append.2 ⟨h.low,Low.cons.2 ⟨hs,Low.nil⟩⟩
  · rw [take_set_succ hl,val_append,val_take_succ,val_take_succ,List.length_take,Nat.min_eq_left (by omega)]
    have := h.vl
    simp only [val_cons,val_nil]
    grind
theorem PlusInv.high_step {a b o : List Nat} {n k c s : Nat} (h : PlusInv a b o n k c) (ha : gr a k < 1000000000) (hb : gr b k < 1000000000) (hk : k < n) (hs : gr a k + gr b k + c = s + 1000000000) : PlusInv a b (o.set k s) n (k + 1) 1 := by
  have hl : k < o.length := by rw [h.len];exact hk
  have hc := h.car
  refine ⟨by simp [h.len],?_,?_,by omega⟩
  · rw [take_set_succ hl];exact Low.append.2 ⟨h.low,Low.cons.2 ⟨by rw [BB_eq];omega,Low.nil⟩⟩
  · rw [take_set_succ hl,val_append,val_take_succ,val_take_succ,List.length_take,Nat.min_eq_left (by omega),Nat.pow_succ]
    have := h.vl
    simp only [val_cons,val_nil,BB_eq] at *
    have e : 1000000000 ^ k * (gr a k + gr b k + c) = 1000000000 ^ k * (s + 1000000000) := by rw [hs]
    grind
theorem PlusInv.done {a b o : List Nat} {n c : Nat} (ha : Low a) (hb : Low b) (h : PlusInv a b o n n c) (h1 : a.length < n) (h2 : b.length < n) : Low o ∧ val o = val a + val b := by
  have ho : o.take n = o := List.take_of_length_le (by rw [h.len];exact Nat.le_refl _)
  have hv := h.vl
  have hl := h.low
  rw [ho] at hl hv
  rw [val_take_all (by omega),val_take_all (by omega)] at hv
  refine ⟨hl,?_⟩
  have e1 : val a < BB ^ (n - 1) := Nat.lt_of_lt_of_le (val_lt ha) (Nat.pow_le_pow_right BB_pos (by omega))
  have e2 : val b < BB ^ (n - 1) := Nat.lt_of_lt_of_le (val_lt hb) (Nat.pow_le_pow_right BB_pos (by omega))
  have e3 : BB ^ n = BB ^ (n - 1) * BB := by rw [← Nat.pow_succ];congr 1;omega
  have hc : c = 0 ∨ c = 1 := by have := h.car;omega
  rcases hc with rfl | rfl
  · simpa using hv
  · rw [e3,BB_eq] at hv
    rw [BB_eq] at e1 e2
    omega
structure MinusInv (a b o : List Nat) (n k c : Nat) : Prop where
  len : o.length = n
  low : Low (o.take k)
  vl : val (o.take k) + val (b.take k) = val (a.take k) + BB ^ k * c
  car : c ≤ 1
theorem MinusInv.zero (a b : List Nat) (n : Nat) : MinusInv a b (List.replicate n 0) n 0 0 := ⟨by simp,by simp [Low.nil],by simp,by omega⟩
theorem MinusInv.low_step {a b o : List Nat} {n k c s : Nat} (h : MinusInv a b o n k c) (ha : gr a k < 1000000000) (hk : k < n) (hs : gr a k = s + (gr b k + c)) : MinusInv a b (o.set k s) n (k + 1) 0 := by
  have hl : k < o.length := by rw [h.len];exact hk
  refine ⟨by simp [h.len],?_,?_,by omega⟩
  · rw [take_set_succ hl];exact Low.append.2 ⟨h.low,Low.cons.2 ⟨by rw [BB_eq];omega,Low.nil⟩⟩
  · rw [take_set_succ hl,val_append,val_take_succ,val_take_succ,List.length_take,Nat.min_eq_left (by omega)]
    have := h.vl
    simp only [val_cons,val_nil]
    have e : BB ^ k * gr a k = BB ^ k * (s + (gr b k + c)) := by rw [hs]
    grind
theorem MinusInv.high_step {a b o : List Nat} {n k c s : Nat} (h : MinusInv a b o n k c) (hb : gr b k < 1000000000) (hk : k < n) (hlt : gr a k < gr b k + c) (hs : gr a k + 1000000000 = s + (gr b k + c)) : MinusInv a b (o.set k s) n (k + 1) 1 := by
  have hl : k < o.length := by rw [h.len];exact hk
  have hc := h.car
  refine ⟨by simp [h.len],?_,?_,by omega⟩
  · rw [take_set_succ hl];exact Low.append.2 ⟨h.low,Low.cons.2 ⟨by rw [BB_eq];omega,Low.nil⟩⟩
  · rw [take_set_succ hl,val_append,val_take_succ,val_take_succ,List.length_take,Nat.min_eq_left (by omega),Nat.pow_succ]
    have := h.vl
    simp only [val_cons,val_nil,BB_eq] at *
    have e : 1000000000 ^ k * (gr a k + 1000000000) = 1000000000 ^ k * (s + (gr b k + c)) := by rw [hs]
    grind
theorem MinusInv.done {a b o : List Nat} {n c : Nat} (h : MinusInv a b o n n c) (h1 : a.length ≤ n) (h2 : b.length ≤ n) (hle : val b ≤ val a) : Low o ∧ val o = val a - val b := by
  have ho : o.take n = o := List.take_of_length_le (by rw [h.len];exact Nat.le_refl _)
  have hv := h.vl
  have hl := h.low
  rw [ho] at hl hv
  rw [val_take_all (by omega),val_take_all (by omega)] at hv
  refine ⟨hl,?_⟩
  have e1 : val o < BB ^ n := by have := val_lt hl;rwa [h.len] at this
  have hc : c = 0 ∨ c = 1 := by have := h.car;omega
  rcases hc with rfl | rfl
  · omega
  · rw [BB_eq] at hv e1
    omega
theorem gr_set {l : List Nat} {k m v : Nat} (h : k < l.length) : gr (l.set k v) m = if m = k then v else gr l m := by
  unfold gr
  rw [List.getD_eq_getElem?_getD,List.getD_eq_getElem?_getD,List.getElem?_set]
  by_cases e : k = m
  · subst e;simp [h]
  · simp [e,Ne.symm e]
theorem low_set {l : List Nat} {k v : Nat} (h : Low l) (hv : v < 1000000000) : Low (l.set k v) := by
  intro g hg
  rcases List.mem_or_eq_of_mem_set hg with h1 | h1
  · exact h g h1
  · subst h1;rw [BB_eq];exact hv
theorem take_set_ge {l : List Nat} {k m v : Nat} (h : m ≤ k) : (l.set k v).take m = l.take m := by
  simp [List.take_set_of_le h]
structure TimesOut (a b o : List Nat) (n i : Nat) : Prop where
  len : o.length = n
  low : Low o
  zero : ∀ m,i + b.length ≤ m → gr o m = 0
  vl : val (o.take (i + b.length)) = val (a.take i) * val b
structure TimesIn (o0 b o : List Nat) (n i p j c : Nat) : Prop where
  len : o.length = n
  low : Low o
  same : ∀ m,i + j ≤ m → gr o m = gr o0 m
  vl : val (o.take (i + j)) + BB ^ (i + j) * c = val (o0.take (i + j)) + BB ^ i * p * val (b.take j)
  car : c < 1000000000
theorem gr_replicate (n m : Nat) : gr (List.replicate n 0) m = 0 := by
  unfold gr
  rw [List.getD_eq_getElem?_getD,List.getElem?_replicate]
  split <;> rfl
theorem val_zeros (n : Nat) : val (List.replicate n 0) = 0 := by
  induction n with
  | zero => rfl
  | succ n ih => rw [List.replicate_succ,val_cons,ih];simp
theorem TimesOut.start (a b : List Nat) (n : Nat) : TimesOut a b (List.replicate n 0) n 0 :=
  ⟨by simp,fun g hg => by rw [(List.mem_replicate.1 hg).2];exact BB_pos,fun m _ => gr_replicate n m,by rw [List.take_replicate,val_zeros];simp⟩
theorem TimesIn.start {o0 b : List Nat} {n i p : Nat} (h1 : o0.length = n) (h2 : Low o0) : TimesIn o0 b o0 n i p 0 0 := ⟨h1,h2,fun _ _ => rfl,by simp,by omega⟩
theorem TimesIn.step {o0 b o : List Nat} {n i p j c : Nat} (h : TimesIn o0 b o n i p j c) (hp : p < 1000000000) (hq : gr b j < 1000000000) (hk : i + j < n) :
    TimesIn o0 b (o.set (i + j) ((gr o (i + j) + p * gr b j + c) % 1000000000)) n i p (j + 1) ((gr o (i + j) + p * gr b j + c) / 1000000000) := by
  have hl : i + j < o.length := by rw [h.len];exact hk
  have hc := h.car
  have hg := gr_low h.low (i + j)
  have hm : p * gr b j ≤ 999999999 * 999999999 := Nat.mul_le_mul (by omega) (by omega)
  refine ⟨by simp [h.len],low_set h.low (Nat.mod_lt _ (by omega)),?_,?_,by omega⟩
  · intro m hm
    rw [gr_set hl,if_neg (by omega)]
    exact h.same m (by omega)
  · have e1 := h.vl
    have e2 := h.same (i + j) (Nat.le_refl _)
    have e3 := val_take_succ o0 (i + j)
    have e4 := val_take_succ b j
    rw [show i + (j + 1) = (i + j) + 1 from by omega,take_set_succ hl,val_append,List.length_take,Nat.min_eq_left (by omega),e3,e4,← e2]
    simp only [val_cons,val_nil]
    have e5 := Nat.mod_add_div (gr o (i + j) + p * gr b j + c) 1000000000
    generalize (gr o (i + j) + p * gr b j + c) % 1000000000 = r at *
    generalize (gr o (i + j) + p * gr b j + c) / 1000000000 = d at *
    rw [Nat.pow_succ,Nat.pow_add] at *
    rw [BB_eq] at *
    have e6 : 1000000000 ^ i * 1000000000 ^ j * (r + 1000000000 * d) = 1000000000 ^ i * 1000000000 ^ j * (gr o (i + j) + p * gr b j + c) := by rw [e5]
    grind
theorem TimesIn.done {a b o0 o : List Nat} {n i c : Nat} (h0 : TimesOut a b o0 n i) (h : TimesIn o0 b o n i (gr a i) b.length c) (hi : i + b.length < n) : TimesOut a b (o.set (i + b.length) c) n (i + 1) := by
  have hl : i + b.length < o.length := by rw [h.len];exact hi
  refine ⟨by simp [h.len],low_set h.low h.car,?_,?_⟩
  · intro m hm
    rw [gr_set hl,if_neg (by omega),h.same m (by omega)]
    exact h0.zero m (by omega)
  · have e1 := h.vl
    have e2 := h0.vl
    have e3 := val_take_succ a i
    rw [show i + 1 + b.length = (i + b.length) + 1 from by omega,take_set_succ hl,val_append,List.length_take,Nat.min_eq_left (by omega),e3]
    rw [val_take_all (Nat.le_refl b.length)] at e1
    simp only [val_cons,val_nil]
    grind
theorem TimesOut.done {a b o : List Nat} {n : Nat} (h : TimesOut a b o n a.length) (hn : n = a.length + b.length) : val o = val a * val b := by
  have := h.vl
  rwa [List.take_of_length_le (by rw [h.len];omega),val_take_all (Nat.le_refl _)] at this
end Go.Proofs.YtidfgdchcpmnfaaGreat
namespace Go.Proofs.YtidfgdchcpmnfaaGreat
open Go.RowKit
set_option maxRecDepth 100000
set_option maxHeartbeats 400000
set_option linter.unusedSimpArgs false
set_option linter.unusedVariables false
theorem at_nat (s : Value) (l : List Nat) (k : Nat) (w : World) (hs : Rd w s l) :
    Calls Tryz.prog 170 #[s,.int .i64 (k : Nat)] w fun e w' => e = .returned (.int .u32 (gr l k : Nat)) ∧ w = w' := by
  have := at_any s l k w hs (by omega)
  rwa [Int.toNat_natCast] at this
theorem cells32_set (l : List Nat) (k v : Nat) : (cells32 l).set k (.int .u32 (v : Nat)) = cells32 (l.set k v) := by simp [cells32,List.map_set]
theorem cells32_get {l : List Nat} {k : Nat} (h : k < l.length) : (cells32 l)[k]? = some (.int .u32 (gr l k : Nat)) := by simp [cells32,gr_in h,h]
theorem cells32_made (n : Nat) : (madeCells #[Value.int .u32 0] n).toList = cells32 (List.replicate n 0) := by
  rw [toList_madeCells_one]
  simp [cells32]
theorem trim_n (p : Option Addr) (c n : Nat) (l : List Nat) (w : World) (hs : Rd w (.slice p n c) l) (hl : Low l) (hn : l.length = n) :
    Calls Tryz.prog 157 #[.slice p n c] w fun e w' => e = .returned (.slice p (trimz l).length c) ∧ w = w' := by
  subst hn
  exact trim_any p c l w hs hl
theorem ownsRow_take {w : World} {base : Nat} {e : TypeId} {g n cap : Nat} {xs : List Value} (h : w.ownsRow base e 1 (.slice (some ⟨g,0,none⟩) n cap) n xs) {m : Nat} (hm : m ≤ n) :
    w.ownsRow base e 1 (.slice (some ⟨g,0,none⟩) m cap) m (xs.take m) := by
  obtain ⟨h1,h2⟩ := h
  rcases h2 with ⟨h2,_⟩ | ⟨g',cap',cur,h3,h4,h5,h6,h7,h8,h9⟩
  · cases h2
  · cases h3
    refine ⟨by rw [List.length_take,h1];omega,.inr ⟨g,cap,cur,rfl,h4,h5,by omega,h7,h8,?_⟩⟩
    rw [← h9,List.take_take]
    congr 1
    omega
theorem owns_trim {w : World} {base g n cap : Nat} {o : List Nat} (h : w.ownsRow base 118 1 (.slice (some ⟨g,0,none⟩) n cap) n (cells32 o)) (hl : Low o) (hn : o.length = n) :
    w.ownsRow base 118 1 (.slice (some ⟨g,0,none⟩) (trimz o).length cap) (trimz o).length (cells32 (trimz o)) := by
  have := ownsRow_take h (m := (trimz o).length) (by have := trimz_length hl;omega)
  have e : cells32 (trimz o) = (cells32 o).take (trimz o).length := by
    rw [cells32,cells32,← List.map_take,← trimz_pre hl]
  rw [e];exact this
theorem plus_any (s t : Value) (a b : List Nat) (w : World) (hs : Rd w s a) (ht : Rd w t b) (ha : Low a) (hb : Low b) (la : a.length ≤ 1000000000) (lb : b.length ≤ 1000000000) :
    Calls Tryz.prog 153 #[s,t] w (GOwn (dig (val a + val b)) w) := by
  obtain ⟨i0,hi,hz0,hz1,hz2⟩ := info_parts infoU32
  obtain ⟨p,c,rfl,_,_⟩ := hs.form
  obtain ⟨q,d,rfl,_,_⟩ := ht.form
  have HA := Lib.hid ha
  have HB := Lib.hid hb
  clear ha hb
  obtain ⟨m,hm⟩ : ∃ m : Nat,(if a.length < b.length then (b.length : Int) else a.length) = m := ⟨max a.length b.length,by split <;> omega⟩
  have n1 : a.length < m + 1 := by split at hm <;> omega
  have n2 : b.length < m + 1 := by split at hm <;> omega
  have n3 : m ≤ 1000000000 := by split at hm <;> omega
  go_enter Tryz.func153,Tryz.ntmps153
  go_wp2_with (at_make;refine wpList_make_full _ rfl _ _ 26 rfl w.heap.size 118 i0 (.int .u32 0) 1 Tryz.underlying26 hi hz0 hz1 _ _ _ _ (m + 1) rfl rfl (by omega) (by omega) (by rw [hz2];omega) (by unfold maxLen;omega) (Nat.le_refl _) ?_)
  intro w1 hown hgrow
  rw [cells32_made] at hown
  have hB1 : Below w.heap.size w w1 := (Below.refl _ _).grown hgrow (Nat.le_refl _) (fun k e => by cases e)
  clear hgrow hm
  go_wp2
  go_loopw [6,7,8,18,19,20,21,22,23,24,25,26,27,28,29,30,31,32,33,34,35,36,37,38] (fun c _ _ i _ _ _ _ _ _ _ _ _ _ _ _ _ _ _ _ _ _ _ _ wr => ∃ (k e : Nat) (o : List Nat),k ≤ m + 1 ∧ i = .int .i64 (k : Nat) ∧ c = .int .u32 (e : Nat) ∧ PlusInv a b o (m + 1) k e ∧
      wr.ownsRow w.heap.size 118 1 (.slice (some ⟨w.heap.size,0,none⟩) (m + 1) (m + 1)) (m + 1) (cells32 o) ∧ Below w.heap.size w wr)
    (fun _ _ _ i _ _ _ _ _ _ _ _ _ _ _ _ _ _ _ _ _ _ _ _ _ => m + 1 - (intOf i).toNat)
  case atStart => exact ⟨0,0,_,by omega,rfl,rfl,PlusInv.zero _ _ _,hown,hB1⟩
  case round =>
    obtain ⟨k,e,o,hk,rfl,rfl,hI,hO,hB⟩ := hrel
    by_cases hlt : k < m + 1
    · have ga : gr a k ≤ 999999999 := gr_le HA.out k
      have gb : gr b k ≤ 999999999 := gr_le HB.out k
      have gc := hI.car
      have hcl : wr.cell? ⟨w.heap.size,k,none⟩ = some (.int .u32 (gr o k : Nat)) := by
        rw [hO.cellAt k (by omega)];exact cells32_get (by rw [hI.len];exact hlt)
      have hfr := hO.frozenAt k
      by_cases hsm : gr a k + gr b k + e ≤ 999999999
      · have hN := hI.low_step hlt (by omega)
        have hd : decide ((1000000000 : Int) ≤ gr a k + gr b k + e) = false := by simp;omega
        go_wp2_with fail
        refine (at_nat _ a k _ (hs.below hB)).mono ?_
        rintro e w' ⟨rfl,rfl⟩
        go_wp2_with fail
        refine (at_nat _ b k _ (ht.below hB)).mono ?_
        rintro e w' ⟨rfl,rfl⟩
        dsimp only
        go_wp2
        have hst := hO.stored k (.int .u32 (gr a k + gr b k + e : Nat))
        rw [cells32_set] at hst
        go_roundw
        case rel => exact ⟨k + 1,0,_,by omega,by go_num,rfl,hN,hst.1,hB.setCell (p := ⟨w.heap.size,k,none⟩) (Nat.le_refl _) _⟩
        case measure => simp [intOf];omega
      · obtain ⟨r,hr⟩ : ∃ r,gr a k + gr b k + e = r + 1000000000 := ⟨gr a k + gr b k + e - 1000000000,by omega⟩
        have hN := hI.high_step (by omega) (by omega) hlt hr
        have HR := Lib.hid hr
        have hrw : IntKind.u32.wrap ((gr a k : Int) + gr b k + e - 1000000000) = r := by simp [IntKind.wrap,IntKind.bits,IntKind.signed];omega
        clear hr
        have hd : decide ((1000000000 : Int) ≤ gr a k + gr b k + e) = true := by simp;omega
        go_wp2_with fail
        refine (at_nat _ a k _ (hs.below hB)).mono ?_
        rintro e w' ⟨rfl,rfl⟩
        go_wp2_with fail
        refine (at_nat _ b k _ (ht.below hB)).mono ?_
        rintro e w' ⟨rfl,rfl⟩
        dsimp only
        go_wp2
        have hst := hO.stored k (.int .u32 (r : Nat))
        rw [cells32_set] at hst
        go_roundw
        case rel => exact ⟨k + 1,1,_,by omega,by go_num,rfl,hN,hst.1,hB.setCell (p := ⟨w.heap.size,k,none⟩) (Nat.le_refl _) _⟩
        case measure => simp [intOf];omega
    · obtain rfl : k = m + 1 := by omega
      obtain ⟨hl,hv⟩ := hI.done HA.out HB.out n1 n2
      have HV : Hid (trimz o = dig (val a + val b)) := by unfold Hid trimz;rw [hv]
      clear hv
      go_wp2_with (go_at_call 157;refine (trim_n _ _ _ o _ (Rd.of_owns (by rw [hI.len];exact hO)) hl hI.len).mono ?_;rintro e w' ⟨rfl,rfl⟩)
      go_ret
      exact ⟨_,rfl,by rw [← HV.out];exact owns_trim hO hl hI.len,hB⟩
end Go.Proofs.YtidfgdchcpmnfaaGreat
namespace Go.Proofs.YtidfgdchcpmnfaaGreat
open Go.RowKit
set_option maxRecDepth 100000
set_option maxHeartbeats 400000
set_option linter.unusedSimpArgs false
set_option linter.unusedVariables false
theorem Rd.at {w : World} {p : Option Addr} {n c : Nat} {l : List Nat} (h : Rd w (.slice p n c) l) (hl : l ≠ []) : ∃ b o,p = some ⟨b,o,none⟩ ∧ b < w.heap.size ∧ ∀ i,i < l.length → w.cell? ⟨b,o + i,none⟩ = some (.int .u32 (gr l i : Nat)) := by
  rcases h with ⟨_,h⟩ | ⟨b,o,c',h1,h2,h3,h4,h5⟩
  · exact absurd h hl
  · cases h1
    exact ⟨b,o,rfl,h4,h5⟩
theorem minus_any (s t : Value) (a b : List Nat) (w : World) (hs : Rd w s a) (ht : Rd w t b) (ha : Low a) (hb : Low b) (la : a.length ≤ 1000000000) (lb : b.length ≤ a.length) (hle : val b ≤ val a) :
    Calls Tryz.prog 154 #[s,t] w (GOwn (dig (val a - val b)) w) := by
  obtain ⟨i0,hi,hz0,hz1,hz2⟩ := info_parts infoU32
  obtain ⟨p,c,rfl,_,_⟩ := hs.form
  obtain ⟨q,d,rfl,_,_⟩ := ht.form
  have HA := Lib.hid ha
  have HB := Lib.hid hb
  have HLE := Lib.hid hle
  clear ha hb hle
  go_enter Tryz.func154,Tryz.ntmps154
  go_wp2_with (at_make;refine wpList_make_full _ rfl _ _ 26 rfl w.heap.size 118 i0 (.int .u32 0) 1 Tryz.underlying26 hi hz0 hz1 _ _ _ _ a.length rfl rfl (by omega) (by omega) (by rw [hz2];omega) (by unfold maxLen;omega) (Nat.le_refl _) ?_)
  intro w1 hown hgrow
  rw [cells32_made] at hown
  have hB1 : Below w.heap.size w w1 := (Below.refl _ _).grown hgrow (Nat.le_refl _) (fun k e => by cases e)
  clear hgrow
  go_wp2
  go_loopw [6,7,8,14,15,16,17,18,19,20,21,22,23,24,25,26,27,28,29,30,31,32,33,34,35,36,37,38,39,40,41,42,43,44,45,46,47] (fun c _ _ i _ _ _ _ _ _ _ _ _ _ _ _ _ _ _ _ _ _ _ _ _ _ _ _ _ _ _ _ _ _ _ _ _ wr => ∃ (k e : Nat) (o : List Nat),k ≤ a.length ∧ i = .int .i64 (k : Nat) ∧ c = .int .u32 (e : Nat) ∧ MinusInv a b o a.length k e ∧
      wr.ownsRow w.heap.size 118 1 (.slice (some ⟨w.heap.size,0,none⟩) a.length a.length) a.length (cells32 o) ∧ Below w.heap.size w wr)
    (fun _ _ _ i _ _ _ _ _ _ _ _ _ _ _ _ _ _ _ _ _ _ _ _ _ _ _ _ _ _ _ _ _ _ _ _ _ _ => a.length - (intOf i).toNat)
  case atStart => exact ⟨0,0,_,by omega,rfl,rfl,MinusInv.zero _ _ _,hown,hB1⟩
  case round =>
    obtain ⟨k,e,o,hk,rfl,rfl,hI,hO,hB⟩ := hrel
    by_cases hlt : k < a.length
    · have ga : gr a k ≤ 999999999 := gr_le HA.out k
      have gb : gr b k ≤ 999999999 := gr_le HB.out k
      have gc := hI.car
      obtain ⟨ba,oa,rfl,hba,hca⟩ := hs.at (by intro e;subst e;simp at hlt)
      have hcell : wr.cell? ⟨ba,oa + k,none⟩ = some (.int .u32 (gr a k : Nat)) := (hB.cell (p := ⟨ba,oa + k,none⟩) hba).trans (hca k hlt)
      have HCA := Lib.hid hca
      clear hca
      have hcl : wr.cell? ⟨w.heap.size,k,none⟩ = some (.int .u32 (gr o k : Nat)) := by
        rw [hO.cellAt k (by omega)];exact cells32_get (by rw [hI.len];exact hlt)
      have hfr := hO.frozenAt k
      by_cases hsm : gr a k < gr b k + e
      · obtain ⟨r,hr⟩ : ∃ r,gr a k + 1000000000 = r + (gr b k + e) := ⟨gr a k + 1000000000 - (gr b k + e),by omega⟩
        have hN := hI.high_step (by omega) hlt hsm hr
        have HR := Lib.hid hr
        have hrw : IntKind.u32.wrap ((gr a k : Int) + 1000000000 - (gr b k + e)) = r := by simp [IntKind.wrap,IntKind.bits,IntKind.signed];omega
        have hrw2 : ((gr a k : Int) + 1000000000 - (gr b k + e)) = r := by omega
        clear hr
        have hd : decide ((gr a k : Int) < gr b k + e) = true := by simp;omega
        go_wp2_with fail
        refine (at_nat _ b k _ (ht.below hB)).mono ?_
        rintro e w' ⟨rfl,rfl⟩
        dsimp only
        go_wp2
        have hst := hO.stored k (.int .u32 (r : Nat))
        rw [cells32_set] at hst
        go_roundw
        case rel => exact ⟨k + 1,1,_,by omega,by go_num,rfl,hN,hst.1,hB.setCell (p := ⟨w.heap.size,k,none⟩) (Nat.le_refl _) _⟩
        case measure => simp [intOf];omega
      · obtain ⟨r,hr⟩ : ∃ r,gr a k = r + (gr b k + e) := ⟨gr a k - (gr b k + e),by omega⟩
        have hN := hI.low_step (by omega) hlt hr
        have HR := Lib.hid hr
        have hrw2 : ((gr a k : Int) - (gr b k + e)) = r := by omega
        have hle1 : gr b k + e ≤ gr a k := by omega
        clear hr
        have hd : decide ((gr a k : Int) < gr b k + e) = false := by simp;omega
        go_wp2_with fail
        refine (at_nat _ b k _ (ht.below hB)).mono ?_
        rintro e w' ⟨rfl,rfl⟩
        dsimp only
        go_wp2
        have hst := hO.stored k (.int .u32 (r : Nat))
        rw [cells32_set] at hst
        go_roundw
        case rel => exact ⟨k + 1,0,_,by omega,by go_num,rfl,hN,hst.1,hB.setCell (p := ⟨w.heap.size,k,none⟩) (Nat.le_refl _) _⟩
        case measure => simp [intOf];omega
    · obtain rfl : k = a.length := by omega
      obtain ⟨hl,hv⟩ := hI.done (Nat.le_refl _) lb HLE.out
      have HV : Hid (trimz o = dig (val a - val b)) := by unfold Hid trimz;rw [hv]
      clear hv
      go_wp2_with (go_at_call 157;refine (trim_n _ _ _ o _ (Rd.of_owns (by rw [hI.len];exact hO)) hl hI.len).mono ?_;rintro e w' ⟨rfl,rfl⟩)
      go_ret
      exact ⟨_,rfl,by rw [← HV.out];exact owns_trim hO hl hI.len,hB⟩
end Go.Proofs.YtidfgdchcpmnfaaGreat
