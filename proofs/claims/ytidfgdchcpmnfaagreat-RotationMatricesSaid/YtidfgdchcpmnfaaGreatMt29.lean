/-
  Lemmas for the theorem vmats_holds, part 29 of 32.
-/
import Derived.Test.YtidfgdchcpmnfaaGreatMt08
import Derived.Test.YtidfgdchcpmnfaaGreatMt18
import Derived.Test.YtidfgdchcpmnfaaGreatMt28
namespace Go.Proofs.YtidfgdchcpmnfaaGreat
open Go Go.RowKit
set_option maxRecDepth 100000
set_option maxHeartbeats 400000
set_option linter.unusedVariables false
set_option linter.unusedSimpArgs false
abbrev QL : Type := List Rat
abbrev QM : Type := List (List Rat)
def smallL (xs : QL) : Prop := ∀ q ∈ xs,rsz q ≤ 190000000
def smallM (m : QM) : Prop := ∀ r ∈ m,smallL r
theorem smallL.at_ {xs : QL} (h : smallL xs) (i : Nat) : rsz (xs.getD i 0) ≤ 190000000 := by
  by_cases hi : i < xs.length
  · rw [List.getD_eq_getElem?_getD,List.getElem?_eq_getElem hi,Option.getD_some]
    exact h _ (List.getElem_mem hi)
  · rw [List.getD_eq_getElem?_getD,List.getElem?_eq_none (by omega),Option.getD_none,rsz_zero];omega
theorem smallM.at_ {m : QM} (h : smallM m) (i : Nat) : smallL (m.getD i []) := by
  by_cases hi : i < m.length
  · rw [List.getD_eq_getElem?_getD,List.getElem?_eq_getElem hi,Option.getD_some]
    exact h _ (List.getElem_mem hi)
  · rw [List.getD_eq_getElem?_getD,List.getElem?_eq_none (by omega),Option.getD_none]
    intro q hq;cases hq
theorem take_next {α : Type} {xs ys : List α} {i : Nat} (d : α) (h : xs.take i = ys.take i) (h1 : i < xs.length) (h2 : i < ys.length) (e : xs.getD i d = ys.getD i d) : xs.take (i + 1) = ys.take (i + 1) := by
  rw [List.take_add_one,List.take_add_one,h]
  rw [List.getD_eq_getElem?_getD,List.getD_eq_getElem?_getD,List.getElem?_eq_getElem h1,List.getElem?_eq_getElem h2] at e
  rw [List.getElem?_eq_getElem h1,List.getElem?_eq_getElem h2]
  simp only [Option.getD_some] at e
  rw [e]
theorem wrap_id {n : Int} (h0 : -9223372036854775808 ≤ n) (h1 : n ≤ 9223372036854775807) : IntKind.wrap .i64 n = n := by
  unfold IntKind.wrap
  simp only [IntKind.bits,IntKind.signed,Bool.true_and,decide_eq_true_eq,Nat.reduceSub,Int.reducePow,ge_iff_le]
  split <;> omega
abbrev SLι {α : Type} (xs ys : List α) : Type := {i : Nat // xs.length = ys.length → i ≤ xs.length ∧ xs.take i = ys.take i}
def cSL : Ctr := ⟨[.list tQ,.list tQ],[tB],fun x => smallL x.1 ∧ smallL x.2.1 ∧ (show QL from x.1).length ≤ 1000000000,fun x => ((show QL from x.1) == (show QL from x.2.1),())⟩
theorem sameList_ctr : CtrOk Tryz.prog 121 cSL := by
  refine ctr_fn LQ [] Tryz.func121 rfl (by decide) (fun x => [.inv (SLι (α := Rat) x.1 x.2.1) (fun i => [(5,.val tI (i.1 : Int))]) (fun i => []) (fun i => (show QL from x.1).length + 1 - i.1) ⟨0,fun h => ⟨Nat.zero_le _,rfl⟩⟩ (fun _ => [])]) (fun x hp => ?_)
  obtain ⟨x,y,u⟩ := x
  change QL at x
  change QL at y
  refine vc_of (ifB (natI (List.length x) != natI (List.length y)) (True ∧ false = (x == y) ∧ True) ((0 = natI 0 ∧ True) ∧ ∀ (i : SLι x y),true = true ∧ ifB (decide (natI (sval i) < natI (List.length x))) ((0 ≤ natI (sval i) ∧ natI (sval i) < natI (List.length x) ∧ 0 ≤ natI (sval i) ∧ natI (sval i) < natI (List.length y) ∧ (rsz (List.getD x (Int.toNat (natI (sval i))) 0) ≤ 190000000 ∧ rsz (List.getD y (Int.toNat (natI (sval i))) 0) ≤ 190000000) ∧ True) ∧ ifB (!decide (List.getD x (Int.toNat (natI (sval i))) 0 = List.getD y (Int.toNat (natI (sval i))) 0)) (True ∧ false = (x == y) ∧ True) (∃ (i' : SLι x y),List.length x + 1 - sval i' < List.length x + 1 - sval i ∧ IntKind.wrap IntKind.i64 (natI (sval i) + 1) = natI (sval i') ∧ True)) (True ∧ true = (x == y) ∧ True))) (by kernel_rfl) ?_
  obtain ⟨hx,hy,hl⟩ := hp
  dsimp only [natI,sval,asT] at *
  refine ifB_iff.2 ⟨fun h => ⟨trivial,?_,trivial⟩,fun h => ⟨⟨rfl,trivial⟩,fun i => ⟨rfl,ifB_iff.2 ⟨fun h1 => ?_,fun h1 => ⟨trivial,?_,trivial⟩⟩⟩⟩⟩
  · simp only [bne_iff_ne,ne_eq,Int.natCast_inj] at h
    symm
    simp only [beq_eq_false_iff_ne]
    intro e;exact h (by rw [e])
  all_goals
    simp only [bne_eq_false_iff_eq,Int.natCast_inj] at h
    simp only [decide_eq_true_eq,decide_eq_false_iff_not,Int.ofNat_lt] at h1
    obtain ⟨i,hi⟩ := i
    obtain ⟨h2,h3⟩ := hi h
    dsimp only at h1 ⊢
  · refine ⟨⟨by omega,by omega,by omega,by omega,⟨hx.at_ _,hy.at_ _⟩,trivial⟩,ifB_iff.2 ⟨fun h4 => ⟨trivial,?_,trivial⟩,fun h4 => ?_⟩⟩
    · simp only [Bool.not_eq_true',decide_eq_false_iff_not,Int.toNat_natCast] at h4
      symm
      simp only [beq_eq_false_iff_ne]
      intro e;exact h4 (by rw [e])
    · simp only [Bool.not_eq_false',decide_eq_true_eq,Int.toNat_natCast] at h4
      refine ⟨⟨i + 1,fun _ => ⟨h1,take_next 0 h3 h1 (by omega) h4⟩⟩,by simp only;omega,?_,trivial⟩
      rw [wrap_id (by omega) (by omega)];rfl
  · symm
    simp only [beq_iff_eq]
    have : i = x.length := by omega
    rw [this,List.take_length,h,List.take_length] at h3
    exact h3
noncomputable def LS01 : Lib := LQ.add 24 (cIQ wordP (fun i => (i : Rat))) (cIQ_ok fun x w h => rIntQ_any x w h.1 h.2)
noncomputable def LS1 : Lib := LS01.add 121 cSL sameList_ctr
theorem sameRats_ctr : CtrOk Tryz.prog 82 cSL := by
  refine ctr_fn LS1 [] Tryz.func82 rfl (by decide) (fun x => []) (fun x hp => ?_)
  refine vc_of (((smallL (asT (List Rat) (Prod.fst x)) ∧ smallL (asT (List Rat) (Prod.fst (Prod.snd x))) ∧ List.length (asT (List Rat) (Prod.fst x)) ≤ 1000000000) ∧ True) ∧ True ∧ (asT (List Rat) (Prod.fst x) == asT (List Rat) (Prod.fst (Prod.snd x))) = (asT (List Rat) (Prod.fst x) == asT (List Rat) (Prod.fst (Prod.snd x))) ∧ True) (by kernel_rfl) ?_
  obtain ⟨x,y,u⟩ := x
  change QL at x
  change QL at y
  exact ⟨⟨hp,trivial⟩,trivial,rfl,trivial⟩
noncomputable def LS2 : Lib := LS1.add 82 cSL sameRats_ctr
abbrev e2 (m : QM) (i j : Nat) : Rat := (m.getD i []).getD j 0
theorem getD_all {α : Type} {p : α → Prop} {xs : List α} (h : ∀ x ∈ xs,p x) {i : Nat} (hi : i < xs.length) {d : α} : p (xs.getD i d) := by
  rw [List.getD_eq_getElem?_getD,List.getElem?_eq_getElem hi]
  exact h _ (List.getElem_mem hi)
def cSM : Ctr := ⟨[tM,tM],[tB],fun x => smallM x.1 ∧ smallM x.2.1 ∧ (show QM from x.1).length ≤ 1000000000 ∧ ∀ r ∈ (show QM from x.1),r.length ≤ 1000000000,fun x => ((show QM from x.1) == (show QM from x.2.1),())⟩
theorem sameMatrix_ctr : CtrOk Tryz.prog 35 cSM := by
  refine ctr_fn LS2 [] Tryz.func35 rfl (by decide) (fun x => [.inv (SLι (α := QL) x.1 x.2.1) (fun i => [(13,.val tI (i.1 : Int))]) (fun i => []) (fun i => (show QM from x.1).length + 1 - i.1) ⟨0,fun h => ⟨Nat.zero_le _,rfl⟩⟩ (fun _ => [])]) (fun x hp => ?_)
  obtain ⟨x,y,u⟩ := x
  change QM at x
  change QM at y
  refine vc_of (ifB (natI (List.length x) != natI (List.length y)) (True ∧ false = (x == y) ∧ True) ((0 = natI 0 ∧ True) ∧ ∀ (i : SLι x y),true = true ∧ ifB (decide (natI (sval i) < natI (List.length x))) ((0 ≤ natI (sval i) ∧ natI (sval i) < natI (List.length x) ∧ 0 ≤ natI (sval i) ∧ natI (sval i) < natI (List.length y) ∧ (smallL (List.getD x (Int.toNat (natI (sval i))) (nilT Rat)) ∧ smallL (List.getD y (Int.toNat (natI (sval i))) (nilT Rat)) ∧ List.length (List.getD x (Int.toNat (natI (sval i))) (nilT Rat)) ≤ 1000000000) ∧ True) ∧ ifB (!List.getD x (Int.toNat (natI (sval i))) (nilT Rat) == List.getD y (Int.toNat (natI (sval i))) (nilT Rat)) (True ∧ false = (x == y) ∧ True) (∃ (i' : SLι x y),List.length x + 1 - sval i' < List.length x + 1 - sval i ∧ IntKind.wrap IntKind.i64 (natI (sval i) + 1) = natI (sval i') ∧ True)) (True ∧ true = (x == y) ∧ True))) (by kernel_rfl) ?_
  obtain ⟨hx,hy,hl,hr⟩ := hp
  dsimp only [natI,sval,asT] at *
  refine ifB_iff.2 ⟨fun h => ⟨trivial,?_,trivial⟩,fun h => ⟨⟨rfl,trivial⟩,fun i => ⟨rfl,ifB_iff.2 ⟨fun h1 => ?_,fun h1 => ⟨trivial,?_,trivial⟩⟩⟩⟩⟩
  · simp only [bne_iff_ne,ne_eq,Int.natCast_inj] at h
    symm
    simp only [beq_eq_false_iff_ne]
    intro e;exact h (by rw [e])
  all_goals
    simp only [bne_eq_false_iff_eq,Int.natCast_inj] at h
    simp only [decide_eq_true_eq,decide_eq_false_iff_not,Int.ofNat_lt] at h1
    obtain ⟨i,hi⟩ := i
    obtain ⟨h2,h3⟩ := hi h
    dsimp only at h1 ⊢
  · refine ⟨⟨by omega,by omega,by omega,by omega,⟨hx.at_ _,hy.at_ _,getD_all hr h1⟩,trivial⟩,ifB_iff.2 ⟨fun h4 => ⟨trivial,?_,trivial⟩,fun h4 => ?_⟩⟩
    · simp only [Bool.not_eq_true',beq_eq_false_iff_ne,Int.toNat_natCast] at h4
      symm
      simp only [beq_eq_false_iff_ne]
      intro e;exact h4 (by rw [e])
    · simp only [Bool.not_eq_false',beq_iff_eq,Int.toNat_natCast] at h4
      refine ⟨⟨i + 1,fun _ => ⟨h1,take_next [] h3 h1 (by omega) h4⟩⟩,by simp only;omega,?_,trivial⟩
      rw [wrap_id (by omega) (by omega)];rfl
  · symm
    simp only [beq_iff_eq]
    have : i = x.length := by omega
    rw [this,List.take_length,h,List.take_length] at h3
    exact h3
noncomputable def LS3 : Lib := LS2.add 35 cSM sameMatrix_ctr
theorem len3 {m : QM} (hm : m.length = 3) (hr : ∀ r ∈ m,r.length = 3) (i : Nat) (hi : i < 3) : (m.getD i []).length = 3 := by
  rw [List.getD_eq_getElem?_getD,List.getElem?_eq_getElem (by omega),Option.getD_some]
  exact hr _ (List.getElem_mem _)
def cTr : Ctr := ⟨[tM],[tM],fun x => (show QM from x.1).length = 3 ∧ ∀ r ∈ (show QM from x.1),r.length = 3,fun x => ([0,1,2].map fun k => [e2 x.1 0 k,e2 x.1 1 k,e2 x.1 2 k],())⟩
theorem transposed_ctr : CtrOk Tryz.prog 36 cTr := by
  refine ctr_fn LS2 [] Tryz.func36 rfl (by decide) (fun x => [.rounds 4 [3,5] []]) (fun x hp => ?_)
  obtain ⟨x,u⟩ := x
  change QM at x
  refine vc_of ((asT Int 0 ≤ 0 ∧ 0 < natI (List.length x) ∧ asT Int 0 ≤ 0 ∧ 0 < natI (List.length (List.getD x 0 (nilT Rat))) ∧ asT Int 0 ≤ 1 ∧ 1 < natI (List.length x) ∧ asT Int 0 ≤ 0 ∧ 0 < natI (List.length (List.getD x 1 (nilT Rat))) ∧ asT Int 0 ≤ 2 ∧ 2 < natI (List.length x) ∧ asT Int 0 ≤ 0 ∧ 0 < natI (List.length (List.getD x 2 (nilT Rat))) ∧ List.length (nilT (List Rat)) + List.length ((List.getD (List.getD x 0 (nilT Rat)) 0 0 :: List.getD (List.getD x 1 (nilT Rat)) 0 0 :: List.getD (List.getD x 2 (nilT Rat)) 0 0 :: nilT Rat) :: nilT (List Rat)) ≤ 1000000000 ∧ True) ∧ (asT Int 0 ≤ 0 ∧ 0 < natI (List.length x) ∧ asT Int 0 ≤ 1 ∧ 1 < natI (List.length (List.getD x 0 (nilT Rat))) ∧ asT Int 0 ≤ 1 ∧ 1 < natI (List.length x) ∧ asT Int 0 ≤ 1 ∧ 1 < natI (List.length (List.getD x 1 (nilT Rat))) ∧ asT Int 0 ≤ 2 ∧ 2 < natI (List.length x) ∧ asT Int 0 ≤ 1 ∧ 1 < natI (List.length (List.getD x 2 (nilT Rat))) ∧ List.length ((List.getD (List.getD x 0 (nilT Rat)) 0 0 :: List.getD (List.getD x 1 (nilT Rat)) 0 0 :: List.getD (List.getD x 2 (nilT Rat)) 0 0 :: nilT Rat) :: nilT (List Rat)) + List.length ((List.getD (List.getD x 0 (nilT Rat)) 1 0 :: List.getD (List.getD x 1 (nilT Rat)) 1 0 :: List.getD (List.getD x 2 (nilT Rat)) 1 0 :: nilT Rat) :: nilT (List Rat)) ≤ 1000000000 ∧ True) ∧ (asT Int 0 ≤ 0 ∧ 0 < natI (List.length x) ∧ asT Int 0 ≤ 2 ∧ 2 < natI (List.length (List.getD x 0 (nilT Rat))) ∧ asT Int 0 ≤ 1 ∧ 1 < natI (List.length x) ∧ asT Int 0 ≤ 2 ∧ 2 < natI (List.length (List.getD x 1 (nilT Rat))) ∧ asT Int 0 ≤ 2 ∧ 2 < natI (List.length x) ∧ asT Int 0 ≤ 2 ∧ 2 < natI (List.length (List.getD x 2 (nilT Rat))) ∧ List.length ((List.getD (List.getD x 0 (nilT Rat)) 0 0 :: List.getD (List.getD x 1 (nilT Rat)) 0 0 :: List.getD (List.getD x 2 (nilT Rat)) 0 0 :: nilT Rat) :: (List.getD (List.getD x 0 (nilT Rat)) 1 0 :: List.getD (List.getD x 1 (nilT Rat)) 1 0 :: List.getD (List.getD x 2 (nilT Rat)) 1 0 :: nilT Rat) :: nilT (List Rat)) + List.length ((List.getD (List.getD x 0 (nilT Rat)) 2 0 :: List.getD (List.getD x 1 (nilT Rat)) 2 0 :: List.getD (List.getD x 2 (nilT Rat)) 2 0 :: nilT Rat) :: nilT (List Rat)) ≤ 1000000000 ∧ True) ∧ True ∧ (List.getD (List.getD x 0 (nilT Rat)) 0 0 :: List.getD (List.getD x 1 (nilT Rat)) 0 0 :: List.getD (List.getD x 2 (nilT Rat)) 0 0 :: nilT Rat) :: (List.getD (List.getD x 0 (nilT Rat)) 1 0 :: List.getD (List.getD x 1 (nilT Rat)) 1 0 :: List.getD (List.getD x 2 (nilT Rat)) 1 0 :: nilT Rat) :: (List.getD (List.getD x 0 (nilT Rat)) 2 0 :: List.getD (List.getD x 1 (nilT Rat)) 2 0 :: List.getD (List.getD x 2 (nilT Rat)) 2 0 :: nilT Rat) :: nilT (List Rat) = List.map (fun (k : Nat) => e2 x 0 k :: e2 x 1 k :: e2 x 2 k :: nilT Rat) (0 :: 1 :: 2 :: nilT Nat) ∧ True) (by kernel_rfl) ?_
  obtain ⟨hx,hy⟩ := hp
  have h0 := len3 hx hy 0 (by omega)
  have h1 := len3 hx hy 1 (by omega)
  have h2 := len3 hx hy 2 (by omega)
  dsimp only [natI,asT] at *
  rw [hx,h0,h1,h2]
  simp
noncomputable def LS4 : Lib := LS3.add 36 cTr transposed_ctr
abbrev Le3 : Type := {i : Nat // i ≤ 3}
abbrev prodE (a b : QM) (i k : Nat) : Rat := dotQ (e2 a i) (fun j => e2 b j k) 3
def cTm : Ctr := ⟨[tM,tM],[tM],fun x => (show QM from x.1).length = 3 ∧ (show QM from x.2.1).length = 3 ∧ (∀ r ∈ (show QM from x.1),r.length = 3) ∧ (∀ r ∈ (show QM from x.2.1),r.length = 3) ∧ ∀ i k,i < 3 → k < 3 → rsz (e2 x.1 i k) ≤ 10 ∧ rsz (e2 x.2.1 i k) ≤ 10,
  fun x => ((List.range 3).map fun i => (List.range 3).map fun k => prodE x.1 x.2.1 i k,())⟩
theorem times_ctr : CtrOk Tryz.prog 37 cTm := by
  refine ctr_fn LS4 [9] Tryz.func37 rfl (by decide) (fun x => [.inv Le3 (fun i => [(11,.val tI (i.1 : Int)),(5,.own 5 0)]) (fun i => [(5,.row 25 (.list tQ) ((List.range i.1).map fun i => (List.range 3).map fun k => prodE x.1 x.2.1 i k) 0)]) (fun i => 3 - i.1) ⟨0,by omega⟩
    (fun i => [.inv Le3 (fun k => [(14,.val tI (k.1 : Int)),(7,.own 7 0)]) (fun k => [(5,.row 25 (.list tQ) ((List.range i.1).map fun i => (List.range 3).map fun k => prodE x.1 x.2.1 i k) 0),(7,.row 30 tQ ((List.range k.1).map fun k => prodE x.1 x.2.1 i.1 k) 0)]) (fun k => 3 - k.1) ⟨0,by omega⟩
      (fun k => [.inv Le3 (fun j => [(18,.val tI (j.1 : Int))]) (fun j => [(5,.row 25 (.list tQ) ((List.range i.1).map fun i => (List.range 3).map fun k => prodE x.1 x.2.1 i k) 0),(7,.row 30 tQ ((List.range k.1).map fun k => prodE x.1 x.2.1 i.1 k) 0),(9,.box [⟨tQ,dotQ (e2 x.1 i.1) (fun j => e2 x.2.1 j k.1) j.1⟩])]) (fun j => 3 - j.1) ⟨0,by omega⟩ (fun _ => [])])])]) (fun x hp => ?_)
  obtain ⟨x,y,u⟩ := x
  change QM at x
  change QM at y
  refine vc_of ((0 = natI 0 ∧ (True ∧ nilT (List Rat) = nilT (List Rat)) ∧ (nilT (List Rat) = nilT (List Rat) ∧ 0 = 0 ∧ true = true) ∧ True) ∧ ∀ (i : Le3),true = true ∧ ifB (decide (natI (sval i) < 3)) ((0 = natI 0 ∧ (True ∧ nilT Rat = nilT Rat) ∧ List.map (fun (i : Nat) => List.map (fun (k : Nat) => prodE x y i k) (List.range 3)) (List.range (sval i)) = List.map (fun (i : Nat) => List.map (fun (k : Nat) => prodE x y i k) (List.range 3)) (List.range (sval i)) ∧ (nilT Rat = nilT Rat ∧ 0 = 0 ∧ true = true) ∧ True) ∧ ∀ (i_1 : Le3),true = true ∧ ifB (decide (natI (sval i_1) < 3)) ((wordP 0 ∧ True) ∧ (0 = natI 0 ∧ List.map (fun (i : Nat) => List.map (fun (k : Nat) => prodE x y i k) (List.range 3)) (List.range (sval i)) = List.map (fun (i : Nat) => List.map (fun (k : Nat) => prodE x y i k) (List.range 3)) (List.range (sval i)) ∧ List.map (fun (k : Nat) => prodE x y (sval i) k) (List.range (sval i_1)) = List.map (fun (k : Nat) => prodE x y (sval i) k) (List.range (sval i_1)) ∧ intQ 0 = dotQ (e2 x (sval i)) (fun (j : Nat) => e2 y j (sval i_1)) 0 ∧ True) ∧ ∀ (i_2 : Le3),true = true ∧ ifB (decide (natI (sval i_2) < 3)) ((0 ≤ natI (sval i) ∧ natI (sval i) < natI (List.length x) ∧ 0 ≤ natI (sval i_2) ∧ natI (sval i_2) < natI (List.length (List.getD x (Int.toNat (natI (sval i))) (nilT Rat))) ∧ 0 ≤ natI (sval i_2) ∧ natI (sval i_2) < natI (List.length y) ∧ 0 ≤ natI (sval i_1) ∧ natI (sval i_1) < natI (List.length (List.getD y (Int.toNat (natI (sval i_2))) (nilT Rat))) ∧ (rsz (List.getD (List.getD x (Int.toNat (natI (sval i))) (nilT Rat)) (Int.toNat (natI (sval i_2))) 0) ≤ 190000000 ∧ rsz (List.getD (List.getD y (Int.toNat (natI (sval i_2))) (nilT Rat)) (Int.toNat (natI (sval i_1))) 0) ≤ 190000000) ∧ (rsz (dotQ (e2 x (sval i)) (fun (j : Nat) => e2 y j (sval i_1)) (sval i_2)) ≤ 190000000 ∧ rsz (List.getD (List.getD x (Int.toNat (natI (sval i))) (nilT Rat)) (Int.toNat (natI (sval i_2))) 0 * List.getD (List.getD y (Int.toNat (natI (sval i_2))) (nilT Rat)) (Int.toNat (natI (sval i_1))) 0) ≤ 190000000) ∧ True) ∧ ∃ (i' : Le3),3 - sval i' < 3 - sval i_2 ∧ IntKind.wrap IntKind.i64 (natI (sval i_2) + 1) = natI (sval i') ∧ List.map (fun (i : Nat) => List.map (fun (k : Nat) => prodE x y i k) (List.range 3)) (List.range (sval i)) = List.map (fun (i : Nat) => List.map (fun (k : Nat) => prodE x y i k) (List.range 3)) (List.range (sval i)) ∧ List.map (fun (k : Nat) => prodE x y (sval i) k) (List.range (sval i_1)) = List.map (fun (k : Nat) => prodE x y (sval i) k) (List.range (sval i_1)) ∧ dotQ (e2 x (sval i)) (fun (j : Nat) => e2 y j (sval i_1)) (sval i_2) + List.getD (List.getD x (Int.toNat (natI (sval i))) (nilT Rat)) (Int.toNat (natI (sval i_2))) 0 * List.getD (List.getD y (Int.toNat (natI (sval i_2))) (nilT Rat)) (Int.toNat (natI (sval i_1))) 0 = dotQ (e2 x (sval i)) (fun (j : Nat) => e2 y j (sval i_1)) (sval i') ∧ True) ((List.length (List.map (fun (k : Nat) => prodE x y (sval i) k) (List.range (sval i_1))) + List.length (dotQ (e2 x (sval i)) (fun (j : Nat) => e2 y j (sval i_1)) (sval i_2) :: nilT Rat) ≤ 1000000000 ∧ True) ∧ ∃ (i' : Le3),3 - sval i' < 3 - sval i_1 ∧ IntKind.wrap IntKind.i64 (natI (sval i_1) + 1) = natI (sval i') ∧ List.map (fun (i : Nat) => List.map (fun (k : Nat) => prodE x y i k) (List.range 3)) (List.range (sval i)) = List.map (fun (i : Nat) => List.map (fun (k : Nat) => prodE x y i k) (List.range 3)) (List.range (sval i)) ∧ List.map (fun (k : Nat) => prodE x y (sval i) k) (List.range (sval i_1)) ++ dotQ (e2 x (sval i)) (fun (j : Nat) => e2 y j (sval i_1)) (sval i_2) :: nilT Rat = List.map (fun (k : Nat) => prodE x y (sval i) k) (List.range (sval i')) ∧ True)) ((List.length (List.map (fun (i : Nat) => List.map (fun (k : Nat) => prodE x y i k) (List.range 3)) (List.range (sval i))) + List.length (List.map (fun (k : Nat) => prodE x y (sval i) k) (List.range (sval i_1)) :: nilT (List Rat)) ≤ 1000000000 ∧ True) ∧ ∃ (i' : Le3),3 - sval i' < 3 - sval i ∧ IntKind.wrap IntKind.i64 (natI (sval i) + 1) = natI (sval i') ∧ List.map (fun (i : Nat) => List.map (fun (k : Nat) => prodE x y i k) (List.range 3)) (List.range (sval i)) ++ List.map (fun (k : Nat) => prodE x y (sval i) k) (List.range (sval i_1)) :: nilT (List Rat) = List.map (fun (i : Nat) => List.map (fun (k : Nat) => prodE x y i k) (List.range 3)) (List.range (sval i')) ∧ True)) (True ∧ List.map (fun (i : Nat) => List.map (fun (k : Nat) => prodE x y i k) (List.range 3)) (List.range (sval i)) = List.map (fun (i : Nat) => List.map (fun (k : Nat) => prodE x y i k) (List.range 3)) (List.range 3) ∧ True)) (by kernel_rfl) ?_
  obtain ⟨hx,hy,hx3,hy3,hb⟩ := hp
  dsimp only [natI,sval,asT,nilT,intQ] at *
  simp only [ifB_iff,true_and,and_true,decide_eq_true_eq,decide_eq_false_iff_not,Int.toNat_natCast,Option.some.injEq,List.length_map,List.length_range,List.length_cons,List.length_nil,true_implies,implies_true]
  refine ⟨rfl,fun i => ⟨fun h1 => ⟨rfl,fun k => ⟨fun h2 => ⟨⟨by omega,by omega⟩,⟨rfl,rfl⟩,fun j => ⟨fun h3 => ?_,fun h3 => ?_⟩⟩,fun h2 => ?_⟩⟩,fun h1 => ?_⟩⟩
  all_goals
    have hi := i.2
  · have e1 := len3 hx hx3 i.1 (by omega)
    have e2' := len3 hy hy3 j.1 (by omega)
    have b1 := hb i.1 j.1 (by omega) (by omega)
    have b2 := hb j.1 k.1 (by omega) (by omega)
    have b3 := dotQ_rsz (e := e2 x i.1) (f := fun j => e2 y j k.1) (K := 10) j.1 (fun q hq => ⟨(hb i.1 q (by omega) (by omega)).1,(hb q k.1 (by omega) (by omega)).2⟩)
    have b4 := rsz_mul (e2 x i.1 j.1) (e2 y j.1 k.1)
    have b5 : j.1 * (2 * 10 + 1) + 1 ≤ 1000 := by omega
    rw [hx,hy,e1,e2']
    refine ⟨⟨by omega,by omega,by omega,by omega,by omega,by omega,by omega,by omega,⟨by have := b1.1;unfold e2 at this;omega,by have := b2.2;unfold e2 at this;omega⟩,by omega,by unfold e2 at b1 b2 b4;omega⟩,⟨⟨j.1 + 1,by omega⟩,by simp only;omega,?_,rfl⟩⟩
    rw [wrap_id (by omega) (by omega)];rfl
  · have hj := j.2
    have hj : j.1 = 3 := by omega
    refine ⟨by omega,⟨⟨k.1 + 1,by omega⟩,by simp only;omega,?_,?_⟩⟩
    · rw [wrap_id (by omega) (by omega)];rfl
    · simp only [List.range_succ,List.map_append,List.map_cons,List.map_nil,hj]
  · have hk := k.2
    have hk : k.1 = 3 := by omega
    refine ⟨by omega,⟨⟨i.1 + 1,by omega⟩,by simp only;omega,?_,?_⟩⟩
    · rw [wrap_id (by omega) (by omega)];rfl
    · rw [hk]
      simp only [List.range_succ (n := i.1),List.map_append,List.map_cons,List.map_nil]
  · have : i.1 = 3 := by omega
    rw [this]
end Go.Proofs.YtidfgdchcpmnfaaGreat
namespace Go.Proofs.YtidfgdchcpmnfaaGreat
open Go Go.RowKit
set_option maxRecDepth 100000
set_option maxHeartbeats 1000000
set_option linter.unusedVariables false
set_option linter.unusedSimpArgs false
abbrev tZ : Ty := .lf .big
theorem big_v {F : Nat → Prop} {w : World} {v : Value} {x : Int} (h : vrep F w tZ v x) : RInt w v x := by
  obtain ⟨cs,rfl,h2⟩ := h
  exact h2
theorem v_big {F : Nat → Prop} {w : World} {v : Value} {x : Int} (h : RInt w v x) : vrep F w tZ v x := by
  obtain ⟨b,p,c,rfl⟩ := big_len h
  exact ⟨_,rfl,h⟩
def cZ2 (g : Int → Int → Int) : Ctr := ⟨[tZ,tZ],[tZ],fun x => isz x.1 ≤ 1000000000 ∧ isz x.2.1 ≤ 1000000000,fun x => (g x.1 x.2.1,())⟩
theorem cZ2_ok {f : FuncId} {g : Int → Int → Int} (h : ∀ (v u : Value) (x y : Int) (w : World),Raw w v x → Raw w u y → isz x ≤ 1000000000 → isz y ≤ 1000000000 → Calls Tryz.prog f #[v,u] w (GInt (g x y) w)) : CtrOk Tryz.prog f (cZ2 g) := by
  intro F w vs x hF hvs hp
  obtain ⟨v,vs',rfl,h1,u,vs'',rfl,h2,h3⟩ := hvs
  have h3 : vs'' = [] := h3
  subst h3
  refine (h v u x.1 x.2.1 w (big_v h1).raw (big_v h2).raw hp.1 hp.2).mono ?_
  rintro e w' ⟨r,rfl,hr,hb⟩
  exact ⟨r,rfl,v_big hr,hb⟩
def cZ1 (g : Int → Int) : Ctr := ⟨[tZ],[tZ],fun x => isz x.1 ≤ 1000000000,fun x => (g x.1,())⟩
theorem cZ1_ok {f : FuncId} {g : Int → Int} (h : ∀ (v : Value) (x : Int) (w : World),Raw w v x → isz x ≤ 1000000000 → Calls Tryz.prog f #[v] w (GInt (g x) w)) : CtrOk Tryz.prog f (cZ1 g) := by
  intro F w vs x hF hvs hp
  obtain ⟨v,vs',rfl,h1,h3⟩ := hvs
  have h3 : vs' = [] := h3
  subst h3
  refine (h v x.1 w (big_v h1).raw hp).mono ?_
  rintro e w' ⟨r,rfl,hr,hb⟩
  exact ⟨r,rfl,v_big hr,hb⟩
def cIZ : Ctr := ⟨[tI],[tZ],fun x => wordP x.1,fun x => (x.1,())⟩
theorem cIZ_ok {f : FuncId} (h : ∀ (x : Int) (w : World),-9223372036854775808 ≤ x → x ≤ 9223372036854775807 → Calls Tryz.prog f #[.int .i64 x] w (GInt x w)) : CtrOk Tryz.prog f cIZ := by
  intro F w vs x hF hvs hp
  obtain ⟨v,vs',rfl,h1,h3⟩ := hvs
  have h3 : vs' = [] := h3
  subst h3
  rw [int_v h1]
  refine (h x.1 w hp.1 hp.2).mono ?_
  rintro e w' ⟨r,rfl,hr,hb⟩
  exact ⟨r,rfl,v_big hr,hb⟩
def cZI (g : Int → Int) : Ctr := ⟨[tZ],[tI],fun x => True,fun x => (g x.1,())⟩
theorem cZI_ok {f : FuncId} {g : Int → Int} (h : ∀ (v : Value) (x : Int) (w : World),Raw w v x → Calls Tryz.prog f #[v] w (fun e w' => e = .returned (.int .i64 (g x)) ∧ Below w.heap.size w w')) : CtrOk Tryz.prog f (cZI g) := by
  intro F w vs x hF hvs hp
  obtain ⟨v,vs',rfl,h1,h3⟩ := hvs
  have h3 : vs' = [] := h3
  subst h3
  refine (h v x.1 w (big_v h1).raw).mono ?_
  rintro e w' ⟨rfl,hb⟩
  exact ⟨_,rfl,v_int _,hb⟩
def cSmall : Ctr := ⟨[tZ],[tI,tB],fun x => True,fun x => (smallV x.1,smallB x.1,())⟩
theorem cSmall_ok {f : FuncId} (h : ∀ (v : Value) (x : Int) (w : World),Raw w v x → Calls Tryz.prog f #[v] w (fun e w' => e = .returned (.tuple #[.int .i64 (smallV x),.bool (smallB x)]) ∧ Below w.heap.size w w')) : CtrOk Tryz.prog f cSmall := by
  intro F w vs x hF hvs hp
  obtain ⟨v,vs',rfl,h1,h3⟩ := hvs
  have h3 : vs' = [] := h3
  subst h3
  refine (h v x.1 w (big_v h1).raw).mono ?_
  rintro e w' ⟨rfl,hb⟩
  exact ⟨_,rfl,⟨[_,_],rfl,_,_,rfl,v_int _,_,_,rfl,v_bool _,rfl⟩,hb⟩
def cDiv : Ctr := ⟨[tZ,tZ],[tZ,tZ,tI],fun x => isz x.1 ≤ 1000000000 ∧ isz x.2.1 ≤ 1000000000 ∧ (show Int from x.2.1) ≠ 0,fun x => (Int.fdiv x.1 x.2.1,Int.fmod x.1 x.2.1,(0 : Int),())⟩
theorem cDiv_ok {f : FuncId} (h : ∀ (v u : Value) (x y : Int) (w : World),Raw w v x → Raw w u y → isz x ≤ 1000000000 → isz y ≤ 1000000000 → y ≠ 0 → Calls Tryz.prog f #[v,u] w (GDiv (x.fdiv y) (x.fmod y) w)) : CtrOk Tryz.prog f cDiv := by
  intro F w vs x hF hvs hp
  obtain ⟨v,vs',rfl,h1,u,vs'',rfl,h2,h3⟩ := hvs
  have h3 : vs'' = [] := h3
  subst h3
  refine (h v u x.1 x.2.1 w (big_v h1).raw (big_v h2).raw hp.1 hp.2.1 hp.2.2).mono ?_
  rintro e w' ⟨v1,v2,rfl,h1,h2,hb⟩
  exact ⟨_,rfl,⟨[_,_,_],rfl,_,_,rfl,v_big h1,_,_,rfl,v_big h2,_,_,rfl,v_int _,rfl⟩,hb⟩
noncomputable def LZ : Lib := (((((((LS2
  ).add 69 cIZ (cIZ_ok fun x w h0 h1 => of_any x w h0 h1)
  ).add 133 (cZ2 fun x y => ((Int.gcd x y : Nat) : Int)) (cZ2_ok fun v u x y w h1 h2 l1 l2 => gcd_any v u x y w h1 h2 l1 l2)
  ).add 71 (cZ2 fun x y => x * y) (cZ2_ok fun v u x y w h1 h2 l1 l2 => mul_any v u x y w h1 h2 l1 l2)
  ).add 134 (cZ1 fun x => -x) (cZ1_ok fun v x w h1 l1 => neg_any v x w h1 l1)
  ).add 117 (cZI Int.sign) (cZI_ok fun v x w h1 => sign_any v x w h1)
  ).add 135 cSmall (cSmall_ok fun v x w h1 => small_any v x w h1)
  ).add 110 cDiv (cDiv_ok fun v u x y w h1 h2 l1 l2 hy => divide_any v u x y w h1 h2 l1 l2 hy)
def xsL (l : List Int) (k : Nat) : Int := l.getD k 0
def cPrim : Ctr := ⟨[.arr 4 tZ],[tQuat,tI],fun x => (show List Int from x.1).length = 4 ∧ (∀ j,j < 4 → isz (xsL x.1 j) ≤ 400000000) ∧ ∃ j,j < 4 ∧ xsL x.1 j ≠ 0,fun x => primT (xsL x.1)⟩
abbrev Le4 : Type := {i : Nat // i ≤ 4}
theorem bad_eq (q : Int) : (bif (bif !smallB q then true else decide (smallV q < -1048576)) then true else decide (smallV q > 1048576)) = !decide (okc q) := by
  by_cases h : okc q
  · have h' := h
    unfold okc at h'
    have e1 : smallB q = true := by unfold smallB;rw [decide_eq_true_eq];omega
    have e2 : smallV q = q := by unfold smallV;rw [if_pos (by omega)]
    have a1 : decide (q < -1048576) = false := decide_eq_false (by omega)
    have a2 : decide (q > 1048576) = false := decide_eq_false (by omega)
    rw [e1,e2,a1,a2,decide_eq_true h];rfl
  · by_cases hs : smallB q = true
    · have hs' := hs
      unfold smallB at hs'
      rw [decide_eq_true_eq] at hs'
      have e2 : smallV q = q := by unfold smallV;rw [if_pos hs']
      have h3 : q < -1048576 ∨ q > 1048576 := by unfold okc at h;omega
      rw [hs,e2,decide_eq_false h]
      rcases h3 with h3 | h3
      · rw [decide_eq_true h3];rfl
      · rw [decide_eq_true h3];cases decide (q < -1048576) <;> rfl
    · have hs := Bool.not_eq_true _ |>.mp hs
      rw [hs,decide_eq_false h];rfl
theorem okc_smallV {q : Int} (h : okc q) : smallV q = q := by
  unfold okc at h
  unfold smallV
  rw [if_pos (by omega)]
theorem primitive_ctr : CtrOk Tryz.prog 93 cPrim := by
  refine ctr_fn LZ [2,4,5,7,8,10,11,12] Tryz.func93 rfl (by decide) (fun x => [.inv Le4 (fun k => [(17,.val tI (k.1 : Int))]) (fun k => [(2,.box [⟨tI,(0 : Int)⟩,⟨tI,(0 : Int)⟩,⟨tI,(0 : Int)⟩,⟨tI,(0 : Int)⟩]),(4,.box [⟨tZ,gseq (xsL x.1) k.1⟩]),(5,.box [⟨tZ,fseq (xsL x.1) k.1⟩])]) (fun k => 4 - k.1) ⟨0,by omega⟩ (fun _ => []),.turns 5 [34] [2,4,5,8] []]) (fun x hp => ?_)
  obtain ⟨x,u⟩ := x
  change List Int at x
  refine vc_of (let x0z := (True ∧ (0,0,0,0,()) = Prod.fst (primT (xsL x)) ∧ True ∧ 3 = Prod.fst (Prod.snd (primT (xsL x))) ∧ True);let x1z := (List.getD x 0 0);let x2z := (List.getD x 1 0);let x3z := (List.getD x 2 0);let x4z := (List.getD x 3 0);(asT Int 0 = ↑0 ∧ asT Int 0 = 0 ∧ asT Int 0 = 0 ∧ asT Int 0 = 0 ∧ asT Int 0 = 0 ∧ 0 = gseq (xsL x) 0 ∧ 0 = fseq (xsL x) 0 ∧ True) ∧ ∀ (i : Le4),asT Bool true = true ∧ ifB (decide (natI (sval i) < 4)) ((0 ≤ natI (sval i) ∧ natI (sval i) < natI 4 ∧ True) ∧ ((isz (gseq (xsL x) (sval i)) ≤ 1000000000 ∧ isz (List.getD x (Int.toNat (natI (sval i))) 0) ≤ 1000000000) ∧ True) ∧ (True ∧ True) ∧ ifB (Int.sign (fseq (xsL x) (sval i)) == 0) (∃ (i' : Le4),4 - sval i' < 4 - sval i ∧ IntKind.wrap IntKind.i64 (natI (sval i) + 1) = natI (sval i') ∧ asT Int 0 = 0 ∧ asT Int 0 = 0 ∧ asT Int 0 = 0 ∧ asT Int 0 = 0 ∧ natI (Int.gcd (gseq (xsL x) (sval i)) (List.getD x (Int.toNat (natI (sval i))) 0)) = gseq (xsL x) (sval i') ∧ List.getD x (Int.toNat (natI (sval i))) 0 = fseq (xsL x) (sval i') ∧ True) (∃ (i' : Le4),4 - sval i' < 4 - sval i ∧ IntKind.wrap IntKind.i64 (natI (sval i) + 1) = natI (sval i') ∧ asT Int 0 = 0 ∧ asT Int 0 = 0 ∧ asT Int 0 = 0 ∧ asT Int 0 = 0 ∧ natI (Int.gcd (gseq (xsL x) (sval i)) (List.getD x (Int.toNat (natI (sval i))) 0)) = gseq (xsL x) (sval i') ∧ fseq (xsL x) (sval i) = fseq (xsL x) (sval i') ∧ True)) ((True ∧ True) ∧ ifB (decide (Int.sign (fseq (xsL x) (sval i)) < 0)) ((isz (gseq (xsL x) (sval i)) ≤ 1000000000 ∧ True) ∧ (asT Int 0 ≤ 0 ∧ asT Int 0 < ↑4 ∧ True) ∧ ((isz x1z ≤ 1000000000 ∧ isz (-gseq (xsL x) (sval i)) ≤ 1000000000 ∧ -gseq (xsL x) (sval i) ≠ 0) ∧ True) ∧ (True ∧ True) ∧ ((((!smallB (Int.fdiv x1z (-gseq (xsL x) (sval i)))) == false) = true → ((!smallB (Int.fdiv x1z (-gseq (xsL x) (sval i)))) == false) = true ∧ True) ∧ ((!smallB (Int.fdiv x1z (-gseq (xsL x) (sval i)))) = false → ((!smallB (Int.fdiv x1z (-gseq (xsL x) (sval i)))) == false) = true) ∧ (((bif !smallB (Int.fdiv x1z (-gseq (xsL x) (sval i))) then true else decide (smallV (Int.fdiv x1z (-gseq (xsL x) (sval i))) < -1048576)) == false) = true → ((bif !smallB (Int.fdiv x1z (-gseq (xsL x) (sval i))) then true else decide (smallV (Int.fdiv x1z (-gseq (xsL x) (sval i))) < -1048576)) == false) = true ∧ True) ∧ ((bif !smallB (Int.fdiv x1z (-gseq (xsL x) (sval i))) then true else decide (smallV (Int.fdiv x1z (-gseq (xsL x) (sval i))) < -1048576)) = false → ((bif !smallB (Int.fdiv x1z (-gseq (xsL x) (sval i))) then true else decide (smallV (Int.fdiv x1z (-gseq (xsL x) (sval i))) < -1048576)) == false) = true) ∧ True) ∧ ifB (bif bif !smallB (Int.fdiv x1z (-gseq (xsL x) (sval i))) then true else decide (smallV (Int.fdiv x1z (-gseq (xsL x) (sval i))) < -1048576) then true else decide (smallV (Int.fdiv x1z (-gseq (xsL x) (sval i))) > 1048576)) x0z ((asT Int 0 = 0 ∧ asT Int 0 = 0 ∧ asT Int 0 = 0 ∧ asT Int 0 = 0 ∧ -gseq (xsL x) (sval i) = -gseq (xsL x) (sval i) ∧ fseq (xsL x) (sval i) = fseq (xsL x) (sval i) ∧ smallV (Int.fdiv x1z (-gseq (xsL x) (sval i))) = smallV (Int.fdiv x1z (-gseq (xsL x) (sval i))) ∧ asT Int 0 = 0 ∧ asT Int 0 = 0 ∧ asT Int 0 = 0 ∧ True) ∧ asT Bool true = true ∧ (asT Int 0 ≤ 1 ∧ asT Int 1 < ↑4 ∧ True) ∧ ((isz x2z ≤ 1000000000 ∧ isz (-gseq (xsL x) (sval i)) ≤ 1000000000 ∧ -gseq (xsL x) (sval i) ≠ 0) ∧ True) ∧ (True ∧ True) ∧ ((((!smallB (Int.fdiv x2z (-gseq (xsL x) (sval i)))) == false) = true → ((!smallB (Int.fdiv x2z (-gseq (xsL x) (sval i)))) == false) = true ∧ True) ∧ ((!smallB (Int.fdiv x2z (-gseq (xsL x) (sval i)))) = false → ((!smallB (Int.fdiv x2z (-gseq (xsL x) (sval i)))) == false) = true) ∧ (((bif !smallB (Int.fdiv x2z (-gseq (xsL x) (sval i))) then true else decide (smallV (Int.fdiv x2z (-gseq (xsL x) (sval i))) < -1048576)) == false) = true → ((bif !smallB (Int.fdiv x2z (-gseq (xsL x) (sval i))) then true else decide (smallV (Int.fdiv x2z (-gseq (xsL x) (sval i))) < -1048576)) == false) = true ∧ True) ∧ ((bif !smallB (Int.fdiv x2z (-gseq (xsL x) (sval i))) then true else decide (smallV (Int.fdiv x2z (-gseq (xsL x) (sval i))) < -1048576)) = false → ((bif !smallB (Int.fdiv x2z (-gseq (xsL x) (sval i))) then true else decide (smallV (Int.fdiv x2z (-gseq (xsL x) (sval i))) < -1048576)) == false) = true) ∧ True) ∧ ifB (bif bif !smallB (Int.fdiv x2z (-gseq (xsL x) (sval i))) then true else decide (smallV (Int.fdiv x2z (-gseq (xsL x) (sval i))) < -1048576) then true else decide (smallV (Int.fdiv x2z (-gseq (xsL x) (sval i))) > 1048576)) x0z ((asT Int 0 = 0 ∧ asT Int 0 = 0 ∧ asT Int 0 = 0 ∧ asT Int 0 = 0 ∧ -gseq (xsL x) (sval i) = -gseq (xsL x) (sval i) ∧ fseq (xsL x) (sval i) = fseq (xsL x) (sval i) ∧ smallV (Int.fdiv x1z (-gseq (xsL x) (sval i))) = smallV (Int.fdiv x1z (-gseq (xsL x) (sval i))) ∧ smallV (Int.fdiv x2z (-gseq (xsL x) (sval i))) = smallV (Int.fdiv x2z (-gseq (xsL x) (sval i))) ∧ asT Int 0 = 0 ∧ asT Int 0 = 0 ∧ True) ∧ asT Bool true = true ∧ (asT Int 0 ≤ 2 ∧ asT Int 2 < ↑4 ∧ True) ∧ ((isz x3z ≤ 1000000000 ∧ isz (-gseq (xsL x) (sval i)) ≤ 1000000000 ∧ -gseq (xsL x) (sval i) ≠ 0) ∧ True) ∧ (True ∧ True) ∧ ((((!smallB (Int.fdiv x3z (-gseq (xsL x) (sval i)))) == false) = true → ((!smallB (Int.fdiv x3z (-gseq (xsL x) (sval i)))) == false) = true ∧ True) ∧ ((!smallB (Int.fdiv x3z (-gseq (xsL x) (sval i)))) = false → ((!smallB (Int.fdiv x3z (-gseq (xsL x) (sval i)))) == false) = true) ∧ (((bif !smallB (Int.fdiv x3z (-gseq (xsL x) (sval i))) then true else decide (smallV (Int.fdiv x3z (-gseq (xsL x) (sval i))) < -1048576)) == false) = true → ((bif !smallB (Int.fdiv x3z (-gseq (xsL x) (sval i))) then true else decide (smallV (Int.fdiv x3z (-gseq (xsL x) (sval i))) < -1048576)) == false) = true ∧ True) ∧ ((bif !smallB (Int.fdiv x3z (-gseq (xsL x) (sval i))) then true else decide (smallV (Int.fdiv x3z (-gseq (xsL x) (sval i))) < -1048576)) = false → ((bif !smallB (Int.fdiv x3z (-gseq (xsL x) (sval i))) then true else decide (smallV (Int.fdiv x3z (-gseq (xsL x) (sval i))) < -1048576)) == false) = true) ∧ True) ∧ ifB (bif bif !smallB (Int.fdiv x3z (-gseq (xsL x) (sval i))) then true else decide (smallV (Int.fdiv x3z (-gseq (xsL x) (sval i))) < -1048576) then true else decide (smallV (Int.fdiv x3z (-gseq (xsL x) (sval i))) > 1048576)) x0z ((asT Int 0 = 0 ∧ asT Int 0 = 0 ∧ asT Int 0 = 0 ∧ asT Int 0 = 0 ∧ -gseq (xsL x) (sval i) = -gseq (xsL x) (sval i) ∧ fseq (xsL x) (sval i) = fseq (xsL x) (sval i) ∧ smallV (Int.fdiv x1z (-gseq (xsL x) (sval i))) = smallV (Int.fdiv x1z (-gseq (xsL x) (sval i))) ∧ smallV (Int.fdiv x2z (-gseq (xsL x) (sval i))) = smallV (Int.fdiv x2z (-gseq (xsL x) (sval i))) ∧ smallV (Int.fdiv x3z (-gseq (xsL x) (sval i))) = smallV (Int.fdiv x3z (-gseq (xsL x) (sval i))) ∧ asT Int 0 = 0 ∧ True) ∧ asT Bool true = true ∧ (asT Int 0 ≤ 3 ∧ asT Int 3 < ↑4 ∧ True) ∧ ((isz x4z ≤ 1000000000 ∧ isz (-gseq (xsL x) (sval i)) ≤ 1000000000 ∧ -gseq (xsL x) (sval i) ≠ 0) ∧ True) ∧ (True ∧ True) ∧ ((((!smallB (Int.fdiv x4z (-gseq (xsL x) (sval i)))) == false) = true → ((!smallB (Int.fdiv x4z (-gseq (xsL x) (sval i)))) == false) = true ∧ True) ∧ ((!smallB (Int.fdiv x4z (-gseq (xsL x) (sval i)))) = false → ((!smallB (Int.fdiv x4z (-gseq (xsL x) (sval i)))) == false) = true) ∧ (((bif !smallB (Int.fdiv x4z (-gseq (xsL x) (sval i))) then true else decide (smallV (Int.fdiv x4z (-gseq (xsL x) (sval i))) < -1048576)) == false) = true → ((bif !smallB (Int.fdiv x4z (-gseq (xsL x) (sval i))) then true else decide (smallV (Int.fdiv x4z (-gseq (xsL x) (sval i))) < -1048576)) == false) = true ∧ True) ∧ ((bif !smallB (Int.fdiv x4z (-gseq (xsL x) (sval i))) then true else decide (smallV (Int.fdiv x4z (-gseq (xsL x) (sval i))) < -1048576)) = false → ((bif !smallB (Int.fdiv x4z (-gseq (xsL x) (sval i))) then true else decide (smallV (Int.fdiv x4z (-gseq (xsL x) (sval i))) < -1048576)) == false) = true) ∧ True) ∧ ifB (bif bif !smallB (Int.fdiv x4z (-gseq (xsL x) (sval i))) then true else decide (smallV (Int.fdiv x4z (-gseq (xsL x) (sval i))) < -1048576) then true else decide (smallV (Int.fdiv x4z (-gseq (xsL x) (sval i))) > 1048576)) x0z ((asT Int 0 = 0 ∧ asT Int 0 = 0 ∧ asT Int 0 = 0 ∧ asT Int 0 = 0 ∧ -gseq (xsL x) (sval i) = -gseq (xsL x) (sval i) ∧ fseq (xsL x) (sval i) = fseq (xsL x) (sval i) ∧ smallV (Int.fdiv x1z (-gseq (xsL x) (sval i))) = smallV (Int.fdiv x1z (-gseq (xsL x) (sval i))) ∧ smallV (Int.fdiv x2z (-gseq (xsL x) (sval i))) = smallV (Int.fdiv x2z (-gseq (xsL x) (sval i))) ∧ smallV (Int.fdiv x3z (-gseq (xsL x) (sval i))) = smallV (Int.fdiv x3z (-gseq (xsL x) (sval i))) ∧ smallV (Int.fdiv x4z (-gseq (xsL x) (sval i))) = smallV (Int.fdiv x4z (-gseq (xsL x) (sval i))) ∧ True) ∧ asT Bool true = true ∧ True ∧ (smallV (Int.fdiv x1z (-gseq (xsL x) (sval i))),smallV (Int.fdiv x2z (-gseq (xsL x) (sval i))),smallV (Int.fdiv x3z (-gseq (xsL x) (sval i))),smallV (Int.fdiv x4z (-gseq (xsL x) (sval i))),()) = Prod.fst (primT (xsL x)) ∧ True ∧ 0 = Prod.fst (Prod.snd (primT (xsL x))) ∧ True))))) ((asT Int 0 ≤ 0 ∧ asT Int 0 < ↑4 ∧ True) ∧ ((isz x1z ≤ 1000000000 ∧ isz (gseq (xsL x) (sval i)) ≤ 1000000000 ∧ gseq (xsL x) (sval i) ≠ 0) ∧ True) ∧ (True ∧ True) ∧ ((((!smallB (Int.fdiv x1z (gseq (xsL x) (sval i)))) == false) = true → ((!smallB (Int.fdiv x1z (gseq (xsL x) (sval i)))) == false) = true ∧ True) ∧ ((!smallB (Int.fdiv x1z (gseq (xsL x) (sval i)))) = false → ((!smallB (Int.fdiv x1z (gseq (xsL x) (sval i)))) == false) = true) ∧ (((bif !smallB (Int.fdiv x1z (gseq (xsL x) (sval i))) then true else decide (smallV (Int.fdiv x1z (gseq (xsL x) (sval i))) < -1048576)) == false) = true → ((bif !smallB (Int.fdiv x1z (gseq (xsL x) (sval i))) then true else decide (smallV (Int.fdiv x1z (gseq (xsL x) (sval i))) < -1048576)) == false) = true ∧ True) ∧ ((bif !smallB (Int.fdiv x1z (gseq (xsL x) (sval i))) then true else decide (smallV (Int.fdiv x1z (gseq (xsL x) (sval i))) < -1048576)) = false → ((bif !smallB (Int.fdiv x1z (gseq (xsL x) (sval i))) then true else decide (smallV (Int.fdiv x1z (gseq (xsL x) (sval i))) < -1048576)) == false) = true) ∧ True) ∧ ifB (bif bif !smallB (Int.fdiv x1z (gseq (xsL x) (sval i))) then true else decide (smallV (Int.fdiv x1z (gseq (xsL x) (sval i))) < -1048576) then true else decide (smallV (Int.fdiv x1z (gseq (xsL x) (sval i))) > 1048576)) x0z ((asT Int 0 = 0 ∧ asT Int 0 = 0 ∧ asT Int 0 = 0 ∧ asT Int 0 = 0 ∧ gseq (xsL x) (sval i) = gseq (xsL x) (sval i) ∧ fseq (xsL x) (sval i) = fseq (xsL x) (sval i) ∧ smallV (Int.fdiv x1z (gseq (xsL x) (sval i))) = smallV (Int.fdiv x1z (gseq (xsL x) (sval i))) ∧ asT Int 0 = 0 ∧ asT Int 0 = 0 ∧ asT Int 0 = 0 ∧ True) ∧ asT Bool true = true ∧ (asT Int 0 ≤ 1 ∧ asT Int 1 < ↑4 ∧ True) ∧ ((isz x2z ≤ 1000000000 ∧ isz (gseq (xsL x) (sval i)) ≤ 1000000000 ∧ gseq (xsL x) (sval i) ≠ 0) ∧ True) ∧ (True ∧ True) ∧ ((((!smallB (Int.fdiv x2z (gseq (xsL x) (sval i)))) == false) = true → ((!smallB (Int.fdiv x2z (gseq (xsL x) (sval i)))) == false) = true ∧ True) ∧ ((!smallB (Int.fdiv x2z (gseq (xsL x) (sval i)))) = false → ((!smallB (Int.fdiv x2z (gseq (xsL x) (sval i)))) == false) = true) ∧ (((bif !smallB (Int.fdiv x2z (gseq (xsL x) (sval i))) then true else decide (smallV (Int.fdiv x2z (gseq (xsL x) (sval i))) < -1048576)) == false) = true → ((bif !smallB (Int.fdiv x2z (gseq (xsL x) (sval i))) then true else decide (smallV (Int.fdiv x2z (gseq (xsL x) (sval i))) < -1048576)) == false) = true ∧ True) ∧ ((bif !smallB (Int.fdiv x2z (gseq (xsL x) (sval i))) then true else decide (smallV (Int.fdiv x2z (gseq (xsL x) (sval i))) < -1048576)) = false → ((bif !smallB (Int.fdiv x2z (gseq (xsL x) (sval i))) then true else decide (smallV (Int.fdiv x2z (gseq (xsL x) (sval i))) < -1048576)) == false) = true) ∧ True) ∧ ifB (bif bif !smallB (Int.fdiv x2z (gseq (xsL x) (sval i))) then true else decide (smallV (Int.fdiv x2z (gseq (xsL x) (sval i))) < -1048576) then true else decide (smallV (Int.fdiv x2z (gseq (xsL x) (sval i))) > 1048576)) x0z ((asT Int 0 = 0 ∧ asT Int 0 = 0 ∧ asT Int 0 = 0 ∧ asT Int 0 = 0 ∧ gseq (xsL x) (sval i) = gseq (xsL x) (sval i) ∧ fseq (xsL x) (sval i) = fseq (xsL x) (sval i) ∧ smallV (Int.fdiv x1z (gseq (xsL x) (sval i))) = smallV (Int.fdiv x1z (gseq (xsL x) (sval i))) ∧ smallV (Int.fdiv x2z (gseq (xsL x) (sval i))) = smallV (Int.fdiv x2z (gseq (xsL x) (sval i))) ∧ asT Int 0 = 0 ∧ asT Int 0 = 0 ∧ True) ∧ asT Bool true = true ∧ (asT Int 0 ≤ 2 ∧ asT Int 2 < ↑4 ∧ True) ∧ ((isz x3z ≤ 1000000000 ∧ isz (gseq (xsL x) (sval i)) ≤ 1000000000 ∧ gseq (xsL x) (sval i) ≠ 0) ∧ True) ∧ (True ∧ True) ∧ ((((!smallB (Int.fdiv x3z (gseq (xsL x) (sval i)))) == false) = true → ((!smallB (Int.fdiv x3z (gseq (xsL x) (sval i)))) == false) = true ∧ True) ∧ ((!smallB (Int.fdiv x3z (gseq (xsL x) (sval i)))) = false → ((!smallB (Int.fdiv x3z (gseq (xsL x) (sval i)))) == false) = true) ∧ (((bif !smallB (Int.fdiv x3z (gseq (xsL x) (sval i))) then true else decide (smallV (Int.fdiv x3z (gseq (xsL x) (sval i))) < -1048576)) == false) = true → ((bif !smallB (Int.fdiv x3z (gseq (xsL x) (sval i))) then true else decide (smallV (Int.fdiv x3z (gseq (xsL x) (sval i))) < -1048576)) == false) = true ∧ True) ∧ ((bif !smallB (Int.fdiv x3z (gseq (xsL x) (sval i))) then true else decide (smallV (Int.fdiv x3z (gseq (xsL x) (sval i))) < -1048576)) = false → ((bif !smallB (Int.fdiv x3z (gseq (xsL x) (sval i))) then true else decide (smallV (Int.fdiv x3z (gseq (xsL x) (sval i))) < -1048576)) == false) = true) ∧ True) ∧ ifB (bif bif !smallB (Int.fdiv x3z (gseq (xsL x) (sval i))) then true else decide (smallV (Int.fdiv x3z (gseq (xsL x) (sval i))) < -1048576) then true else decide (smallV (Int.fdiv x3z (gseq (xsL x) (sval i))) > 1048576)) x0z ((asT Int 0 = 0 ∧ asT Int 0 = 0 ∧ asT Int 0 = 0 ∧ asT Int 0 = 0 ∧ gseq (xsL x) (sval i) = gseq (xsL x) (sval i) ∧ fseq (xsL x) (sval i) = fseq (xsL x) (sval i) ∧ smallV (Int.fdiv x1z (gseq (xsL x) (sval i))) = smallV (Int.fdiv x1z (gseq (xsL x) (sval i))) ∧ smallV (Int.fdiv x2z (gseq (xsL x) (sval i))) = smallV (Int.fdiv x2z (gseq (xsL x) (sval i))) ∧ smallV (Int.fdiv x3z (gseq (xsL x) (sval i))) = smallV (Int.fdiv x3z (gseq (xsL x) (sval i))) ∧ asT Int 0 = 0 ∧ True) ∧ asT Bool true = true ∧ (asT Int 0 ≤ 3 ∧ asT Int 3 < ↑4 ∧ True) ∧ ((isz x4z ≤ 1000000000 ∧ isz (gseq (xsL x) (sval i)) ≤ 1000000000 ∧ gseq (xsL x) (sval i) ≠ 0) ∧ True) ∧ (True ∧ True) ∧ ((((!smallB (Int.fdiv x4z (gseq (xsL x) (sval i)))) == false) = true → ((!smallB (Int.fdiv x4z (gseq (xsL x) (sval i)))) == false) = true ∧ True) ∧ ((!smallB (Int.fdiv x4z (gseq (xsL x) (sval i)))) = false → ((!smallB (Int.fdiv x4z (gseq (xsL x) (sval i)))) == false) = true) ∧ (((bif !smallB (Int.fdiv x4z (gseq (xsL x) (sval i))) then true else decide (smallV (Int.fdiv x4z (gseq (xsL x) (sval i))) < -1048576)) == false) = true → ((bif !smallB (Int.fdiv x4z (gseq (xsL x) (sval i))) then true else decide (smallV (Int.fdiv x4z (gseq (xsL x) (sval i))) < -1048576)) == false) = true ∧ True) ∧ ((bif !smallB (Int.fdiv x4z (gseq (xsL x) (sval i))) then true else decide (smallV (Int.fdiv x4z (gseq (xsL x) (sval i))) < -1048576)) = false → ((bif !smallB (Int.fdiv x4z (gseq (xsL x) (sval i))) then true else decide (smallV (Int.fdiv x4z (gseq (xsL x) (sval i))) < -1048576)) == false) = true) ∧ True) ∧ ifB (bif bif !smallB (Int.fdiv x4z (gseq (xsL x) (sval i))) then true else decide (smallV (Int.fdiv x4z (gseq (xsL x) (sval i))) < -1048576) then true else decide (smallV (Int.fdiv x4z (gseq (xsL x) (sval i))) > 1048576)) x0z ((asT Int 0 = 0 ∧ asT Int 0 = 0 ∧ asT Int 0 = 0 ∧ asT Int 0 = 0 ∧ gseq (xsL x) (sval i) = gseq (xsL x) (sval i) ∧ fseq (xsL x) (sval i) = fseq (xsL x) (sval i) ∧ smallV (Int.fdiv x1z (gseq (xsL x) (sval i))) = smallV (Int.fdiv x1z (gseq (xsL x) (sval i))) ∧ smallV (Int.fdiv x2z (gseq (xsL x) (sval i))) = smallV (Int.fdiv x2z (gseq (xsL x) (sval i))) ∧ smallV (Int.fdiv x3z (gseq (xsL x) (sval i))) = smallV (Int.fdiv x3z (gseq (xsL x) (sval i))) ∧ smallV (Int.fdiv x4z (gseq (xsL x) (sval i))) = smallV (Int.fdiv x4z (gseq (xsL x) (sval i))) ∧ True) ∧ asT Bool true = true ∧ True ∧ (smallV (Int.fdiv x1z (gseq (xsL x) (sval i))),smallV (Int.fdiv x2z (gseq (xsL x) (sval i))),smallV (Int.fdiv x3z (gseq (xsL x) (sval i))),smallV (Int.fdiv x4z (gseq (xsL x) (sval i))),()) = Prod.fst (primT (xsL x)) ∧ True ∧ 0 = Prod.fst (Prod.snd (primT (xsL x))) ∧ True))))))) (by kernel_rfl) ?_
  obtain ⟨hl,hb,hn⟩ := hp
  dsimp only [natI,sval,asT,nilT,intQ] at *
  simp only [bad_eq,ifB_iff,true_and,and_true,imp_self,Bool.not_eq_true',Bool.not_eq_false',decide_eq_true_eq,decide_eq_false_iff_not,Int.toNat_natCast,true_implies,implies_true,beq_iff_eq,bne_iff_ne,ne_eq,beq_eq_false_iff_ne,bne_eq_false_iff_eq]
  have hx : ∀ j,x.getD j 0 = xsL x j := fun _ => rfl
  simp only [hx]
  generalize xsL x = X at *
  have gs : ∀ k,k ≤ 4 → isz (gseq X k) ≤ 1000000000 := fun k hk => Nat.le_trans (gseq_isz (K := 400000000) k (fun j hj => hb j (by omega))) (by omega)
  have xs : ∀ j,j < 4 → isz (X j) ≤ 1000000000 := fun j hj => Nat.le_trans (hb j hj) (by omega)
  refine ⟨⟨rfl,rfl⟩,fun i => ⟨fun h1 => ?_,fun h1 => ?_⟩⟩
  · have hi := i.2
    refine ⟨⟨by omega,by omega⟩,⟨gs _ hi,xs _ (by omega)⟩,fun h2 => ⟨⟨i.1 + 1,by omega⟩,by simp only;omega,?_,rfl,?_⟩,fun h2 => ⟨⟨i.1 + 1,by omega⟩,by simp only;omega,?_,rfl,?_⟩⟩
    · rw [wrap_id (by omega) (by omega)];rfl
    · rw [Int.sign_eq_zero_iff_zero] at h2
      simp only [fseq,if_pos h2]
    · rw [wrap_id (by omega) (by omega)];rfl
    · rw [Int.sign_eq_zero_iff_zero] at h2
      simp only [fseq,if_neg h2]
  · have hi := i.2
    have hi : i.1 = 4 := by omega
    rw [hi]
    have g0 : primG X ≠ 0 := by obtain ⟨j,h1,h2⟩ := hn;exact primG_ne h1 h2
    have tl : ∀ G,primG X = G → isz G ≤ 1000000000 → (∀ j,j < 4 → ¬ okc ((X j).fdiv G) → (0,0,0,0,()) = (primT X).1 ∧ 3 = (primT X).2.1) ∧ (okc ((X 0).fdiv G) → okc ((X 1).fdiv G) → okc ((X 2).fdiv G) → okc ((X 3).fdiv G) → (smallV ((X 0).fdiv G),smallV ((X 1).fdiv G),smallV ((X 2).fdiv G),smallV ((X 3).fdiv G),()) = (primT X).1 ∧ 0 = (primT X).2.1) := by
      rintro G rfl hG
      refine ⟨fun j hj h => ?_,fun k0 k1 k2 k3 => ?_⟩
      · have : primT X = ((0,0,0,0,()),3,()) := if_neg (fun e => h (e j hj))
        rw [this];exact ⟨rfl,rfl⟩
      · have : primT X = ((primN X 0,primN X 1,primN X 2,primN X 3,()),0,()) := if_pos (fun j hj => by
          match j,hj with
          | 0,_ => exact k0
          | 1,_ => exact k1
          | 2,_ => exact k2
          | 3,_ => exact k3)
        rw [this,okc_smallV k0,okc_smallV k1,okc_smallV k2,okc_smallV k3];exact ⟨rfl,rfl⟩
    have g4 := gs 4 (by omega)
    refine ⟨fun h2 => ?_,fun h2 => ?_⟩
    · rw [Int.sign_neg_iff] at h2
      have hG : primG X = -gseq X 4 := if_pos h2
      have g5 : isz (-gseq X 4) ≤ 1000000000 := by rw [isz_neg];exact g4
      obtain ⟨no,yes⟩ := tl _ hG g5
      rw [hG] at g0
      exact ⟨g4,⟨by omega,by omega⟩,⟨xs 0 (by omega),g5,g0⟩,no 0 (by omega),fun k0 => ⟨⟨by omega,by omega⟩,⟨xs 1 (by omega),g5,g0⟩,no 1 (by omega),fun k1 => ⟨⟨by omega,by omega⟩,⟨xs 2 (by omega),g5,g0⟩,no 2 (by omega),fun k2 => ⟨⟨by omega,by omega⟩,⟨xs 3 (by omega),g5,g0⟩,no 3 (by omega),fun k3 => yes k0 k1 k2 k3⟩⟩⟩⟩
    · rw [Int.sign_neg_iff] at h2
      have hG : primG X = gseq X 4 := if_neg h2
      obtain ⟨no,yes⟩ := tl _ hG g4
      rw [hG] at g0
      exact ⟨⟨by omega,by omega⟩,⟨xs 0 (by omega),g4,g0⟩,no 0 (by omega),fun k0 => ⟨⟨by omega,by omega⟩,⟨xs 1 (by omega),g4,g0⟩,no 1 (by omega),fun k1 => ⟨⟨by omega,by omega⟩,⟨xs 2 (by omega),g4,g0⟩,no 2 (by omega),fun k2 => ⟨⟨by omega,by omega⟩,⟨xs 3 (by omega),g4,g0⟩,no 3 (by omega),fun k3 => yes k0 k1 k2 k3⟩⟩⟩⟩
noncomputable def LP : Lib := LZ.add 93 cPrim primitive_ctr
end Go.Proofs.YtidfgdchcpmnfaaGreat
