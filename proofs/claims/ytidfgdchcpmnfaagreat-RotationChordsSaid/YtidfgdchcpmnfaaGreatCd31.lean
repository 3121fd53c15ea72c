/-
  Lemmas for the theorem vchords_holds, part 31 of 33.
-/
import Derived.Test.YtidfgdchcpmnfaaGreatCd30
namespace Go.Proofs.YtidfgdchcpmnfaaGreat
open Go Go.RowKit
set_option maxRecDepth 100000
set_option maxHeartbeats 1000000
set_option linter.unusedVariables false
set_option linter.unusedSimpArgs false
def qL (l : List Rat) (k : Nat) : Rat := l.getD k 0
theorem nz_yes {q : Nat → Rat} {j : Nat} (hj : j < 4) (h : sgn (q j).num ≠ 0) : true = nzB q := by
  symm
  unfold nzB
  rw [Bool.not_eq_true',← Bool.not_eq_true]
  intro e
  have := allB_iff.1 e j hj
  rw [decide_eq_true_eq] at this
  rw [this] at h
  exact h rfl
theorem nz_no {q : Nat → Rat} (h : ∀ j,j < 4 → sgn (q j).num = 0) : false = nzB q := by
  symm
  unfold nzB
  rw [Bool.not_eq_false']
  refine allB_iff.2 (fun j hj => ?_)
  rw [decide_eq_true_eq]
  exact Rat.num_eq_zero.1 (sgn_zero_iff.1 (h j hj))
def cNz : Ctr := ⟨[.arr 4 tQ],[tB],fun x => (show List Rat from x.1).length = 4 ∧ ∀ j,j < 4 → rsz (qL x.1 j) ≤ 400000000,fun x => (nzB (qL x.1),())⟩
noncomputable def LD0 : Lib := LC2.add 109 (cQI (fun x => rsz x ≤ 1000000000) (fun x => sgn x.num)) (cQI_ok fun v x w h hl => signQ_any v x w h hl)
theorem nonzero_ctr : CtrOk Tryz.prog 57 cNz := by
  refine ctr_fn LD0 [4] Tryz.func57 rfl (by decide) (fun x => [.turns 5 [6] [] []]) (fun x hp => ?_)
  obtain ⟨x,u⟩ := x
  change List Rat at x
  refine vc_of ((asT Int 0 ≤ 0 ∧ asT Int 0 < natI 4 ∧ True) ∧ (rsz (List.getD x 0 0) ≤ 1000000000 ∧ True) ∧ ifB (sgn (Rat.num (List.getD x 0 0)) != 0) (True ∧ true = nzB (qL x) ∧ True) (True ∧ asT Bool true = true ∧ (asT Int 0 ≤ 1 ∧ asT Int 1 < natI 4 ∧ True) ∧ (rsz (List.getD x 1 0) ≤ 1000000000 ∧ True) ∧ ifB (sgn (Rat.num (List.getD x 1 0)) != 0) (True ∧ true = nzB (qL x) ∧ True) (True ∧ asT Bool true = true ∧ (asT Int 0 ≤ 2 ∧ asT Int 2 < natI 4 ∧ True) ∧ (rsz (List.getD x 2 0) ≤ 1000000000 ∧ True) ∧ ifB (sgn (Rat.num (List.getD x 2 0)) != 0) (True ∧ true = nzB (qL x) ∧ True) (True ∧ asT Bool true = true ∧ (asT Int 0 ≤ 3 ∧ asT Int 3 < natI 4 ∧ True) ∧ (rsz (List.getD x 3 0) ≤ 1000000000 ∧ True) ∧ ifB (sgn (Rat.num (List.getD x 3 0)) != 0) (True ∧ true = nzB (qL x) ∧ True) (True ∧ asT Bool true = true ∧ True ∧ false = nzB (qL x) ∧ True))))) (by kernel_rfl) ?_
  obtain ⟨hl,hb⟩ := hp
  dsimp only [natI,asT] at *
  have hx : ∀ j,x.getD j 0 = qL x j := fun _ => rfl
  simp only [hx]
  generalize qL x = q at *
  have r : ∀ j,j < 4 → rsz (q j) ≤ 1000000000 := fun j hj => Nat.le_trans (hb j hj) (by omega)
  simp only [ifB_iff,bne_iff_ne,bne_eq_false_iff_eq,ne_eq,true_and,and_true]
  exact ⟨⟨by omega,by omega⟩,r 0 (by omega),fun h => nz_yes (j := 0) (by omega) h,fun h0 => ⟨⟨by omega,by omega⟩,r 1 (by omega),fun h => nz_yes (j := 1) (by omega) h,fun h1 => ⟨⟨by omega,by omega⟩,r 2 (by omega),fun h => nz_yes (j := 2) (by omega) h,fun h2 => ⟨⟨by omega,by omega⟩,r 3 (by omega),fun h => nz_yes (j := 3) (by omega) h,fun h3 => nz_no (fun j hj => by
    match j,hj with
    | 0,_ => exact h0
    | 1,_ => exact h1
    | 2,_ => exact h2
    | 3,_ => exact h3)⟩⟩⟩⟩
def cClr : Ctr := ⟨[.arr 4 tQ],[tQuat,tI],fun x => (show List Rat from x.1).length = 4 ∧ (∀ j,j < 4 → rsz (qL x.1 j) ≤ 50000000) ∧ ∃ j,j < 4 ∧ qL x.1 j ≠ 0,fun x => primT (clearXs (qL x.1))⟩
theorem cleared_ctr : CtrOk Tryz.prog 58 cClr := by
  refine ctr_fn LD0 [2,4,6,7,9,10,11] Tryz.func58 rfl (by decide) (fun x => [.inv Le4 (fun k => [(15,.val tI (k.1 : Int))]) (fun k => [(2,.box [⟨tI,(0 : Int)⟩,⟨tI,(0 : Int)⟩,⟨tI,(0 : Int)⟩,⟨tI,(0 : Int)⟩]),(4,.box [⟨tZ,denP (qL x.1) k.1⟩])]) (fun k => 4 - k.1) ⟨0,by omega⟩ (fun _ => []),.turns 5 [24] [2,4,7] []]) (fun x hp => ?_)
  obtain ⟨x,u⟩ := x
  change List Rat at x
  refine vc_of (let x0z := (natI (Rat.den (List.getD x 0 0)));let x1z := (natI (Rat.den (List.getD x 1 0)));(wordP 1 ∧ True) ∧ (asT Int 0 = natI 0 ∧ asT Int 0 = 0 ∧ asT Int 0 = 0 ∧ asT Int 0 = 0 ∧ asT Int 0 = 0 ∧ 1 = denP (qL x) 0 ∧ True) ∧ ∀ (i : Le4),asT Bool true = true ∧ ifB (decide (natI (sval i) < 4)) ((0 ≤ natI (sval i) ∧ natI (sval i) < natI 4 ∧ True) ∧ ((isz (denP (qL x) (sval i)) ≤ 1000000000 ∧ isz (natI (Rat.den (List.getD x (Int.toNat (natI (sval i))) 0))) ≤ 1000000000) ∧ True) ∧ ∃ (i' : Le4),4 - sval i' < 4 - sval i ∧ IntKind.wrap IntKind.i64 (natI (sval i) + 1) = natI (sval i') ∧ asT Int 0 = 0 ∧ asT Int 0 = 0 ∧ asT Int 0 = 0 ∧ asT Int 0 = 0 ∧ denP (qL x) (sval i) * natI (Rat.den (List.getD x (Int.toNat (natI (sval i))) 0)) = denP (qL x) (sval i') ∧ True) ((asT Int 0 ≤ 0 ∧ asT Int 0 < natI 4 ∧ True) ∧ ((isz (denP (qL x) (sval i)) ≤ 1000000000 ∧ isz x0z ≤ 1000000000 ∧ natI (Rat.den (List.getD x 0 0)) ≠ 0) ∧ True) ∧ ((isz (Rat.num (List.getD x 0 0)) ≤ 1000000000 ∧ isz (Int.fdiv (denP (qL x) (sval i)) x0z) ≤ 1000000000) ∧ True) ∧ (asT Int 0 = 0 ∧ asT Int 0 = 0 ∧ asT Int 0 = 0 ∧ asT Int 0 = 0 ∧ denP (qL x) (sval i) = denP (qL x) (sval i) ∧ Rat.num (List.getD x 0 0) * Int.fdiv (denP (qL x) (sval i)) x0z = Rat.num (List.getD x 0 0) * Int.fdiv (denP (qL x) (sval i)) x0z ∧ asT Int 0 = 0 ∧ asT Int 0 = 0 ∧ asT Int 0 = 0 ∧ True) ∧ asT Bool true = true ∧ (asT Int 0 ≤ 1 ∧ asT Int 1 < natI 4 ∧ True) ∧ ((isz (denP (qL x) (sval i)) ≤ 1000000000 ∧ isz x1z ≤ 1000000000 ∧ natI (Rat.den (List.getD x 1 0)) ≠ 0) ∧ True) ∧ ((isz (Rat.num (List.getD x 1 0)) ≤ 1000000000 ∧ isz (Int.fdiv (denP (qL x) (sval i)) x1z) ≤ 1000000000) ∧ True) ∧ (asT Int 0 = 0 ∧ asT Int 0 = 0 ∧ asT Int 0 = 0 ∧ asT Int 0 = 0 ∧ denP (qL x) (sval i) = denP (qL x) (sval i) ∧ Rat.num (List.getD x 0 0) * Int.fdiv (denP (qL x) (sval i)) x0z = Rat.num (List.getD x 0 0) * Int.fdiv (denP (qL x) (sval i)) x0z ∧ Rat.num (List.getD x 1 0) * Int.fdiv (denP (qL x) (sval i)) x1z = Rat.num (List.getD x 1 0) * Int.fdiv (denP (qL x) (sval i)) x1z ∧ asT Int 0 = 0 ∧ asT Int 0 = 0 ∧ True) ∧ asT Bool true = true ∧ (asT Int 0 ≤ 2 ∧ asT Int 2 < natI 4 ∧ True) ∧ ((isz (denP (qL x) (sval i)) ≤ 1000000000 ∧ isz (natI (Rat.den (List.getD x 2 0))) ≤ 1000000000 ∧ natI (Rat.den (List.getD x 2 0)) ≠ 0) ∧ True) ∧ ((isz (Rat.num (List.getD x 2 0)) ≤ 1000000000 ∧ isz (Int.fdiv (denP (qL x) (sval i)) (natI (Rat.den (List.getD x 2 0)))) ≤ 1000000000) ∧ True) ∧ (asT Int 0 = 0 ∧ asT Int 0 = 0 ∧ asT Int 0 = 0 ∧ asT Int 0 = 0 ∧ denP (qL x) (sval i) = denP (qL x) (sval i) ∧ Rat.num (List.getD x 0 0) * Int.fdiv (denP (qL x) (sval i)) x0z = Rat.num (List.getD x 0 0) * Int.fdiv (denP (qL x) (sval i)) x0z ∧ Rat.num (List.getD x 1 0) * Int.fdiv (denP (qL x) (sval i)) x1z = Rat.num (List.getD x 1 0) * Int.fdiv (denP (qL x) (sval i)) x1z ∧ Rat.num (List.getD x 2 0) * Int.fdiv (denP (qL x) (sval i)) (natI (Rat.den (List.getD x 2 0))) = Rat.num (List.getD x 2 0) * Int.fdiv (denP (qL x) (sval i)) (natI (Rat.den (List.getD x 2 0))) ∧ asT Int 0 = 0 ∧ True) ∧ asT Bool true = true ∧ (asT Int 0 ≤ 3 ∧ asT Int 3 < natI 4 ∧ True) ∧ ((isz (denP (qL x) (sval i)) ≤ 1000000000 ∧ isz (natI (Rat.den (List.getD x 3 0))) ≤ 1000000000 ∧ natI (Rat.den (List.getD x 3 0)) ≠ 0) ∧ True) ∧ ((isz (Rat.num (List.getD x 3 0)) ≤ 1000000000 ∧ isz (Int.fdiv (denP (qL x) (sval i)) (natI (Rat.den (List.getD x 3 0)))) ≤ 1000000000) ∧ True) ∧ (asT Int 0 = 0 ∧ asT Int 0 = 0 ∧ asT Int 0 = 0 ∧ asT Int 0 = 0 ∧ denP (qL x) (sval i) = denP (qL x) (sval i) ∧ Rat.num (List.getD x 0 0) * Int.fdiv (denP (qL x) (sval i)) x0z = Rat.num (List.getD x 0 0) * Int.fdiv (denP (qL x) (sval i)) x0z ∧ Rat.num (List.getD x 1 0) * Int.fdiv (denP (qL x) (sval i)) x1z = Rat.num (List.getD x 1 0) * Int.fdiv (denP (qL x) (sval i)) x1z ∧ Rat.num (List.getD x 2 0) * Int.fdiv (denP (qL x) (sval i)) (natI (Rat.den (List.getD x 2 0))) = Rat.num (List.getD x 2 0) * Int.fdiv (denP (qL x) (sval i)) (natI (Rat.den (List.getD x 2 0))) ∧ Rat.num (List.getD x 3 0) * Int.fdiv (denP (qL x) (sval i)) (natI (Rat.den (List.getD x 3 0))) = Rat.num (List.getD x 3 0) * Int.fdiv (denP (qL x) (sval i)) (natI (Rat.den (List.getD x 3 0))) ∧ True) ∧ asT Bool true = true ∧ ((List.length (Rat.num (List.getD x 0 0) * Int.fdiv (denP (qL x) (sval i)) x0z :: Rat.num (List.getD x 1 0) * Int.fdiv (denP (qL x) (sval i)) x1z :: Rat.num (List.getD x 2 0) * Int.fdiv (denP (qL x) (sval i)) (natI (Rat.den (List.getD x 2 0))) :: Rat.num (List.getD x 3 0) * Int.fdiv (denP (qL x) (sval i)) (natI (Rat.den (List.getD x 3 0))) :: nilT Int) = 4 ∧ (∀ (j : Nat),j < 4 → isz (xsL (Rat.num (List.getD x 0 0) * Int.fdiv (denP (qL x) (sval i)) x0z :: Rat.num (List.getD x 1 0) * Int.fdiv (denP (qL x) (sval i)) x1z :: Rat.num (List.getD x 2 0) * Int.fdiv (denP (qL x) (sval i)) (natI (Rat.den (List.getD x 2 0))) :: Rat.num (List.getD x 3 0) * Int.fdiv (denP (qL x) (sval i)) (natI (Rat.den (List.getD x 3 0))) :: nilT Int) j) ≤ 400000000) ∧ ∃ (j : Nat),j < 4 ∧ xsL (Rat.num (List.getD x 0 0) * Int.fdiv (denP (qL x) (sval i)) x0z :: Rat.num (List.getD x 1 0) * Int.fdiv (denP (qL x) (sval i)) x1z :: Rat.num (List.getD x 2 0) * Int.fdiv (denP (qL x) (sval i)) (natI (Rat.den (List.getD x 2 0))) :: Rat.num (List.getD x 3 0) * Int.fdiv (denP (qL x) (sval i)) (natI (Rat.den (List.getD x 3 0))) :: nilT Int) j ≠ 0) ∧ True) ∧ True ∧ (Prod.fst (Prod.fst (primT (xsL (Rat.num (List.getD x 0 0) * Int.fdiv (denP (qL x) (sval i)) x0z :: Rat.num (List.getD x 1 0) * Int.fdiv (denP (qL x) (sval i)) x1z :: Rat.num (List.getD x 2 0) * Int.fdiv (denP (qL x) (sval i)) (natI (Rat.den (List.getD x 2 0))) :: Rat.num (List.getD x 3 0) * Int.fdiv (denP (qL x) (sval i)) (natI (Rat.den (List.getD x 3 0))) :: nilT Int)))),Prod.fst (Prod.snd (Prod.fst (primT (xsL (Rat.num (List.getD x 0 0) * Int.fdiv (denP (qL x) (sval i)) x0z :: Rat.num (List.getD x 1 0) * Int.fdiv (denP (qL x) (sval i)) x1z :: Rat.num (List.getD x 2 0) * Int.fdiv (denP (qL x) (sval i)) (natI (Rat.den (List.getD x 2 0))) :: Rat.num (List.getD x 3 0) * Int.fdiv (denP (qL x) (sval i)) (natI (Rat.den (List.getD x 3 0))) :: nilT Int))))),Prod.fst (Prod.snd (Prod.snd (Prod.fst (primT (xsL (Rat.num (List.getD x 0 0) * Int.fdiv (denP (qL x) (sval i)) x0z :: Rat.num (List.getD x 1 0) * Int.fdiv (denP (qL x) (sval i)) x1z :: Rat.num (List.getD x 2 0) * Int.fdiv (denP (qL x) (sval i)) (natI (Rat.den (List.getD x 2 0))) :: Rat.num (List.getD x 3 0) * Int.fdiv (denP (qL x) (sval i)) (natI (Rat.den (List.getD x 3 0))) :: nilT Int)))))),Prod.fst (Prod.snd (Prod.snd (Prod.snd (Prod.fst (primT (xsL (Rat.num (List.getD x 0 0) * Int.fdiv (denP (qL x) (sval i)) x0z :: Rat.num (List.getD x 1 0) * Int.fdiv (denP (qL x) (sval i)) x1z :: Rat.num (List.getD x 2 0) * Int.fdiv (denP (qL x) (sval i)) (natI (Rat.den (List.getD x 2 0))) :: Rat.num (List.getD x 3 0) * Int.fdiv (denP (qL x) (sval i)) (natI (Rat.den (List.getD x 3 0))) :: nilT Int))))))),()) = Prod.fst (primT (clearXs (qL x))) ∧ True ∧ Prod.fst (Prod.snd (primT (xsL (Rat.num (List.getD x 0 0) * Int.fdiv (denP (qL x) (sval i)) x0z :: Rat.num (List.getD x 1 0) * Int.fdiv (denP (qL x) (sval i)) x1z :: Rat.num (List.getD x 2 0) * Int.fdiv (denP (qL x) (sval i)) (natI (Rat.den (List.getD x 2 0))) :: Rat.num (List.getD x 3 0) * Int.fdiv (denP (qL x) (sval i)) (natI (Rat.den (List.getD x 3 0))) :: nilT Int)))) = Prod.fst (Prod.snd (primT (clearXs (qL x)))) ∧ True)) (by kernel_rfl) ?_
  obtain ⟨hl,hb,hn⟩ := hp
  dsimp only [natI,asT,sval] at *
  have hx : ∀ j,x.getD j 0 = qL x j := fun _ => rfl
  simp only [hx,Int.toNat_natCast]
  generalize qL x = q at *
  simp only [ifB_iff,decide_eq_true_eq,decide_eq_false_iff_not,true_and,and_true,ne_eq]
  have d : ∀ k,k ≤ 4 → isz (denP q k) ≤ 1000000000 := fun k hk => Nat.le_trans (denP_isz hb k hk) (by omega)
  have r : ∀ j,j < 4 → isz ((q j).den : Int) ≤ 1000000000 := fun j hj => Nat.le_trans (rsz_den (q j)) (Nat.le_trans (hb j hj) (by omega))
  have n : ∀ j,j < 4 → isz (q j).num ≤ 1000000000 := fun j hj => Nat.le_trans (rsz_num (q j)) (Nat.le_trans (hb j hj) (by omega))
  have z : ∀ j,¬ ((q j).den : Int) = 0 := fun j => by have := (q j).den_nz;omega
  have f : ∀ j,j < 4 → isz ((denP q 4).fdiv ((q j).den : Int)) ≤ 1000000000 := fun j hj => Nat.le_trans (isz_fdiv_dvd (z j) (clearD_dvd q hj)) (d 4 (by omega))
  refine ⟨⟨by omega,by omega⟩,⟨rfl,rfl⟩,fun i => ⟨fun h1 => ?_,fun h1 => ?_⟩⟩
  · have hi := i.2
    refine ⟨⟨by omega,by omega⟩,⟨d _ hi,r _ (by omega)⟩,⟨i.1 + 1,by omega⟩,by simp only;omega,?_,rfl⟩
    rw [wrap_id (by omega) (by omega)];rfl
  · have hi := i.2
    have hi : i.1 = 4 := by omega
    rw [hi]
    dsimp only [nilT]
    have hX : ∀ k,k < 4 → xsL [(q 0).num * (denP q 4).fdiv ((q 0).den : Int),(q 1).num * (denP q 4).fdiv ((q 1).den : Int),(q 2).num * (denP q 4).fdiv ((q 2).den : Int),(q 3).num * (denP q 4).fdiv ((q 3).den : Int)] k = clearXs q k := fun k hk => by
      match k,hk with
      | 0,_ => rfl
      | 1,_ => rfl
      | 2,_ => rfl
      | 3,_ => rfl
    rw [primT_congr hX]
    refine ⟨⟨by omega,by omega⟩,⟨d 4 (by omega),r 0 (by omega),z 0⟩,⟨n 0 (by omega),f 0 (by omega)⟩,⟨by omega,by omega⟩,⟨d 4 (by omega),r 1 (by omega),z 1⟩,⟨n 1 (by omega),f 1 (by omega)⟩,⟨by omega,by omega⟩,⟨d 4 (by omega),r 2 (by omega),z 2⟩,⟨n 2 (by omega),f 2 (by omega)⟩,⟨by omega,by omega⟩,⟨d 4 (by omega),r 3 (by omega),z 3⟩,⟨n 3 (by omega),f 3 (by omega)⟩,⟨rfl,fun j hj => ?_,?_⟩,?_⟩
    · rw [hX j hj]
      exact Nat.le_trans (clearXs_isz hb hj) (by omega)
    · obtain ⟨j,hj,h⟩ := hn
      exact ⟨j,hj,by rw [hX j hj];exact clearXs_ne hj h⟩
    · first | trivial | exact ⟨rfl,rfl⟩ | rfl
noncomputable def LD1 : Lib := (LD0.add 57 cNz nonzero_ctr).add 58 cClr cleared_ctr
end Go.Proofs.YtidfgdchcpmnfaaGreat
namespace Go.Proofs.YtidfgdchcpmnfaaGreat
open Go Go.RowKit
set_option maxRecDepth 100000
set_option maxHeartbeats 1000000
set_option linter.unusedVariables false
set_option linter.unusedSimpArgs false
def mRows (a b c d : Int) : QM := (List.range 3).map fun i => (List.range 3).map fun j => rotQ a b c d i j
def cMx : Ctr := ⟨[tQuat],[tM,tI],fun x => True,fun x => (if qcode x.1.1 x.1.2.1 x.1.2.2.1 x.1.2.2.2.1 = 0 then mRows x.1.1 x.1.2.1 x.1.2.2.1 x.1.2.2.2.1 else [],qcode x.1.1 x.1.2.1 x.1.2.2.1 x.1.2.2.2.1,())⟩
abbrev box9 (a b c d : Int) : Res := .box [⟨tI,rotM a b c d 0 0⟩,⟨tI,rotM a b c d 0 1⟩,⟨tI,rotM a b c d 0 2⟩,⟨tI,rotM a b c d 1 0⟩,⟨tI,rotM a b c d 1 1⟩,⟨tI,rotM a b c d 1 2⟩,⟨tI,rotM a b c d 2 0⟩,⟨tI,rotM a b c d 2 1⟩,⟨tI,rotM a b c d 2 2⟩]
theorem matrix_ctr : CtrOk Tryz.prog 16 cMx := by
  refine ctr_fn LD1 [9,12,16] Tryz.func16 rfl (by decide) (fun x => [.inv Le3 (fun i => [(129,.val tI (i.1 : Int)),(10,.own 10 0)]) (fun i => [(9,box9 x.1.1 x.1.2.1 x.1.2.2.1 x.1.2.2.2.1),(10,.row 25 (.list tQ) ((List.range i.1).map fun i => (List.range 3).map fun j => rotQ x.1.1 x.1.2.1 x.1.2.2.1 x.1.2.2.2.1 i j) 0)]) (fun i => 3 - i.1) ⟨0,by omega⟩ (fun i => [.inv Le3 (fun j => [(133,.val tI (j.1 : Int)),(13,.own 13 0)]) (fun j => [(9,box9 x.1.1 x.1.2.1 x.1.2.2.1 x.1.2.2.2.1),(10,.row 25 (.list tQ) ((List.range i.1).map fun i => (List.range 3).map fun j => rotQ x.1.1 x.1.2.1 x.1.2.2.1 x.1.2.2.2.1 i j) 0),(12,.box [⟨tI,rotM x.1.1 x.1.2.1 x.1.2.2.1 x.1.2.2.2.1 i.1 0⟩,⟨tI,rotM x.1.1 x.1.2.1 x.1.2.2.1 x.1.2.2.2.1 i.1 1⟩,⟨tI,rotM x.1.1 x.1.2.1 x.1.2.2.1 x.1.2.2.2.1 i.1 2⟩]),(13,.row 30 tQ ((List.range j.1).map fun j => rotQ x.1.1 x.1.2.1 x.1.2.2.1 x.1.2.2.2.1 i.1 j) 0)]) (fun j => 3 - j.1) ⟨0,by omega⟩ (fun _ => [])])]) (fun x hp => ?_)
  obtain ⟨⟨a,b,c,d,u⟩,v⟩ := x
  change Int at a;change Int at b;change Int at c;change Int at d
  refine vc_of (let x0z := (IntKind.wrap IntKind.i64 (IntKind.wrap IntKind.i64 (IntKind.wrap IntKind.i64 (IntKind.wrap IntKind.i64 (a * a) + IntKind.wrap IntKind.i64 (b * b)) - IntKind.wrap IntKind.i64 (c * c)) - IntKind.wrap IntKind.i64 (d * d)) :: IntKind.wrap IntKind.i64 (2 * IntKind.wrap IntKind.i64 (IntKind.wrap IntKind.i64 (b * c) - IntKind.wrap IntKind.i64 (a * d))) :: IntKind.wrap IntKind.i64 (2 * IntKind.wrap IntKind.i64 (IntKind.wrap IntKind.i64 (b * d) + IntKind.wrap IntKind.i64 (a * c))) :: nilT Int);let x1z := (IntKind.wrap IntKind.i64 (2 * IntKind.wrap IntKind.i64 (IntKind.wrap IntKind.i64 (b * c) + IntKind.wrap IntKind.i64 (a * d))) :: IntKind.wrap IntKind.i64 (IntKind.wrap IntKind.i64 (IntKind.wrap IntKind.i64 (IntKind.wrap IntKind.i64 (a * a) - IntKind.wrap IntKind.i64 (b * b)) + IntKind.wrap IntKind.i64 (c * c)) - IntKind.wrap IntKind.i64 (d * d)) :: IntKind.wrap IntKind.i64 (2 * IntKind.wrap IntKind.i64 (IntKind.wrap IntKind.i64 (c * d) - IntKind.wrap IntKind.i64 (a * b))) :: nilT Int);let x2z := (x0z :: x1z :: (IntKind.wrap IntKind.i64 (2 * IntKind.wrap IntKind.i64 (IntKind.wrap IntKind.i64 (b * d) - IntKind.wrap IntKind.i64 (a * c))) :: IntKind.wrap IntKind.i64 (2 * IntKind.wrap IntKind.i64 (IntKind.wrap IntKind.i64 (c * d) + IntKind.wrap IntKind.i64 (a * b))) :: IntKind.wrap IntKind.i64 (IntKind.wrap IntKind.i64 (IntKind.wrap IntKind.i64 (IntKind.wrap IntKind.i64 (a * a) - IntKind.wrap IntKind.i64 (b * b)) - IntKind.wrap IntKind.i64 (c * c)) + IntKind.wrap IntKind.i64 (d * d)) :: nilT Int) :: nilT (List Int));(True ∧ True) ∧ ifB (qcode a b c d != 0) (True ∧ (nilT (List Rat) = if qcode a b c d = 0 then mRows a b c d else nilT (List Rat)) ∧ True ∧ qcode a b c d = qcode a b c d ∧ True) ((asT Int 0 = natI 0 ∧ (True ∧ asT (List (List Rat)) (nilT (List Rat)) = nilT (List Rat)) ∧ IntKind.wrap IntKind.i64 (IntKind.wrap IntKind.i64 (IntKind.wrap IntKind.i64 (IntKind.wrap IntKind.i64 (a * a) + IntKind.wrap IntKind.i64 (b * b)) - IntKind.wrap IntKind.i64 (c * c)) - IntKind.wrap IntKind.i64 (d * d)) = rotM a b c d 0 0 ∧ IntKind.wrap IntKind.i64 (2 * IntKind.wrap IntKind.i64 (IntKind.wrap IntKind.i64 (b * c) - IntKind.wrap IntKind.i64 (a * d))) = rotM a b c d 0 1 ∧ IntKind.wrap IntKind.i64 (2 * IntKind.wrap IntKind.i64 (IntKind.wrap IntKind.i64 (b * d) + IntKind.wrap IntKind.i64 (a * c))) = rotM a b c d 0 2 ∧ IntKind.wrap IntKind.i64 (2 * IntKind.wrap IntKind.i64 (IntKind.wrap IntKind.i64 (b * c) + IntKind.wrap IntKind.i64 (a * d))) = rotM a b c d 1 0 ∧ IntKind.wrap IntKind.i64 (IntKind.wrap IntKind.i64 (IntKind.wrap IntKind.i64 (IntKind.wrap IntKind.i64 (a * a) - IntKind.wrap IntKind.i64 (b * b)) + IntKind.wrap IntKind.i64 (c * c)) - IntKind.wrap IntKind.i64 (d * d)) = rotM a b c d 1 1 ∧ IntKind.wrap IntKind.i64 (2 * IntKind.wrap IntKind.i64 (IntKind.wrap IntKind.i64 (c * d) - IntKind.wrap IntKind.i64 (a * b))) = rotM a b c d 1 2 ∧ IntKind.wrap IntKind.i64 (2 * IntKind.wrap IntKind.i64 (IntKind.wrap IntKind.i64 (b * d) - IntKind.wrap IntKind.i64 (a * c))) = rotM a b c d 2 0 ∧ IntKind.wrap IntKind.i64 (2 * IntKind.wrap IntKind.i64 (IntKind.wrap IntKind.i64 (c * d) + IntKind.wrap IntKind.i64 (a * b))) = rotM a b c d 2 1 ∧ IntKind.wrap IntKind.i64 (IntKind.wrap IntKind.i64 (IntKind.wrap IntKind.i64 (IntKind.wrap IntKind.i64 (a * a) - IntKind.wrap IntKind.i64 (b * b)) - IntKind.wrap IntKind.i64 (c * c)) + IntKind.wrap IntKind.i64 (d * d)) = rotM a b c d 2 2 ∧ (asT (List (List Rat)) (nilT (List Rat)) = nilT (List Rat) ∧ 0 = 0 ∧ asT Bool true = true) ∧ True) ∧ ∀ (i : Le3),asT Bool true = true ∧ ifB (decide (natI (sval i) < 3)) ((0 ≤ natI (sval i) ∧ natI (sval i) < natI 3 ∧ True) ∧ (asT Int 0 = natI 0 ∧ (True ∧ asT (List Rat) (nilT Rat) = nilT Rat) ∧ rotM a b c d 0 0 = rotM a b c d 0 0 ∧ rotM a b c d 0 1 = rotM a b c d 0 1 ∧ rotM a b c d 0 2 = rotM a b c d 0 2 ∧ rotM a b c d 1 0 = rotM a b c d 1 0 ∧ rotM a b c d 1 1 = rotM a b c d 1 1 ∧ rotM a b c d 1 2 = rotM a b c d 1 2 ∧ rotM a b c d 2 0 = rotM a b c d 2 0 ∧ rotM a b c d 2 1 = rotM a b c d 2 1 ∧ rotM a b c d 2 2 = rotM a b c d 2 2 ∧ List.map (fun (i : Nat) => List.map (fun (j : Nat) => rotQ a b c d i j) (List.range 3)) (List.range (sval i)) = List.map (fun (i : Nat) => List.map (fun (j : Nat) => rotQ a b c d i j) (List.range 3)) (List.range (sval i)) ∧ List.getD (List.getD x2z (Int.toNat (natI (sval i))) (0 :: List.replicate 2 0)) 0 0 = rotM a b c d (sval i) 0 ∧ List.getD (List.getD x2z (Int.toNat (natI (sval i))) (0 :: List.replicate 2 0)) (0 + 1) 0 = rotM a b c d (sval i) 1 ∧ List.getD (List.getD x2z (Int.toNat (natI (sval i))) (0 :: List.replicate 2 0)) (0 + 1 + 1) 0 = rotM a b c d (sval i) 2 ∧ (asT (List Rat) (nilT Rat) = nilT Rat ∧ 0 = 0 ∧ asT Bool true = true) ∧ True) ∧ ∀ (i_1 : Le3),asT Bool true = true ∧ ifB (decide (natI (sval i_1) < 3)) ((0 ≤ natI (sval i_1) ∧ natI (sval i_1) < natI 3 ∧ True) ∧ ((okc a ∧ okc b ∧ okc c ∧ okc d) ∧ (wordP (List.getD (List.getD (List.getD x2z (Int.toNat (natI (sval i))) (0 :: List.replicate 2 0)) 0 0 :: List.getD (List.getD x2z (Int.toNat (natI (sval i))) (0 :: List.replicate 2 0)) (0 + 1) 0 :: List.getD (List.getD x2z (Int.toNat (natI (sval i))) (0 :: List.replicate 2 0)) (0 + 1 + 1) 0 :: nilT Int) (Int.toNat (natI (sval i_1))) 0) ∧ wordP (normI a b c d) ∧ normI a b c d ≠ 0) ∧ True) ∧ (List.length (List.map (fun (j : Nat) => rotQ a b c d (sval i) j) (List.range (sval i_1))) + List.length (Rat.divInt (List.getD (List.getD (List.getD x2z (Int.toNat (natI (sval i))) (0 :: List.replicate 2 0)) 0 0 :: List.getD (List.getD x2z (Int.toNat (natI (sval i))) (0 :: List.replicate 2 0)) (0 + 1) 0 :: List.getD (List.getD x2z (Int.toNat (natI (sval i))) (0 :: List.replicate 2 0)) (0 + 1 + 1) 0 :: nilT Int) (Int.toNat (natI (sval i_1))) 0) (normI a b c d) :: nilT Rat) ≤ 1000000000 ∧ True) ∧ ∃ (i' : Le3),3 - sval i' < 3 - sval i_1 ∧ IntKind.wrap IntKind.i64 (natI (sval i_1) + 1) = natI (sval i') ∧ rotM a b c d 0 0 = rotM a b c d 0 0 ∧ rotM a b c d 0 1 = rotM a b c d 0 1 ∧ rotM a b c d 0 2 = rotM a b c d 0 2 ∧ rotM a b c d 1 0 = rotM a b c d 1 0 ∧ rotM a b c d 1 1 = rotM a b c d 1 1 ∧ rotM a b c d 1 2 = rotM a b c d 1 2 ∧ rotM a b c d 2 0 = rotM a b c d 2 0 ∧ rotM a b c d 2 1 = rotM a b c d 2 1 ∧ rotM a b c d 2 2 = rotM a b c d 2 2 ∧ List.map (fun (i : Nat) => List.map (fun (j : Nat) => rotQ a b c d i j) (List.range 3)) (List.range (sval i)) = List.map (fun (i : Nat) => List.map (fun (j : Nat) => rotQ a b c d i j) (List.range 3)) (List.range (sval i)) ∧ rotM a b c d (sval i) 0 = rotM a b c d (sval i) 0 ∧ rotM a b c d (sval i) 1 = rotM a b c d (sval i) 1 ∧ rotM a b c d (sval i) 2 = rotM a b c d (sval i) 2 ∧ List.map (fun (j : Nat) => rotQ a b c d (sval i) j) (List.range (sval i_1)) ++ Rat.divInt (List.getD (List.getD (List.getD x2z (Int.toNat (natI (sval i))) (0 :: List.replicate 2 0)) 0 0 :: List.getD (List.getD x2z (Int.toNat (natI (sval i))) (0 :: List.replicate 2 0)) (0 + 1) 0 :: List.getD (List.getD x2z (Int.toNat (natI (sval i))) (0 :: List.replicate 2 0)) (0 + 1 + 1) 0 :: nilT Int) (Int.toNat (natI (sval i_1))) 0) (normI a b c d) :: nilT Rat = List.map (fun (j : Nat) => rotQ a b c d (sval i) j) (List.range (sval i')) ∧ True) ((List.length (List.map (fun (i : Nat) => List.map (fun (j : Nat) => rotQ a b c d i j) (List.range 3)) (List.range (sval i))) + List.length (List.map (fun (j : Nat) => rotQ a b c d (sval i) j) (List.range (sval i_1)) :: nilT (List Rat)) ≤ 1000000000 ∧ True) ∧ ∃ (i' : Le3),3 - sval i' < 3 - sval i ∧ IntKind.wrap IntKind.i64 (natI (sval i) + 1) = natI (sval i') ∧ rotM a b c d 0 0 = rotM a b c d 0 0 ∧ rotM a b c d 0 1 = rotM a b c d 0 1 ∧ rotM a b c d 0 2 = rotM a b c d 0 2 ∧ rotM a b c d 1 0 = rotM a b c d 1 0 ∧ rotM a b c d 1 1 = rotM a b c d 1 1 ∧ rotM a b c d 1 2 = rotM a b c d 1 2 ∧ rotM a b c d 2 0 = rotM a b c d 2 0 ∧ rotM a b c d 2 1 = rotM a b c d 2 1 ∧ rotM a b c d 2 2 = rotM a b c d 2 2 ∧ List.map (fun (i : Nat) => List.map (fun (j : Nat) => rotQ a b c d i j) (List.range 3)) (List.range (sval i)) ++ List.map (fun (j : Nat) => rotQ a b c d (sval i) j) (List.range (sval i_1)) :: nilT (List Rat) = List.map (fun (i : Nat) => List.map (fun (j : Nat) => rotQ a b c d i j) (List.range 3)) (List.range (sval i')) ∧ True)) (True ∧ (List.map (fun (i : Nat) => List.map (fun (j : Nat) => rotQ a b c d i j) (List.range 3)) (List.range (sval i)) = if qcode a b c d = 0 then mRows a b c d else nilT (List Rat)) ∧ True ∧ 0 = qcode a b c d ∧ True))) (by kernel_rfl) ?_
  dsimp only [natI,sval,asT,nilT,intQ] at *
  simp only [ifB_iff,true_and,and_true,decide_eq_true_eq,decide_eq_false_iff_not,Int.toNat_natCast,Option.some.injEq,List.length_map,List.length_range,List.length_cons,List.length_nil,true_implies,implies_true,bne_iff_ne,ne_eq,bne_eq_false_iff_eq]
  refine ⟨fun h => (if_neg h).symm,fun h => ?_⟩
  obtain ⟨hn,oa,ob,oc,od⟩ := qcode_ok h
  have hN := normI_pos hn
  obtain ⟨maa0,maa1⟩ := okc_mul oa oa
  obtain ⟨mab0,mab1⟩ := okc_mul oa ob
  obtain ⟨mac0,mac1⟩ := okc_mul oa oc
  obtain ⟨mad0,mad1⟩ := okc_mul oa od
  obtain ⟨mbb0,mbb1⟩ := okc_mul ob ob
  obtain ⟨mbc0,mbc1⟩ := okc_mul ob oc
  obtain ⟨mbd0,mbd1⟩ := okc_mul ob od
  obtain ⟨mcc0,mcc1⟩ := okc_mul oc oc
  obtain ⟨mcd0,mcd1⟩ := okc_mul oc od
  obtain ⟨mdd0,mdd1⟩ := okc_mul od od
  simp (disch := omega) only [wrap_id,if_pos h]
  refine ⟨⟨rfl,rfl,rfl,rfl,rfl,rfl,rfl,rfl,rfl,rfl⟩,fun i => ⟨fun h1 => ?_,fun h1 => ?_⟩⟩
  · have hi := i.2
    have h1 : i.1 < 3 := by omega
    have hM : ∀ k,k < 3 → ([([[a * a + b * b - c * c - d * d,2 * (b * c - a * d),2 * (b * d + a * c)],[2 * (b * c + a * d),a * a - b * b + c * c - d * d,2 * (c * d - a * b)],[2 * (b * d - a * c),2 * (c * d + a * b),a * a - b * b - c * c + d * d]].getD i.1 (0 :: List.replicate 2 0)).getD 0 0,([[a * a + b * b - c * c - d * d,2 * (b * c - a * d),2 * (b * d + a * c)],[2 * (b * c + a * d),a * a - b * b + c * c - d * d,2 * (c * d - a * b)],[2 * (b * d - a * c),2 * (c * d + a * b),a * a - b * b - c * c + d * d]].getD i.1 (0 :: List.replicate 2 0)).getD (0 + 1) 0,([[a * a + b * b - c * c - d * d,2 * (b * c - a * d),2 * (b * d + a * c)],[2 * (b * c + a * d),a * a - b * b + c * c - d * d,2 * (c * d - a * b)],[2 * (b * d - a * c),2 * (c * d + a * b),a * a - b * b - c * c + d * d]].getD i.1 (0 :: List.replicate 2 0)).getD (0 + 1 + 1) 0] : List Int).getD k 0 = rotM a b c d i.1 k := by
      intro k hk
      have e : i.1 = 0 ∨ i.1 = 1 ∨ i.1 = 2 := by omega
      have e' : k = 0 ∨ k = 1 ∨ k = 2 := by omega
      rcases e with e | e | e <;> rw [e] <;> rcases e' with rfl | rfl | rfl <;> rfl
    refine ⟨⟨by omega,by omega⟩,⟨rfl,hM 0 (by omega),hM 1 (by omega),hM 2 (by omega)⟩,fun k => ⟨fun h2 => ?_,fun h2 => ?_⟩⟩
    all_goals
      have hk := k.2
    · have hk3 : k.1 < 3 := by omega
      rw [hM k.1 hk3]
      have rb := rotM_bound oa ob oc od h1 hk3
      have nb : wordP (normI a b c d) := by unfold wordP normI;omega
      refine ⟨⟨by omega,by omega⟩,⟨⟨oa,ob,oc,od⟩,⟨by omega,by omega⟩,nb,by omega⟩,by omega,⟨k.1 + 1,by omega⟩,by simp only;omega,by simp only;omega,?_⟩
      simp only [List.range_succ,List.map_append,List.map_cons,List.map_nil]
      rfl
    · have hk : k.1 = 3 := by omega
      refine ⟨by omega,⟨i.1 + 1,by omega⟩,by simp only;omega,by simp only;omega,?_⟩
      rw [hk]
      simp only [List.range_succ (n := i.1),List.map_append,List.map_cons,List.map_nil]
  · have hi := i.2
    have hi : i.1 = 3 := by omega
    rw [hi]
    exact ⟨rfl,h.symm⟩
end Go.Proofs.YtidfgdchcpmnfaaGreat
namespace Go.Proofs.YtidfgdchcpmnfaaGreat
open Go Go.RowKit
set_option maxRecDepth 100000
set_option maxHeartbeats 1000000
set_option linter.unusedVariables false
set_option linter.unusedSimpArgs false
def rawZ : RawQ := ⟨false,0,0,0⟩
abbrev tR : Ty := .lf .rrat
abbrev tMR : Ty := .list (.list tR)
theorem v_rawQ {F : Nat → Prop} {w : World} {v : Value} {x : Rat} (h : RQ w v x) : vrep F w tR v (rawQ x) := by
  obtain ⟨b,p,c,b',p',c',rfl⟩ := rat_lens h
  exact ⟨_,rfl,b,p,c,b',p',c',rfl,h.raw⟩
theorem v_rawZ {F : Nat → Prop} {w : World} : vrep F w tR (.agg #[.bool false,.slice none 0 0,.bool false,.slice none 0 0]) rawZ :=
  ⟨[.bool false,.slice none 0 0,.bool false,.slice none 0 0],rfl,zc_rep (.lf .rrat) _ rfl⟩
def cVal (K : Nat) : Ctr := ⟨[tR],[tB],fun x => (show RawQ from x.1).n ≤ K ∧ (show RawQ from x.1).m ≤ K,fun x => ((show RawQ from x.1).ok,())⟩
theorem raw_v {F : Nat → Prop} {w : World} {v : Value} {x : RawQ} (h : vrep F w tR v x) : QRaw w v x.ok x.x ∧ ∀ K,x.n ≤ K → x.m ≤ K → Qn v K := by
  obtain ⟨cs,rfl,b,p,c,b',p',c',rfl,h2⟩ := h
  exact ⟨h2,fun K h1 h2 => ⟨b,p,_,c,b',p',_,c',rfl,h1,h2⟩⟩
theorem cVal_ok {f : FuncId} {K : Nat} (h : ∀ (v : Value) (ok : Bool) (q : Rat) (w : World),QRaw w v ok q → Qn v K → Calls Tryz.prog f #[v] w (fun e w' => e = .returned (.bool ok) ∧ Below w.heap.size w w')) : CtrOk Tryz.prog f (cVal K) := by
  intro F w vs x hF hvs hp
  obtain ⟨v,vs',rfl,h1,h3⟩ := hvs
  have h3 : vs' = [] := h3
  subst h3
  obtain ⟨h4,h5⟩ := raw_v h1
  refine (h v _ _ w h4 (h5 K hp.1 hp.2)).mono ?_
  rintro e w' ⟨rfl,hb⟩
  exact ⟨_,rfl,v_bool _,hb⟩
def newT (e x y : Int) : RawQ × Int × Unit := if y = 0 then (rawZ,e,()) else (rawQ (Rat.divInt x y),(0 : Int),())
def cNew (K : Nat) (e : Int) : Ctr := ⟨[tZ,tZ],[tR,tI],fun x => isz x.1 ≤ K ∧ isz x.2.1 ≤ K,fun x => newT e x.1 x.2.1⟩
theorem cNew_ok {f : FuncId} {K : Nat} {c : Int} (h : ∀ (v u : Value) (x y : Int) (w : World),RInt w v x → RInt w u y → isz x ≤ K → isz y ≤ K → y ≠ 0 → Calls Tryz.prog f #[v,u] w (GQC (Rat.divInt x y) 0 w)) (h0 : ∀ (v u : Value) (x y : Int) (w : World),RInt w v x → RInt w u y → y = 0 → Calls Tryz.prog f #[v,u] w (GNoQ c w)) : CtrOk Tryz.prog f (cNew K c) := by
  intro F w vs x hF hvs hp
  obtain ⟨v,vs',rfl,h1,u,vs'',rfl,h2,h3⟩ := hvs
  have h3 : vs'' = [] := h3
  subst h3
  by_cases hy : (show Int from x.2.1) = 0
  · refine (h0 v u x.1 x.2.1 w (big_v h1) (big_v h2) hy).mono ?_
    rintro e w' ⟨rfl,hb⟩
    refine ⟨_,rfl,?_,hb⟩
    rw [show (cNew K c).fn x = (rawZ,c,()) from if_pos hy]
    exact ⟨[_,_],rfl,_,_,rfl,v_rawZ,_,_,rfl,v_int _,rfl⟩
  · refine (h v u x.1 x.2.1 w (big_v h1) (big_v h2) hp.1 hp.2 hy).mono ?_
    rintro e w' ⟨r,rfl,hr,hb⟩
    refine ⟨_,rfl,?_,hb⟩
    rw [show (cNew K c).fn x = (rawQ (Rat.divInt x.1 x.2.1),(0 : Int),()) from if_neg hy]
    exact ⟨[_,_],rfl,_,_,rfl,v_rawQ hr,_,_,rfl,v_int _,rfl⟩
def divT (e : Int) (x y : Rat) : RawQ × Int × Unit := if y = 0 then (rawZ,e,()) else (rawQ (x / y),(0 : Int),())
def cDivQ (K : Nat) (e : Int) : Ctr := ⟨[tQ,tQ],[tR,tI],fun x => rsz x.1 ≤ K ∧ rsz x.2.1 ≤ K,fun x => divT e x.1 x.2.1⟩
theorem cDivQ_ok {f : FuncId} {K : Nat} {c : Int} (h : ∀ (v u : Value) (x y : Rat) (w : World),RQ w v x → RQ w u y → rsz x ≤ K → rsz y ≤ K → y ≠ 0 → Calls Tryz.prog f #[v,u] w (GQC (x / y) 0 w)) (h0 : ∀ (v u : Value) (x y : Rat) (w : World),RQ w v x → RQ w u y → rsz x ≤ K → rsz y ≤ K → y = 0 → Calls Tryz.prog f #[v,u] w (GNoQ c w)) : CtrOk Tryz.prog f (cDivQ K c) := by
  intro F w vs x hF hvs hp
  obtain ⟨v,vs',rfl,h1,u,vs'',rfl,h2,h3⟩ := hvs
  have h3 : vs'' = [] := h3
  subst h3
  by_cases hy : (show Rat from x.2.1) = 0
  · refine (h0 v u x.1 x.2.1 w (rat_v h1) (rat_v h2) hp.1 hp.2 hy).mono ?_
    rintro e w' ⟨rfl,hb⟩
    refine ⟨_,rfl,?_,hb⟩
    rw [show (cDivQ K c).fn x = (rawZ,c,()) from if_pos hy]
    exact ⟨[_,_],rfl,_,_,rfl,v_rawZ,_,_,rfl,v_int _,rfl⟩
  · refine (h v u x.1 x.2.1 w (rat_v h1) (rat_v h2) hp.1 hp.2 hy).mono ?_
    rintro e w' ⟨r,rfl,hr,hb⟩
    refine ⟨_,rfl,?_,hb⟩
    rw [show (cDivQ K c).fn x = (rawQ ((show Rat from x.1) / (show Rat from x.2.1)),(0 : Int),()) from if_neg hy]
    exact ⟨[_,_],rfl,_,_,rfl,v_rawQ hr,_,_,rfl,v_int _,rfl⟩
def cQZ (K : Nat) (g : Rat → Int) : Ctr := ⟨[tQ],[tZ],fun x => rsz x.1 ≤ K,fun x => (g x.1,())⟩
theorem cQZ_ok {f : FuncId} {K : Nat} {g : Rat → Int} (h : ∀ (v : Value) (x : Rat) (w : World),RQ w v x → rsz x ≤ K → Calls Tryz.prog f #[v] w (GInt (g x) w)) : CtrOk Tryz.prog f (cQZ K g) := by
  intro F w vs x hF hvs hp
  obtain ⟨v,vs',rfl,h1,h3⟩ := hvs
  have h3 : vs' = [] := h3
  subst h3
  refine (h v x.1 w (rat_v h1) hp).mono ?_
  rintro e w' ⟨r,rfl,hr,hb⟩
  exact ⟨_,rfl,v_big hr,hb⟩
abbrev s4 (x : Rat) : Prop := rsz x ≤ 400000000
abbrev s44 (x y : Rat) : Prop := rsz x ≤ 400000000 ∧ rsz y ≤ 400000000
noncomputable def LF : Lib := ((((((((((LD1
  ).add 51 (cIQ wordP (fun i => (i : Rat))) (cIQ_ok fun x w h => wholeQ_any x w h.1 h.2)
  ).add 122 (cVal 1000000000) (cVal_ok fun v ok q w h hn => validQ_any v ok q w h hn)
  ).add 70 (cNew 1000000000 14) (cNew_ok (fun v u x y w h1 h2 l1 l2 hy => newQ_ok v u _ _ x y w h1.rawV h2.rawV l1 l2 hy) (fun v u x y w h1 h2 hy => newQ_no v u _ _ x y w h1.rawV h2.rawV hy))
  ).add 52 (cQ2 s44 (· + ·)) (cQ2_ok fun v u x y w a b h => addQ_any v u x y w a b h.1 h.2)
  ).add 53 (cQ2 s44 (· * ·)) (cQ2_ok fun v u x y w a b h => mulQ_any v u x y w a b h.1 h.2)
  ).add 56 (cQ2 s44 (· - ·)) (cQ2_ok fun v u x y w a b h => subQ_any v u x y w a b h.1 h.2)
  ).add 90 (cQ2I s44 cmpQ) (cQ2I_ok fun v u x y w a b h => compareQ_any v u x y w a b h.1 h.2)
  ).add 91 (cDivQ 400000000 14) (cDivQ_ok (fun v u x y w a b h1 h2 hy => divQ_ok v u x y w a b h1 h2 hy) (fun v u x y w a b l1 l2 hy => divQ_noraw v u true true x y w a.raw b.raw (a.qn l1) (b.qn l2) hy))
  ).add 89 (cQ1 s4 absQ) (cQ1_ok fun v x w a h => absQ_any v x w a (Nat.le_trans h (by omega)))
  ).add 92 (cQZ 400000000 Rat.floor) (cQZ_ok fun v x w a h => floorQ_any v x w a (Nat.le_trans h (by omega)))
def cRL : Ctr := ⟨[tQuat],[.list tI],fun x => True,fun x => ([x.1.1,x.1.2.1,x.1.2.2.1,x.1.2.2.2.1],())⟩
theorem rlist_ctr : CtrOk Tryz.prog 66 cRL := by
  refine ctr_fn LZ [] Tryz.func66 rfl (by decide) (fun x => []) (fun x hp => ?_)
  obtain ⟨⟨a,b,c,d,v⟩,u⟩ := x
  change Int at a;change Int at b;change Int at c;change Int at d
  refine vc_of (True ∧ a :: b :: c :: d :: nilT Int = a :: b :: c :: d :: nilT Int ∧ True) (by kernel_rfl) ?_
  exact ⟨trivial,rfl,trivial⟩
noncomputable def LE0 : Lib := LF.add 66 cRL rlist_ctr
theorem rcheck_ctr : CtrOk Tryz.prog 17 (cHI (fun _ _ _ _ => True) qcode) := by
  refine ctr_fn LE0 [] Tryz.func17 rfl (by decide) (fun x => [.rounds 5 [4] []]) (fun x hp => ?_)
  obtain ⟨⟨a,b,c,d,v⟩,u⟩ := x
  change Int at a;change Int at b;change Int at c;change Int at d
  refine vc_of (((((a == 0) == true) = true → ((a == 0) == true) = true ∧ True) ∧ (((a == 0) == true) = true → ((a == 0) == true) = true ∧ True) ∧ ((a == 0) = true → ((a == 0) == true) = true) ∧ (((bif a == 0 then b == 0 else false) == true) = true → ((bif a == 0 then b == 0 else false) == true) = true ∧ True) ∧ (((bif a == 0 then b == 0 else false) == true) = true → ((bif a == 0 then b == 0 else false) == true) = true ∧ True) ∧ ((bif a == 0 then b == 0 else false) = true → ((bif a == 0 then b == 0 else false) == true) = true) ∧ (((bif bif a == 0 then b == 0 else false then c == 0 else false) == true) = true → ((bif bif a == 0 then b == 0 else false then c == 0 else false) == true) = true ∧ True) ∧ (((bif bif a == 0 then b == 0 else false then c == 0 else false) == true) = true → ((bif bif a == 0 then b == 0 else false then c == 0 else false) == true) = true ∧ True) ∧ ((bif bif a == 0 then b == 0 else false then c == 0 else false) = true → ((bif bif a == 0 then b == 0 else false then c == 0 else false) == true) = true) ∧ True) ∧ ifB (bif bif bif a == 0 then b == 0 else false then c == 0 else false then d == 0 else false) (True ∧ 1 = qcode a b c d ∧ True) ((True ∧ True) ∧ (asT Int 0 ≤ 0 ∧ 0 < natI (List.length (a :: b :: c :: d :: nilT Int)) ∧ ((decide (a > 1048576) == false) = true → (decide (a > 1048576) == false) = true ∧ (decide (a > 1048576) == false) = true ∧ asT Int 0 ≤ 0 ∧ 0 < natI (List.length (a :: b :: c :: d :: nilT Int)) ∧ True) ∧ ((decide (a > 1048576) == false) = true → (decide (a > 1048576) == false) = true ∧ True) ∧ ((decide (a > 1048576) == false) = true → (decide (a > 1048576) == false) = true ∧ True) ∧ (decide (a > 1048576) = false → (decide (a > 1048576) == false) = true) ∧ True) ∧ ifB (bif decide (a > 1048576) then true else decide (a < -1048576)) (True ∧ 3 = qcode a b c d ∧ True) ((asT Int 0 ≤ 1 ∧ 1 < natI (List.length (a :: b :: c :: d :: nilT Int)) ∧ ((decide (b > 1048576) == false) = true → (decide (b > 1048576) == false) = true ∧ (decide (b > 1048576) == false) = true ∧ asT Int 0 ≤ 1 ∧ 1 < natI (List.length (a :: b :: c :: d :: nilT Int)) ∧ True) ∧ ((decide (b > 1048576) == false) = true → (decide (b > 1048576) == false) = true ∧ True) ∧ ((decide (b > 1048576) == false) = true → (decide (b > 1048576) == false) = true ∧ True) ∧ (decide (b > 1048576) = false → (decide (b > 1048576) == false) = true) ∧ True) ∧ ifB (bif decide (b > 1048576) then true else decide (b < -1048576)) (True ∧ 3 = qcode a b c d ∧ True) ((asT Int 0 ≤ 2 ∧ 2 < natI (List.length (a :: b :: c :: d :: nilT Int)) ∧ ((decide (c > 1048576) == false) = true → (decide (c > 1048576) == false) = true ∧ (decide (c > 1048576) == false) = true ∧ asT Int 0 ≤ 2 ∧ 2 < natI (List.length (a :: b :: c :: d :: nilT Int)) ∧ True) ∧ ((decide (c > 1048576) == false) = true → (decide (c > 1048576) == false) = true ∧ True) ∧ ((decide (c > 1048576) == false) = true → (decide (c > 1048576) == false) = true ∧ True) ∧ (decide (c > 1048576) = false → (decide (c > 1048576) == false) = true) ∧ True) ∧ ifB (bif decide (c > 1048576) then true else decide (c < -1048576)) (True ∧ 3 = qcode a b c d ∧ True) ((asT Int 0 ≤ 3 ∧ 3 < natI (List.length (a :: b :: c :: d :: nilT Int)) ∧ ((decide (d > 1048576) == false) = true → (decide (d > 1048576) == false) = true ∧ (decide (d > 1048576) == false) = true ∧ asT Int 0 ≤ 3 ∧ 3 < natI (List.length (a :: b :: c :: d :: nilT Int)) ∧ True) ∧ ((decide (d > 1048576) == false) = true → (decide (d > 1048576) == false) = true ∧ True) ∧ ((decide (d > 1048576) == false) = true → (decide (d > 1048576) == false) = true ∧ True) ∧ (decide (d > 1048576) = false → (decide (d > 1048576) == false) = true) ∧ True) ∧ ifB (bif decide (d > 1048576) then true else decide (d < -1048576)) (True ∧ 3 = qcode a b c d ∧ True) (True ∧ 0 = qcode a b c d ∧ True)))))) (by kernel_rfl) ?_
  have e : ∀ q : Int,(bif decide (q > 1048576) then true else decide (q < -1048576)) = !decide (okc q) := fun q => by
    by_cases h : okc q
    · have h' := h;unfold okc at h'
      rw [decide_eq_false (p := q > 1048576) (by omega),decide_eq_false (p := q < -1048576) (by omega),decide_eq_true h];rfl
    · have h' : q < -1048576 ∨ q > 1048576 := by unfold okc at h;omega
      rw [decide_eq_false h]
      rcases h' with h' | h'
      · rw [decide_eq_true h'];cases decide (q > 1048576) <;> rfl
      · rw [decide_eq_true h'];rfl
  dsimp only [natI,asT,nilT] at *
  simp only [e]
  have z : (bif bif bif a == 0 then b == 0 else false then c == 0 else false then d == 0 else false) = decide (a = 0 ∧ b = 0 ∧ c = 0 ∧ d = 0) := by
    by_cases h0 : a = 0 <;> by_cases h1 : b = 0 <;> by_cases h2 : c = 0 <;> by_cases h3 : d = 0 <;> simp [h0,h1,h2,h3]
  rw [z]
  by_cases hz : a = 0 ∧ b = 0 ∧ c = 0 ∧ d = 0
  · obtain ⟨rfl,rfl,rfl,rfl⟩ := hz
    simp [ifB,qcode]
  · have hq : qcode a b c d = if okc a ∧ okc b ∧ okc c ∧ okc d then 0 else 3 := if_neg hz
    rw [hq,decide_eq_false hz]
    by_cases oa : okc a
    · by_cases ob : okc b
      · by_cases oc : okc c
        · by_cases od : okc d <;> simp [ifB,oa,ob,oc,od]
        · simp [ifB,oa,ob,oc]
      · simp [ifB,oa,ob]
    · simp [ifB,oa]
noncomputable def LE1 : Lib := LE0.add 17 (cHI (fun _ _ _ _ => True) qcode) rcheck_ctr
theorem qcode2_zero {a b c d e f g h : Int} : qcode2 a b c d e f g h = 0 ↔ qcode a b c d = 0 ∧ qcode e f g h = 0 := by
  unfold qcode2
  by_cases h : qcode a b c d = 0
  · rw [if_pos h];simp [h]
  · rw [if_neg h];simp [h]
def chordT (a b c d e f g h : Int) : RawQ × Int × Unit := if qcode2 a b c d e f g h = 0 then (rawQ (chordQ a b c d e f g h),0,()) else (rawZ,qcode2 a b c d e f g h,())
def cChord : Ctr := ⟨[tQuat,tQuat],[tR,tI],fun x => True,fun x => chordT x.1.1 x.1.2.1 x.1.2.2.1 x.1.2.2.2.1 x.2.1.1 x.2.1.2.1 x.2.1.2.2.1 x.2.1.2.2.2.1⟩
theorem chord_ctr : CtrOk Tryz.prog 19 cChord := by
  refine ctr_fn LE1 [4,7,8] Tryz.func19 rfl (by decide) (fun x => []) (fun x hp => ?_)
  obtain ⟨⟨a,b,c,d,v⟩,⟨e,f,g,h,z⟩,u⟩ := x
  change Int at a;change Int at b;change Int at c;change Int at d;change Int at e;change Int at f;change Int at g;change Int at h
  change Unit at v;change Unit at z
  refine vc_of (let x0z := (IntKind.wrap IntKind.i64 (IntKind.wrap IntKind.i64 (IntKind.wrap IntKind.i64 (a * e) + IntKind.wrap IntKind.i64 (b * f)) + IntKind.wrap IntKind.i64 (c * g)) + IntKind.wrap IntKind.i64 (d * h));(List.length ((a,b,c,d,v) :: (e,f,g,h,z) :: nilT (Int × Int × Int × Int × PUnit)) ≤ 1000000000 ∧ True) ∧ ifB (firstC ((a,b,c,d,v) :: (e,f,g,h,z) :: nilT (Int × Int × Int × Int × PUnit)) != 0) (True ∧ { ok := false,x := 0,n := 0,m := 0 } = Prod.fst (chordT a b c d e f g h) ∧ True ∧ firstC ((a,b,c,d,v) :: (e,f,g,h,z) :: nilT (Int × Int × Int × Int × PUnit)) = Prod.fst (Prod.snd (chordT a b c d e f g h)) ∧ True) ((wordP (IntKind.wrap IntKind.i64 x0z) ∧ True) ∧ ((isz (IntKind.wrap IntKind.i64 x0z) ≤ 1000000000 ∧ isz (IntKind.wrap IntKind.i64 x0z) ≤ 1000000000) ∧ (okc a ∧ okc b ∧ okc c ∧ okc d) ∧ wordP (normI a b c d) ∧ (okc e ∧ okc f ∧ okc g ∧ okc h) ∧ wordP (normI e f g h) ∧ (isz (normI a b c d) ≤ 1000000000 ∧ isz (normI e f g h) ≤ 1000000000) ∧ (isz (IntKind.wrap IntKind.i64 x0z * IntKind.wrap IntKind.i64 x0z) ≤ 1000000000 ∧ isz (normI a b c d * normI e f g h) ≤ 1000000000) ∧ True) ∧ (wordP 1 ∧ RawQ.ok (Prod.fst (newT 14 (IntKind.wrap IntKind.i64 x0z * IntKind.wrap IntKind.i64 x0z) (normI a b c d * normI e f g h))) = true ∧ s44 (intQ 1) (RawQ.x (Prod.fst (newT 14 (IntKind.wrap IntKind.i64 x0z * IntKind.wrap IntKind.i64 x0z) (normI a b c d * normI e f g h)))) ∧ True) ∧ True ∧ rawQ (intQ 1 - RawQ.x (Prod.fst (newT 14 (IntKind.wrap IntKind.i64 x0z * IntKind.wrap IntKind.i64 x0z) (normI a b c d * normI e f g h)))) = Prod.fst (chordT a b c d e f g h) ∧ True ∧ 0 = Prod.fst (Prod.snd (chordT a b c d e f g h)) ∧ True)) (by kernel_rfl) ?_
  dsimp only [nilT,intQ] at *
  rw [first2 a b c d e f g h v z]
  by_cases k : qcode2 a b c d e f g h = 0
  · obtain ⟨k1,k2⟩ := qcode2_zero.1 k
    obtain ⟨hn,oa,ob,oc,od⟩ := qcode_ok k1
    obtain ⟨hm,oe,of,og,oh⟩ := qcode_ok k2
    have ee : chordT a b c d e f g h = (rawQ (chordQ a b c d e f g h),0,()) := if_pos k
    obtain ⟨pae0,pae1⟩ := okc_mul oa oe
    obtain ⟨pbf0,pbf1⟩ := okc_mul ob of
    obtain ⟨pcg0,pcg1⟩ := okc_mul oc og
    obtain ⟨pdh0,pdh1⟩ := okc_mul od oh
    obtain ⟨q0,q1⟩ := qdot_bound oa ob oc od oe of og oh
    have eS : IntKind.wrap IntKind.i64 (IntKind.wrap IntKind.i64 (IntKind.wrap IntKind.i64 (IntKind.wrap IntKind.i64 (a * e) + IntKind.wrap IntKind.i64 (b * f)) + IntKind.wrap IntKind.i64 (c * g)) + IntKind.wrap IntKind.i64 (d * h)) = qdot a b c d e f g h := by
      unfold qdot at *
      simp (disch := omega) only [wrap_id]
    rw [eS,ee]
    obtain ⟨hk10,hk11⟩ := normI_bound oa ob oc od
    obtain ⟨hk20,hk21⟩ := normI_bound oe of og oh
    have hu1 := isz_13 hk10 hk11
    have hu2 := isz_13 hk20 hk21
    have hu3 := isz_13 q0 q1
    have hu4 := isz_mul (normI a b c d) (normI e f g h)
    have hu5 := isz_mul (qdot a b c d e f g h) (qdot a b c d e f g h)
    have hNN := Int.mul_pos (normI_pos hn) (normI_pos hm)
    have hN0 : normI a b c d * normI e f g h ≠ 0 := by omega
    have hu6 := rsz_divInt (qdot a b c d e f g h * qdot a b c d e f g h) (normI a b c d * normI e f g h) hN0 (k := 4) (by omega) (by omega)
    have hu7 : rsz ((1 : Int) : Rat) ≤ 1 := by decide +kernel
    have w1 : wordP 1 := by unfold wordP;omega
    have wS : wordP (qdot a b c d e f g h) := by unfold wordP;omega
    have wn : wordP (normI a b c d) := by unfold wordP;omega
    have wm : wordP (normI e f g h) := by unfold wordP;omega
    have eN : newT 14 (qdot a b c d e f g h * qdot a b c d e f g h) (normI a b c d * normI e f g h) = (rawQ (Rat.divInt (qdot a b c d e f g h * qdot a b c d e f g h) (normI a b c d * normI e f g h)),0,()) := if_neg hN0
    rw [eN,k]
    exact ⟨⟨by show 2 ≤ 1000000000;omega,trivial⟩,⟨wS,trivial⟩,⟨⟨by omega,by omega⟩,⟨oa,ob,oc,od⟩,wn,⟨oe,of,og,oh⟩,wm,⟨by omega,by omega⟩,⟨by omega,by omega⟩,trivial⟩,⟨w1,rfl,⟨by omega,by show rsz (Rat.divInt _ _) ≤ _;omega⟩,trivial⟩,trivial,rfl,trivial,rfl,trivial⟩
  · have ee : chordT a b c d e f g h = (rawZ,qcode2 a b c d e f g h,()) := if_neg k
    have kb : (qcode2 a b c d e f g h != 0) = true := by simpa using k
    rw [ee,kb]
    exact ⟨⟨by show 2 ≤ 1000000000;omega,trivial⟩,trivial,rfl,trivial,rfl,trivial⟩
noncomputable def LE2 : Lib := LE1.add 19 cChord chord_ctr
end Go.Proofs.YtidfgdchcpmnfaaGreat
