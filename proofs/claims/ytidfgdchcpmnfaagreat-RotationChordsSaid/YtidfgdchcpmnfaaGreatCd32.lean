/-
  Lemmas for the theorem vchords_holds, part 32 of 33.
-/
import Derived.Lib.SmallJoins
import Derived.OpenShut
import Derived.ProofKit
import Derived.Test.YtidfgdchcpmnfaaGreatRows
import Derived.WalkKit
import Derived.Test.YtidfgdchcpmnfaaGreatCd21
import Derived.Test.YtidfgdchcpmnfaaGreatCd31
namespace Go.Proofs.YtidfgdchcpmnfaaGreat
open Go Go.RowKit
set_option maxRecDepth 100000
set_option maxHeartbeats 1000000
set_option linter.unusedVariables false
set_option linter.unusedSimpArgs false
abbrev RL : Type := List RawQ
abbrev RM : Type := List (List RawQ)
theorem take4 {α : Type} {ds : List α} {k : Nat} {a b c d : α} (h : (ds.drop k).take 4 = [a,b,c,d]) : ds[k]? = some a ∧ ds[k + 1]? = some b ∧ ds[k + 2]? = some c ∧ ds[k + 3]? = some d := by
  have g : ∀ j,j < 4 → ds[k + j]? = ([a,b,c,d] : List α)[j]? := fun j hj => by
    rw [← h,List.getElem?_take,if_pos hj,List.getElem?_drop]
  exact ⟨g 0 (by omega),g 1 (by omega),g 2 (by omega),g 3 (by omega)⟩
theorem row_R {F : Nat → Prop} {w : World} {v : Value} {xs : RL} {K : Nat} (h : vrep F w (.list tR) v xs) (hF : ∀ q,F q → q < w.heap.size) (hK : ∀ q ∈ xs,q.n ≤ K ∧ q.m ≤ K) : RowR w v xs.length K (fun i => (xs.getD i rawZ).ok) (fun i => (xs.getD i rawZ).x) := by
  obtain ⟨cs,rfl,p,c,rfl,h1,h2,h3⟩ := h
  refine ⟨p,c,rfl,h1,h2,fun hn => ?_⟩
  rcases h3 with h3 | ⟨b,o,ds,rfl,hb,hr,hc⟩
  · rw [h3] at hn;exact absurd hn (Nat.lt_irrefl 0)
  refine ⟨b,o,rfl,hF b hb,fun i hi => ?_⟩
  obtain ⟨b1,p1,c1,b2,p2,c2,e,hq⟩ := chunk_ty hc hi
  obtain ⟨g0,g1,g2,g3⟩ := take4 e
  have h4 : Ty.n tR = 4 := rfl
  have e : (ds.drop (i * Ty.n tR)).take (Ty.n tR) = [.bool b1,.slice p1 (List.getD xs i rawZ).n c1,.bool b2,.slice p2 (List.getD xs i rawZ).m c2] := e
  refine ⟨.bool b1,.slice p1 (List.getD xs i rawZ).n c1,.bool b2,.slice p2 (List.getD xs i rawZ).m c2,hr _ _ g0,?_,?_,?_,b1,p1,(List.getD xs i rawZ).n,c1,b2,p2,(List.getD xs i rawZ).m,c2,rfl,rfl,rfl,rfl,?_,?_,?_⟩
  · have := hr _ _ g1;rw [h4,← Nat.add_assoc] at this;exact this
  · have := hr _ _ g2;rw [h4,← Nat.add_assoc] at this;exact this
  · have := hr _ _ g3;rw [h4,← Nat.add_assoc] at this;exact this
  · have hq : QRaw w (.agg ((ds.drop (i * Ty.n tR)).take (Ty.n tR)).toArray) _ _ := hq
    rw [e] at hq
    exact hq
  · exact (getD_all (p := fun q : RawQ => q.n ≤ K ∧ q.m ≤ K) hK hi (d := rawZ)).1
  · exact (getD_all (p := fun q : RawQ => q.n ≤ K ∧ q.m ≤ K) hK hi (d := rawZ)).2
theorem mat_R {F : Nat → Prop} {w : World} {v : Value} {m : RM} {K : Nat} (h : vrep F w tMR v m) (hF : ∀ q,F q → q < w.heap.size) (hK : ∀ r ∈ m,∀ q ∈ r,q.n ≤ K ∧ q.m ≤ K) : MatR w v m.length (fun i => (m.getD i []).length) K (fun i j => ((m.getD i []).getD j rawZ).ok) (fun i j => ((m.getD i []).getD j rawZ).x) := by
  obtain ⟨cs,rfl,p,c,rfl,h1,h2,h3⟩ := h
  refine ⟨p,c,rfl,h1,h2,fun hn => ?_⟩
  rcases h3 with h3 | ⟨b,o,ds,rfl,hb,hr,hc⟩
  · rw [h3] at hn;exact absurd hn (Nat.lt_irrefl 0)
  refine ⟨b,o,rfl,hF b hb,fun i hi => ?_⟩
  have e := chunk_ty hc hi
  have hrow : vrep F w (.list tR) ((Ty.list tR).toV ((ds.drop (i * Ty.n (.list tR))).take (Ty.n (.list tR)))) (m.getD i []) := ⟨_,rfl,e⟩
  obtain ⟨p1,c1,e1,_⟩ := e
  refine ⟨_,?_,row_R hrow hF (getD_all (p := fun r : RL => ∀ q ∈ r,q.n ≤ K ∧ q.m ≤ K) hK hi)⟩
  rw [e1]
  have g : ds[i * 1]? = some (.slice p1 (m.getD i []).length c1) := by
    have h9 := congrArg (fun l : List Value => l[0]?) e1
    simp only [List.getElem?_take,List.getElem?_drop] at h9
    rw [if_pos (show 0 < Ty.n (.list tR) from Nat.one_pos)] at h9
    exact h9
  have := hr _ _ g
  rwa [Nat.mul_one] at this
def lens (K : Nat) (m : RM) : Prop := ∀ r ∈ m,∀ q ∈ r,q.n ≤ K ∧ q.m ≤ K ∧ rsz q.x ≤ K
def rcode (m : RM) : Int := mcode m.length (fun i => (m.getD i []).length) (fun i j => ((m.getD i []).getD j rawZ).ok)
def cMC : Ctr := ⟨[tMR],[tI],fun x => lens 700000 x.1,fun x => (rcode x.1,())⟩
theorem mcheck_ctr : CtrOk Tryz.prog 48 cMC := by
  intro F w vs x hF hvs hp
  obtain ⟨v,vs',rfl,h1,h3⟩ := hvs
  have h3 : vs' = [] := h3
  subst h3
  refine (mcheck_any v _ 700000 _ _ _ w (mat_R h1 hF (fun r hr q hq => ⟨(hp r hr q hq).1,(hp r hr q hq).2.1⟩)) (by omega)).mono ?_
  rintro e w' ⟨rfl,hb⟩
  exact ⟨_,rfl,v_int _,hb⟩
def sq3 (m : RM) : Prop := m.length = 3 ∧ ∀ r ∈ m,r.length = 3
def eR (m : RM) (i j : Nat) : Rat := ((m.getD i []).getD j rawZ).x
def okM (m : RM) : Prop := ∀ r ∈ m,∀ q ∈ r,q.ok = true
def cTu : Ctr := ⟨[tMR],[tB],fun x => lens 700000 x.1 ∧ sq3 x.1 ∧ okM x.1,fun x => (turnB (eR x.1),())⟩
theorem len3R {m : RM} (h : sq3 m) {i : Nat} (hi : i < 3) : (m.getD i []).length = 3 := getD_all (p := fun r : RL => r.length = 3) h.2 (by rw [h.1];exact hi)
theorem okMR {m : RM} (h : sq3 m) (ho : okM m) {i j : Nat} (hi : i < 3) (hj : j < 3) : ((m.getD i []).getD j rawZ).ok = true :=
  getD_all (p := fun q : RawQ => q.ok = true) (getD_all (p := fun r : RL => ∀ q ∈ r,q.ok = true) ho (by rw [h.1];exact hi)) (by rw [len3R h hi];exact hj)
theorem turning_ctr : CtrOk Tryz.prog 49 cTu := by
  intro F w vs x hF hvs hp
  obtain ⟨v,vs',rfl,h1,h3⟩ := hvs
  have h3 : vs' = [] := h3
  subst h3
  obtain ⟨h4,h5,h6⟩ := hp
  have hm := mat_R h1 hF (fun r hr q hq => ⟨(h4 r hr q hq).1,(h4 r hr q hq).2.1⟩)
  rw [h5.1] at hm
  refine (turning_any v 700000 _ w (MatR.congr hm (fun i hi => len3R h5 hi) (fun i hi j hj => okMR h5 h6 hi (by rw [← len3R h5 hi];exact hj)) (fun i hi j hj => rfl)) (by omega) (by omega)).mono ?_
  rintro e w' ⟨rfl,hb⟩
  exact ⟨_,rfl,v_bool _,hb⟩
noncomputable def LG0 : Lib := (LE2.add 48 cMC mcheck_ctr).add 49 cTu turning_ctr
abbrev at3 (i : Int) : Prop := 0 ≤ i ∧ i < 3
def m3 (m : RM) : Prop := lens 700000 m ∧ sq3 m ∧ okM m
theorem m3_at {m : RM} (h : m3 m) {i j : Nat} (hi : i < 3) (hj : j < 3) : ((m.getD i []).getD j rawZ).ok = true ∧ rsz (eR m i j) ≤ 700000 :=
  ⟨okMR h.2.1 h.2.2 hi hj,(getD_all (p := fun q : RawQ => q.n ≤ 700000 ∧ q.m ≤ 700000 ∧ rsz q.x ≤ 700000) (getD_all (p := fun r : RL => ∀ q ∈ r,q.n ≤ 700000 ∧ q.m ≤ 700000 ∧ rsz q.x ≤ 700000) h.1 (by rw [h.2.1.1];exact hi)) (by rw [len3R h.2.1 hi];exact hj)).2.2⟩
def cPl (g : Rat → Rat → Rat) : Ctr := ⟨[tI,tI,.ref tMR],[tQ],fun x => at3 x.1 ∧ at3 x.2.1 ∧ m3 x.2.2.1,fun x => (g (eR x.2.2.1 (Int.toNat x.1) (Int.toNat x.2.1)) (eR x.2.2.1 (Int.toNat x.2.1) (Int.toNat x.1)),())⟩
theorem plus_ctr : CtrOk Tryz.prog 54 (cPl (· + ·)) := by
  refine ctr_fn LG0 [5] Tryz.func54 rfl (by decide) (fun x => []) (fun x hp => ?_)
  obtain ⟨i,j,m,u⟩ := x
  change Int at i;change Int at j;change RM at m
  refine vc_of ((0 ≤ i ∧ i < natI (List.length m) ∧ 0 ≤ j ∧ j < natI (List.length (List.getD m (Int.toNat i) (nilT RawQ))) ∧ 0 ≤ j ∧ j < natI (List.length m) ∧ 0 ≤ i ∧ i < natI (List.length (List.getD m (Int.toNat j) (nilT RawQ))) ∧ RawQ.ok (List.getD (List.getD m (Int.toNat i) (nilT RawQ)) (Int.toNat j) { ok := false,x := 0,n := 0,m := 0 }) = true ∧ RawQ.ok (List.getD (List.getD m (Int.toNat j) (nilT RawQ)) (Int.toNat i) { ok := false,x := 0,n := 0,m := 0 }) = true ∧ s44 (RawQ.x (List.getD (List.getD m (Int.toNat i) (nilT RawQ)) (Int.toNat j) { ok := false,x := 0,n := 0,m := 0 })) (RawQ.x (List.getD (List.getD m (Int.toNat j) (nilT RawQ)) (Int.toNat i) { ok := false,x := 0,n := 0,m := 0 })) ∧ True) ∧ True ∧ RawQ.x (List.getD (List.getD m (Int.toNat i) (nilT RawQ)) (Int.toNat j) { ok := false,x := 0,n := 0,m := 0 }) + RawQ.x (List.getD (List.getD m (Int.toNat j) (nilT RawQ)) (Int.toNat i) { ok := false,x := 0,n := 0,m := 0 }) = eR m (Int.toNat i) (Int.toNat j) + eR m (Int.toNat j) (Int.toNat i) ∧ True) (by kernel_rfl) ?_
  obtain ⟨h1,h2,h3⟩ := hp
  have hZ : (⟨false,0,0,0⟩ : RawQ) = rawZ := rfl
  dsimp only [natI,nilT,at3,sval,asT,intQ] at *
  simp only [hZ]
  obtain ⟨i,rfl⟩ : ∃ n : Nat,i = n := ⟨i.toNat,by omega⟩
  obtain ⟨j,rfl⟩ : ∃ n : Nat,j = n := ⟨j.toNat,by omega⟩
  simp only [Int.toNat_natCast]
  have hi : i < 3 := by omega
  have hj : j < 3 := by omega
  obtain ⟨o1,b1⟩ := m3_at h3 hi hj
  obtain ⟨o2,b2⟩ := m3_at h3 hj hi
  rw [h3.2.1.1,len3R h3.2.1 hi,len3R h3.2.1 hj]
  exact ⟨⟨by omega,by omega,by omega,by omega,by omega,by omega,by omega,by omega,o1,o2,⟨by unfold eR at b1;omega,by unfold eR at b2;omega⟩,trivial⟩,trivial,rfl,trivial⟩
theorem minus_ctr : CtrOk Tryz.prog 55 (cPl (· - ·)) := by
  refine ctr_fn LG0 [5] Tryz.func55 rfl (by decide) (fun x => []) (fun x hp => ?_)
  obtain ⟨i,j,m,u⟩ := x
  change Int at i;change Int at j;change RM at m
  refine vc_of ((0 ≤ i ∧ i < natI (List.length m) ∧ 0 ≤ j ∧ j < natI (List.length (List.getD m (Int.toNat i) (nilT RawQ))) ∧ 0 ≤ j ∧ j < natI (List.length m) ∧ 0 ≤ i ∧ i < natI (List.length (List.getD m (Int.toNat j) (nilT RawQ))) ∧ RawQ.ok (List.getD (List.getD m (Int.toNat i) (nilT RawQ)) (Int.toNat j) { ok := false,x := 0,n := 0,m := 0 }) = true ∧ RawQ.ok (List.getD (List.getD m (Int.toNat j) (nilT RawQ)) (Int.toNat i) { ok := false,x := 0,n := 0,m := 0 }) = true ∧ s44 (RawQ.x (List.getD (List.getD m (Int.toNat i) (nilT RawQ)) (Int.toNat j) { ok := false,x := 0,n := 0,m := 0 })) (RawQ.x (List.getD (List.getD m (Int.toNat j) (nilT RawQ)) (Int.toNat i) { ok := false,x := 0,n := 0,m := 0 })) ∧ True) ∧ True ∧ RawQ.x (List.getD (List.getD m (Int.toNat i) (nilT RawQ)) (Int.toNat j) { ok := false,x := 0,n := 0,m := 0 }) - RawQ.x (List.getD (List.getD m (Int.toNat j) (nilT RawQ)) (Int.toNat i) { ok := false,x := 0,n := 0,m := 0 }) = eR m (Int.toNat i) (Int.toNat j) - eR m (Int.toNat j) (Int.toNat i) ∧ True) (by kernel_rfl) ?_
  obtain ⟨h1,h2,h3⟩ := hp
  have hZ : (⟨false,0,0,0⟩ : RawQ) = rawZ := rfl
  dsimp only [natI,nilT,at3,sval,asT,intQ] at *
  simp only [hZ]
  obtain ⟨i,rfl⟩ : ∃ n : Nat,i = n := ⟨i.toNat,by omega⟩
  obtain ⟨j,rfl⟩ : ∃ n : Nat,j = n := ⟨j.toNat,by omega⟩
  simp only [Int.toNat_natCast]
  have hi : i < 3 := by omega
  have hj : j < 3 := by omega
  obtain ⟨o1,b1⟩ := m3_at h3 hi hj
  obtain ⟨o2,b2⟩ := m3_at h3 hj hi
  rw [h3.2.1.1,len3R h3.2.1 hi,len3R h3.2.1 hj]
  exact ⟨⟨by omega,by omega,by omega,by omega,by omega,by omega,by omega,by omega,o1,o2,⟨by unfold eR at b1;omega,by unfold eR at b2;omega⟩,trivial⟩,trivial,rfl,trivial⟩
def cSu : Ctr := ⟨[.arr 3 tI,.ref tMR],[tQ],fun x => (show List Int from x.1).length = 3 ∧ (∀ k,k < 3 → (xsL x.1 k = 1 ∨ xsL x.1 k = -1)) ∧ m3 x.2.1,fun x => (omSum (xsL x.1) (eR x.2.1) 3,())⟩
theorem sum_ctr : CtrOk Tryz.prog 50 cSu := by
  refine ctr_fn LG0 [3,4] Tryz.func50 rfl (by decide) (fun x => [.inv Le3 (fun k => [(9,.val tI (k.1 : Int))]) (fun k => [(3,.box [⟨tR,rawZ⟩]),(4,.box [⟨tQ,omSum (xsL x.1) (eR x.2.1) k.1⟩])]) (fun k => 3 - k.1) ⟨0,by omega⟩ (fun _ => [])]) (fun x hp => ?_)
  obtain ⟨s,m,u⟩ := x
  change List Int at s;change RM at m
  refine vc_of ((wordP 1 ∧ True) ∧ (asT Int 0 = natI 0 ∧ asT RawQ { ok := false,x := 0,n := 0,m := 0 } = rawZ ∧ intQ 1 = omSum (xsL s) (eR m) 0 ∧ True) ∧ ∀ (i : Le3),asT Bool true = true ∧ ifB (decide (natI (sval i) < 3)) ((0 ≤ natI (sval i) ∧ natI (sval i) < natI 3 ∧ True) ∧ (wordP (List.getD s (Int.toNat (natI (sval i))) 0) ∧ 0 ≤ natI (sval i) ∧ natI (sval i) < natI (List.length m) ∧ 0 ≤ natI (sval i) ∧ natI (sval i) < natI (List.length (List.getD m (Int.toNat (natI (sval i))) (nilT RawQ))) ∧ RawQ.ok (List.getD (List.getD m (Int.toNat (natI (sval i))) (nilT RawQ)) (Int.toNat (natI (sval i))) { ok := false,x := 0,n := 0,m := 0 }) = true ∧ s44 (intQ (List.getD s (Int.toNat (natI (sval i))) 0)) (RawQ.x (List.getD (List.getD m (Int.toNat (natI (sval i))) (nilT RawQ)) (Int.toNat (natI (sval i))) { ok := false,x := 0,n := 0,m := 0 })) ∧ s44 (omSum (xsL s) (eR m) (sval i)) (intQ (List.getD s (Int.toNat (natI (sval i))) 0) * RawQ.x (List.getD (List.getD m (Int.toNat (natI (sval i))) (nilT RawQ)) (Int.toNat (natI (sval i))) { ok := false,x := 0,n := 0,m := 0 })) ∧ True) ∧ ∃ (i' : Le3),3 - sval i' < 3 - sval i ∧ IntKind.wrap IntKind.i64 (natI (sval i) + 1) = natI (sval i') ∧ asT RawQ rawZ = rawZ ∧ omSum (xsL s) (eR m) (sval i) + intQ (List.getD s (Int.toNat (natI (sval i))) 0) * RawQ.x (List.getD (List.getD m (Int.toNat (natI (sval i))) (nilT RawQ)) (Int.toNat (natI (sval i))) { ok := false,x := 0,n := 0,m := 0 }) = omSum (xsL s) (eR m) (sval i') ∧ True) (True ∧ omSum (xsL s) (eR m) (sval i) = omSum (xsL s) (eR m) 3 ∧ True)) (by kernel_rfl) ?_
  obtain ⟨hl,hs,h3⟩ := hp
  have hZ : (⟨false,0,0,0⟩ : RawQ) = rawZ := rfl
  dsimp only [natI,nilT,sval,asT,intQ] at *
  have hx : ∀ j,s.getD j 0 = xsL s j := fun _ => rfl
  simp only [hZ,hx,Int.toNat_natCast,ifB_iff,true_and,and_true,decide_eq_true_eq,decide_eq_false_iff_not]
  generalize xsL s = X at *
  have r1 : ∀ k,k < 3 → rsz ((X k : Int) : Rat) ≤ 1 := fun k hk => by
    rcases hs k hk with e | e <;> rw [e] <;> decide +kernel
  have r2 : ∀ k,k < 3 → rsz (eR m k k) ≤ 700000 := fun k hk => (m3_at h3 hk hk).2
  have r3 := omSum_rsz r1 r2
  refine ⟨by unfold wordP;omega,⟨rfl,rfl⟩,fun i => ⟨fun h1 => ?_,fun h1 => ?_⟩⟩
  · have hi : i.1 < 3 := by omega
    obtain ⟨o1,b1⟩ := m3_at h3 hi hi
    have b2 := r1 i.1 hi
    have b3 := r3 i.1 (by omega)
    have b4 := rsz_mul ((X i.1 : Int) : Rat) (eR m i.1 i.1)
    have b5 : i.1 * (700000 + 2) + 1 ≤ 3000000 := by omega
    rw [h3.2.1.1,len3R h3.2.1 hi]
    unfold eR at b1 b4
    refine ⟨⟨by omega,by omega⟩,⟨?_,by omega,by omega,by omega,by omega,o1,⟨by omega,by omega⟩,⟨by omega,by omega⟩⟩,⟨i.1 + 1,by omega⟩,by simp only;omega,?_,rfl⟩
    · rcases hs i.1 hi with e | e <;> rw [e] <;> unfold wordP <;> omega
    · rw [wrap_id (by omega) (by omega)];rfl
  · have hi := i.2
    have hi : i.1 = 3 := by omega
    rw [hi]
noncomputable def LG1 : Lib := ((LG0.add 54 (cPl (· + ·)) plus_ctr).add 55 (cPl (· - ·)) minus_ctr).add 50 cSu sum_ctr
theorem eta4 (x : QC4) : (x.1.1,x.1.2.1,x.1.2.2.1,x.1.2.2.2.1,()) = x.1 := rfl
theorem rcode_at {m : RM} (h : rcode m = 0) : ∀ i,i < m.length → (m.getD i []).length = (m.getD 0 []).length ∧ ∀ j,j < (m.getD i []).length → ((m.getD i []).getD j rawZ).ok = true := fun i hi => by
  unfold rcode mcode at h
  split at h
  · rename_i h9
    have := allB_iff.1 h9.2.2.2.2 i hi
    unfold rowOk at this
    rw [Bool.and_eq_true,decide_eq_true_eq] at this
    exact ⟨this.1,fun j hj => allB_iff.1 this.2 j hj⟩
  · omega
theorem all_getD {α : Type} {p : α → Prop} {xs : List α} (d : α) (h : ∀ i,i < xs.length → p (xs.getD i d)) : ∀ x ∈ xs,p x := fun x hx => by
  obtain ⟨i,hi,rfl⟩ := List.getElem_of_mem hx
  have := h i hi
  rwa [List.getD_eq_getElem?_getD,List.getElem?_eq_getElem hi,Option.getD_some] at this
theorem rcode_sq {m : RM} (h : rcode m = 0) (h2 : m.length = 3) (h3 : (m.getD 0 []).length = 3) : sq3 m := ⟨h2,all_getD [] (fun i hi => ((rcode_at h i hi).1.trans h3))⟩
theorem rcode_ok {m : RM} (h : rcode m = 0) : okM m := all_getD [] (fun i hi => all_getD rawZ (rcode_at h i hi).2)
theorem nzB_congr {q r : Nat → Rat} (h : ∀ j,j < 4 → q j = r j) : nzB q = nzB r := by
  unfold nzB allB
  rw [show List.range 4 = [0,1,2,3] from rfl]
  simp only [List.all_cons,List.all_nil,h 0 (by omega),h 1 (by omega),h 2 (by omega),h 3 (by omega)]
theorem nzB_ex {q : Nat → Rat} (h : nzB q = true) : ∃ j,j < 4 ∧ q j ≠ 0 := by
  refine Classical.byContradiction fun hn => ?_
  have : allB 4 (fun i => decide (q i = 0)) = true := allB_iff.2 (fun i hi => by
    rw [decide_eq_true_eq]
    exact Classical.byContradiction fun h9 => hn ⟨i,hi,h9⟩)
  unfold nzB at h
  rw [this] at h;cases h
theorem clearXs_congr {q r : Nat → Rat} (h : ∀ j,j < 4 → q j = r j) {j : Nat} (hj : j < 4) : clearXs q j = clearXs r j := by
  have hd : clearD q = clearD r := by unfold clearD;simp only [h 0 (by omega),h 1 (by omega),h 2 (by omega),h 3 (by omega)]
  unfold clearXs
  rw [h j hj,hd]
def omT (m : RM) : QC4 := if rcode m = 0 ∧ m.length = 3 ∧ (m.getD 0 []).length = 3 then (if turnB (eR m) = true then (if nzB (omRow (eR m) 0) = true then primT (clearXs (omRow (eR m) 0)) else if nzB (omRow (eR m) 1) = true then primT (clearXs (omRow (eR m) 1)) else if nzB (omRow (eR m) 2) = true then primT (clearXs (omRow (eR m) 2)) else if nzB (omRow (eR m) 3) = true then primT (clearXs (omRow (eR m) 3)) else ((0,0,0,0,()),15,())) else ((0,0,0,0,()),15,())) else ((0,0,0,0,()),1,())
def cOm : Ctr := ⟨[tMR],[tQuat,tI],fun x => lens 700000 x.1 ∧ (show RM from x.1).length ≤ 1000000000,fun x => omT x.1⟩
theorem ofMatrix_ctr : CtrOk Tryz.prog 14 cOm := by
  refine ctr_fn LG1 [2,8] Tryz.func14 rfl (by decide) (fun x => [.turns 5 [74] [2] []]) (fun x hp => ?_)
  obtain ⟨m,u⟩ := x
  change RM at m
  refine vc_of (let x0z := ((eR m 2 1 - eR m 1 2) :: omSum (xsL (1 :: -1 :: -1 :: nilT Int)) (eR m) 3 :: (eR m 0 1 + eR m 1 0) :: (eR m 0 2 + eR m 2 0) :: nilT Rat);let x1z := ((eR m 0 2 - eR m 2 0) :: (eR m 0 1 + eR m 1 0) :: omSum (xsL (-1 :: 1 :: -1 :: nilT Int)) (eR m) 3 :: (eR m 1 2 + eR m 2 1) :: nilT Rat);let x2z := ((eR m 1 0 - eR m 0 1) :: (eR m 0 2 + eR m 2 0) :: (eR m 1 2 + eR m 2 1) :: omSum (xsL (-1 :: -1 :: 1 :: nilT Int)) (eR m) 3 :: nilT Rat);let x3z := (omSum (xsL (1 :: 1 :: 1 :: nilT Int)) (eR m) 3 :: (eR m 2 1 - eR m 1 2) :: (eR m 0 2 - eR m 2 0) :: (eR m 1 0 - eR m 0 1) :: nilT Rat);let x4z := ((bif natI (List.length m) != 3 then true else rcode m != 0) == false);((((natI (List.length m) != 3) == false) = true → ((natI (List.length m) != 3) == false) = true ∧ lens 700000 m ∧ True) ∧ (((natI (List.length m) != 3) == false) = true → ((natI (List.length m) != 3) == false) = true ∧ True) ∧ ((natI (List.length m) != 3) = false → ((natI (List.length m) != 3) == false) = true) ∧ (x4z = true → x4z = true ∧ asT Int 0 ≤ 0 ∧ 0 < natI (List.length m) ∧ True) ∧ (x4z = true → x4z = true ∧ True) ∧ (x4z = true → x4z = true ∧ True) ∧ (x4z = true → x4z = true ∧ True) ∧ ((bif natI (List.length m) != 3 then true else rcode m != 0) = false → x4z = true) ∧ True) ∧ ifB (bif bif natI (List.length m) != 3 then true else rcode m != 0 then true else natI (List.length (List.getD m 0 (nilT RawQ))) != 3) (True ∧ (0,0,0,0,()) = Prod.fst (omT m) ∧ True ∧ 1 = Prod.fst (Prod.snd (omT m)) ∧ True) (((lens 700000 m ∧ sq3 m ∧ okM m) ∧ True) ∧ ifB (!turnB (eR m)) (True ∧ (0,0,0,0,()) = Prod.fst (omT m) ∧ True ∧ 15 = Prod.fst (Prod.snd (omT m)) ∧ True) (((List.length (1 :: 1 :: 1 :: nilT Int) = 3 ∧ (∀ (k : Nat),k < 3 → xsL (1 :: 1 :: 1 :: nilT Int) k = 1 ∨ xsL (1 :: 1 :: 1 :: nilT Int) k = -1) ∧ m3 m) ∧ (at3 2 ∧ at3 1 ∧ m3 m) ∧ (at3 0 ∧ at3 2 ∧ m3 m) ∧ (at3 1 ∧ at3 0 ∧ m3 m) ∧ (at3 2 ∧ at3 1 ∧ m3 m) ∧ (List.length (1 :: -1 :: -1 :: nilT Int) = 3 ∧ (∀ (k : Nat),k < 3 → xsL (1 :: -1 :: -1 :: nilT Int) k = 1 ∨ xsL (1 :: -1 :: -1 :: nilT Int) k = -1) ∧ m3 m) ∧ (at3 0 ∧ at3 1 ∧ m3 m) ∧ (at3 0 ∧ at3 2 ∧ m3 m) ∧ (at3 0 ∧ at3 2 ∧ m3 m) ∧ (at3 0 ∧ at3 1 ∧ m3 m) ∧ (List.length (-1 :: 1 :: -1 :: nilT Int) = 3 ∧ (∀ (k : Nat),k < 3 → xsL (-1 :: 1 :: -1 :: nilT Int) k = 1 ∨ xsL (-1 :: 1 :: -1 :: nilT Int) k = -1) ∧ m3 m) ∧ (at3 1 ∧ at3 2 ∧ m3 m) ∧ (at3 1 ∧ at3 0 ∧ m3 m) ∧ (at3 0 ∧ at3 2 ∧ m3 m) ∧ (at3 1 ∧ at3 2 ∧ m3 m) ∧ (List.length (-1 :: -1 :: 1 :: nilT Int) = 3 ∧ (∀ (k : Nat),k < 3 → xsL (-1 :: -1 :: 1 :: nilT Int) k = 1 ∨ xsL (-1 :: -1 :: 1 :: nilT Int) k = -1) ∧ m3 m) ∧ True) ∧ (asT Int 0 ≤ 0 ∧ 0 < natI (List.length (x3z :: x0z :: x1z :: x2z :: nilT (List Rat))) ∧ True) ∧ ((List.length x3z = 4 ∧ ∀ (j : Nat),j < 4 → rsz (qL x3z j) ≤ 400000000) ∧ True) ∧ ifB (nzB (qL x3z)) (((List.length x3z = 4 ∧ (∀ (j : Nat),j < 4 → rsz (qL x3z j) ≤ 50000000) ∧ ∃ (j : Nat),j < 4 ∧ qL x3z j ≠ 0) ∧ True) ∧ True ∧ (Prod.fst (Prod.fst (primT (clearXs (qL x3z)))),Prod.fst (Prod.snd (Prod.fst (primT (clearXs (qL x3z))))),Prod.fst (Prod.snd (Prod.snd (Prod.fst (primT (clearXs (qL x3z)))))),Prod.fst (Prod.snd (Prod.snd (Prod.snd (Prod.fst (primT (clearXs (qL x3z))))))),()) = Prod.fst (omT m) ∧ True ∧ Prod.fst (Prod.snd (primT (clearXs (qL x3z)))) = Prod.fst (Prod.snd (omT m)) ∧ True) ((asT Int 0 = 0 ∧ asT Int 0 = 0 ∧ asT Int 0 = 0 ∧ asT Int 0 = 0 ∧ True) ∧ asT Bool true = true ∧ (asT Int 0 ≤ 1 ∧ 1 < natI (List.length (x3z :: x0z :: x1z :: x2z :: nilT (List Rat))) ∧ True) ∧ ((List.length x0z = 4 ∧ ∀ (j : Nat),j < 4 → rsz (qL x0z j) ≤ 400000000) ∧ True) ∧ ifB (nzB (qL x0z)) (((List.length x0z = 4 ∧ (∀ (j : Nat),j < 4 → rsz (qL x0z j) ≤ 50000000) ∧ ∃ (j : Nat),j < 4 ∧ qL x0z j ≠ 0) ∧ True) ∧ True ∧ (Prod.fst (Prod.fst (primT (clearXs (qL x0z)))),Prod.fst (Prod.snd (Prod.fst (primT (clearXs (qL x0z))))),Prod.fst (Prod.snd (Prod.snd (Prod.fst (primT (clearXs (qL x0z)))))),Prod.fst (Prod.snd (Prod.snd (Prod.snd (Prod.fst (primT (clearXs (qL x0z))))))),()) = Prod.fst (omT m) ∧ True ∧ Prod.fst (Prod.snd (primT (clearXs (qL x0z)))) = Prod.fst (Prod.snd (omT m)) ∧ True) ((asT Int 0 = 0 ∧ asT Int 0 = 0 ∧ asT Int 0 = 0 ∧ asT Int 0 = 0 ∧ True) ∧ asT Bool true = true ∧ (asT Int 0 ≤ 2 ∧ 2 < natI (List.length (x3z :: x0z :: x1z :: x2z :: nilT (List Rat))) ∧ True) ∧ ((List.length x1z = 4 ∧ ∀ (j : Nat),j < 4 → rsz (qL x1z j) ≤ 400000000) ∧ True) ∧ ifB (nzB (qL x1z)) (((List.length x1z = 4 ∧ (∀ (j : Nat),j < 4 → rsz (qL x1z j) ≤ 50000000) ∧ ∃ (j : Nat),j < 4 ∧ qL x1z j ≠ 0) ∧ True) ∧ True ∧ (Prod.fst (Prod.fst (primT (clearXs (qL x1z)))),Prod.fst (Prod.snd (Prod.fst (primT (clearXs (qL x1z))))),Prod.fst (Prod.snd (Prod.snd (Prod.fst (primT (clearXs (qL x1z)))))),Prod.fst (Prod.snd (Prod.snd (Prod.snd (Prod.fst (primT (clearXs (qL x1z))))))),()) = Prod.fst (omT m) ∧ True ∧ Prod.fst (Prod.snd (primT (clearXs (qL x1z)))) = Prod.fst (Prod.snd (omT m)) ∧ True) ((asT Int 0 = 0 ∧ asT Int 0 = 0 ∧ asT Int 0 = 0 ∧ asT Int 0 = 0 ∧ True) ∧ asT Bool true = true ∧ (asT Int 0 ≤ 3 ∧ 3 < natI (List.length (x3z :: x0z :: x1z :: x2z :: nilT (List Rat))) ∧ True) ∧ ((List.length x2z = 4 ∧ ∀ (j : Nat),j < 4 → rsz (qL x2z j) ≤ 400000000) ∧ True) ∧ ifB (nzB (qL x2z)) (((List.length x2z = 4 ∧ (∀ (j : Nat),j < 4 → rsz (qL x2z j) ≤ 50000000) ∧ ∃ (j : Nat),j < 4 ∧ qL x2z j ≠ 0) ∧ True) ∧ True ∧ (Prod.fst (Prod.fst (primT (clearXs (qL x2z)))),Prod.fst (Prod.snd (Prod.fst (primT (clearXs (qL x2z))))),Prod.fst (Prod.snd (Prod.snd (Prod.fst (primT (clearXs (qL x2z)))))),Prod.fst (Prod.snd (Prod.snd (Prod.snd (Prod.fst (primT (clearXs (qL x2z))))))),()) = Prod.fst (omT m) ∧ True ∧ Prod.fst (Prod.snd (primT (clearXs (qL x2z)))) = Prod.fst (Prod.snd (omT m)) ∧ True) ((asT Int 0 = 0 ∧ asT Int 0 = 0 ∧ asT Int 0 = 0 ∧ asT Int 0 = 0 ∧ True) ∧ asT Bool true = true ∧ True ∧ (0,0,0,0,()) = Prod.fst (omT m) ∧ True ∧ 15 = Prod.fst (Prod.snd (omT m)) ∧ True))))))) (by kernel_rfl) ?_
  obtain ⟨hl,hlen⟩ := hp
  have hZ : (⟨false,0,0,0⟩ : RawQ) = rawZ := rfl
  dsimp only [natI,nilT,sval,asT,intQ] at *
  simp only [eta4]
  by_cases hf : rcode m = 0 ∧ m.length = 3 ∧ (m.getD 0 []).length = 3
  · obtain ⟨f1,f2,f3⟩ := hf
    have e3 : m3 m := ⟨hl,rcode_sq f1 f2 f3,rcode_ok f1⟩
    have nm : ∀ k,k < 4 → ∀ j,j < 4 → rsz (omRow (eR m) k j) ≤ 50000000 := fun k _ j hj => omRow_rsz (K := 700000) (fun i j hi hj => (m3_at e3 hi hj).2) (by omega) k j hj
    have g0 : qL [omSum (xsL [1,1,1]) (eR m) 3,eR m 2 1 - eR m 1 2,eR m 0 2 - eR m 2 0,eR m 1 0 - eR m 0 1] = qL ((List.range 4).map (omRow (eR m) 0)) := rfl
    have g1 : qL [eR m 2 1 - eR m 1 2,omSum (xsL [1,-1,-1]) (eR m) 3,eR m 0 1 + eR m 1 0,eR m 0 2 + eR m 2 0] = qL ((List.range 4).map (omRow (eR m) 1)) := rfl
    have g2 : qL [eR m 0 2 - eR m 2 0,eR m 0 1 + eR m 1 0,omSum (xsL [-1,1,-1]) (eR m) 3,eR m 1 2 + eR m 2 1] = qL ((List.range 4).map (omRow (eR m) 2)) := rfl
    have g3 : qL [eR m 1 0 - eR m 0 1,eR m 0 2 + eR m 2 0,eR m 1 2 + eR m 2 1,omSum (xsL [-1,-1,1]) (eR m) 3] = qL ((List.range 4).map (omRow (eR m) 3)) := rfl
    have hq : ∀ k j,j < 4 → qL ((List.range 4).map (omRow (eR m) k)) j = omRow (eR m) k j := fun k j hj => by
      match j,hj with
      | 0,_ => rfl
      | 1,_ => rfl
      | 2,_ => rfl
      | 3,_ => rfl
    have hc : ∀ k,primT (clearXs (qL ((List.range 4).map (omRow (eR m) k)))) = primT (clearXs (omRow (eR m) k)) := fun k => primT_congr (fun j hj => clearXs_congr (hq k) hj)
    have hz : ∀ k,nzB (qL ((List.range 4).map (omRow (eR m) k))) = nzB (omRow (eR m) k) := fun k => nzB_congr (hq k)
    rw [g0,g1,g2,g3,f1,f2,f3]
    have lr : ∀ k,k < 4 → ∀ K,50000000 ≤ K → ∀ j,j < 4 → rsz (qL ((List.range 4).map (omRow (eR m) k)) j) ≤ K := fun k hk K hK j hj => by rw [hq k j hj];exact Nat.le_trans (nm k hk j hj) hK
    have nx : ∀ k,nzB (omRow (eR m) k) = true → ∃ j,j < 4 ∧ qL ((List.range 4).map (omRow (eR m) k)) j ≠ 0 := fun k h => by
      obtain ⟨j,hj,hn⟩ := nzB_ex h
      exact ⟨j,hj,by rw [hq k j hj];exact hn⟩
    have s1 : ∀ k,k < 3 → xsL [1,1,1] k = 1 ∨ xsL [1,1,1] k = -1 := by decide
    have s2 : ∀ k,k < 3 → xsL [1,-1,-1] k = 1 ∨ xsL [1,-1,-1] k = -1 := by decide
    have s3 : ∀ k,k < 3 → xsL [-1,1,-1] k = 1 ∨ xsL [-1,1,-1] k = -1 := by decide
    have s4' : ∀ k,k < 3 → xsL [-1,-1,1] k = 1 ∨ xsL [-1,-1,1] k = -1 := by decide
    have t0 : (((3 : Nat) : Int) != 3) = false := rfl
    have t1 : ((0 : Int) != 0) = false := rfl
    have t2 : ∀ b : Bool,(b == b) = true := fun b => by cases b <;> rfl
    have ho : omT m = if turnB (eR m) = true then (if nzB (omRow (eR m) 0) = true then primT (clearXs (omRow (eR m) 0)) else if nzB (omRow (eR m) 1) = true then primT (clearXs (omRow (eR m) 1)) else if nzB (omRow (eR m) 2) = true then primT (clearXs (omRow (eR m) 2)) else if nzB (omRow (eR m) 3) = true then primT (clearXs (omRow (eR m) 3)) else ((0,0,0,0,()),15,())) else ((0,0,0,0,()),15,()) := if_pos ⟨f1,f2,f3⟩
    rw [ho]
    have q1 := e3.2.1
    have q2 := e3.2.2
    have l : ∀ k,k < 4 → (∀ j,j < 4 → rsz (qL ((List.range 4).map (omRow (eR m) k)) j) ≤ 400000000) ∧ (∀ j,j < 4 → rsz (qL ((List.range 4).map (omRow (eR m) k)) j) ≤ 50000000) := fun k hk => ⟨lr k hk _ (by omega),lr k hk _ (by omega)⟩
    obtain ⟨l0,l0'⟩ := l 0 (by omega)
    obtain ⟨l1,l1'⟩ := l 1 (by omega)
    obtain ⟨l2,l2'⟩ := l 2 (by omega)
    obtain ⟨l3,l3'⟩ := l 3 (by omega)
    have n0 := nx 0
    have n1 := nx 1
    have n2 := nx 2
    have n3 := nx 3
    simp only [hc,hz,t0,t1,t2,cond_false]
    clear g0 g1 g2 g3 ho
    cases ht : turnB (eR m)
    · simp [ifB,hl,q1,q2]
    · cases h0 : nzB (omRow (eR m) 0)
      · cases h1 : nzB (omRow (eR m) 1)
        · cases h2 : nzB (omRow (eR m) 2)
          · cases h3 : nzB (omRow (eR m) 3)
            · simp only [ifB,hl,q1,q2,e3,s1,s2,s3,s4',l0,l1,l2,l3,List.length_cons,List.length_nil,Bool.not_true,at3,Bool.false_eq_true,if_false,if_true,true_and,and_true,implies_true,imp_self]
              repeat' apply And.intro
              all_goals first | assumption | exact s1 | exact s2 | exact s3 | exact s4' | exact l0 | exact l0' | exact l1 | exact l1' | exact l2 | exact l2' | exact l3 | exact l3' | omega
            · have n3 := n3 h3
              simp only [ifB,hl,q1,q2,e3,s1,s2,s3,s4',l0,l1,l2,l3,l3',n3,List.length_cons,List.length_nil,Bool.not_true,at3,Bool.false_eq_true,if_false,if_true,true_and,and_true,implies_true,imp_self]
              repeat' apply And.intro
              all_goals first | assumption | exact s1 | exact s2 | exact s3 | exact s4' | exact l0 | exact l0' | exact l1 | exact l1' | exact l2 | exact l2' | exact l3 | exact l3' | omega
          · have n2 := n2 h2
            simp only [ifB,hl,q1,q2,e3,s1,s2,s3,s4',l0,l1,l2,l2',n2,List.length_cons,List.length_nil,Bool.not_true,at3,Bool.false_eq_true,if_false,if_true,true_and,and_true,implies_true,imp_self]
            repeat' apply And.intro
            all_goals first | assumption | exact s1 | exact s2 | exact s3 | exact s4' | exact l0 | exact l0' | exact l1 | exact l1' | exact l2 | exact l2' | exact l3 | exact l3' | omega
        · have n1 := n1 h1
          simp only [ifB,hl,q1,q2,e3,s1,s2,s3,s4',l0,l1,l1',n1,List.length_cons,List.length_nil,Bool.not_true,at3,Bool.false_eq_true,if_false,if_true,true_and,and_true,implies_true,imp_self]
          repeat' apply And.intro
          all_goals first | assumption | exact s1 | exact s2 | exact s3 | exact s4' | exact l0 | exact l0' | exact l1 | exact l1' | exact l2 | exact l2' | exact l3 | exact l3' | omega
      · have n0 := n0 h0
        simp only [ifB,hl,q1,q2,e3,s1,s2,s3,s4',l0,l0',n0,List.length_cons,List.length_nil,Bool.not_true,at3,Bool.false_eq_true,if_false,if_true,true_and,and_true,implies_true,imp_self]
        repeat' apply And.intro
        all_goals first | assumption | exact s1 | exact s2 | exact s3 | exact s4' | exact l0 | exact l0' | exact l1 | exact l1' | exact l2 | exact l2' | exact l3 | exact l3' | omega
  · have hm : omT m = ((0,0,0,0,()),1,()) := if_neg hf
    rw [hm]
    by_cases f2 : m.length = 3
    · have t0 : (((m.length : Nat) : Int) != 3) = false := by rw [f2];rfl
      rw [t0]
      by_cases f1 : rcode m = 0
      · have t1 : (rcode m != 0) = false := by rw [f1];rfl
        have f3 : ¬ (m.getD 0 []).length = 3 := fun h => hf ⟨f1,f2,h⟩
        have t3 : ((((m.getD 0 []).length : Nat) : Int) != 3) = true := bne_iff_ne.2 (fun h => f3 (by omega))
        rw [t1,t3,f2]
        simp [ifB,hl]
      · have t1 : (rcode m != 0) = true := by simpa using f1
        rw [t1]
        simp [ifB,hl]
    · have t0 : (((m.length : Nat) : Int) != 3) = true := bne_iff_ne.2 (fun h => f2 (by omega))
      rw [t0]
      simp [ifB]
end Go.Proofs.YtidfgdchcpmnfaaGreat
namespace Go.Proofs.YtidfgdchcpmnfaaGreat
open Go Go.RowKit
set_option maxRecDepth 100000
set_option maxHeartbeats 1000000
set_option linter.unusedVariables false
set_option linter.unusedSimpArgs false
def cAt (c : Ctr) (x : (nest c.args).den) (y : (nest c.res).den) : Ctr := ⟨c.args,c.res,fun z => z = x,fun _ => y⟩
theorem cAt_ok {f : FuncId} {c : Ctr} (h : CtrOk Tryz.prog f c) {x : (nest c.args).den} {y : (nest c.res).den} (hp : c.pre x) (hy : c.fn x = y) : CtrOk Tryz.prog f (cAt c x y) := by
  intro F w vs z hF hvs hz
  have hz : z = x := hz
  rw [hz] at hvs
  have h9 := h F w vs x hF hvs hp
  rw [hy] at h9
  exact h9
abbrev q4 (a b c d : Int) : Int × Int × Int × Int × Unit := (a,b,c,d,())
def knM : RM := (mRows 1 0 0 1).map fun r => r.map fun x => rawQ x
theorem kn_lens : lens 700000 knM := by
  unfold lens
  decide +kernel
theorem kn_ofm : omT knM = ((q4 (1) (0) (0) (1)),0,()) := by decide +kernel
theorem kn_mx : (if qcode 1 0 0 1 = 0 then mRows 1 0 0 1 else [],qcode 1 0 0 1,()) = (mRows 1 0 0 1,(0 : Int),()) := by
  have : qcode 1 0 0 1 = 0 := by decide +kernel
  rw [this];rfl
theorem kn_canon : canonT (-2) 0 4 0 = (q4 1 0 (-2) 0,0,()) := by decide +kernel
theorem kn_mul : mulT 1 1 0 0 1 0 1 0 = (q4 1 1 1 1,0,()) := by decide +kernel
noncomputable def LG2 : Lib := ((((LF
  ).add 18 (cAt (cHQ (fun _ _ _ _ => True) canonT) ((q4 (-2) (0) (4) (0)),()) ((q4 (1) (0) (-2) (0)),(0 : Int),())) (cAt_ok canon_ctr trivial kn_canon)
  ).add 26 (cAt (cHHQ mulT) ((q4 (1) (1) (0) (0)),(q4 (1) (0) (1) (0)),()) ((q4 (1) (1) (1) (1)),(0 : Int),())) (cAt_ok qmul_ctr trivial kn_mul)
  ).add 14 (cAt cOm (knM,()) ((q4 (1) (0) (0) (1)),(0 : Int),())) (cAt_ok ofMatrix_ctr ⟨kn_lens,by decide⟩ kn_ofm)
  ).add 16 (cAt cMx ((q4 (1) (0) (0) (1)),()) (mRows 1 0 0 1,(0 : Int),())) (cAt_ok matrix_ctr trivial kn_mx)
theorem kn_chord : chordT 1 0 0 0 1 1 0 0 = (rawQ (Rat.divInt 1 2),0,()) := by
  unfold chordT
  rw [if_pos (by decide +kernel),show chordQ 1 0 0 0 1 1 0 0 = Rat.divInt 1 2 by decide +kernel]
noncomputable def LG3 : Lib := LG2.add 19 (cAt cChord ((q4 (1) (0) (0) (0)),(q4 (1) (1) (0) (0)),()) (rawQ (Rat.divInt 1 2),(0 : Int),())) (cAt_ok chord_ctr trivial kn_chord)
theorem known_ctr : CtrOk Tryz.prog 12 (cB true) := by
  refine ctr_fn LG3 [1,3,7,9,11] Tryz.func12 rfl (by decide) (fun x => []) (fun x hp => ?_)
  refine vc_of ((asT ((Int × Int × Int × Int × PUnit) × PUnit) ((-2,0,4,0,()),()) = (q4 (-2) 0 4 0,()) ∧ True) ∧ (asT ((Int × Int × Int × Int × PUnit) × (Int × Int × Int × Int × PUnit) × PUnit) ((1,1,0,0,()),(1,0,1,0,()),()) = (q4 1 1 0 0,q4 1 0 1 0,()) ∧ True) ∧ (asT ((Int × Int × Int × Int × PUnit) × PUnit) ((1,0,0,1,()),()) = (q4 1 0 0 1,()) ∧ True) ∧ ((((True ∧ True ∧ True ∧ True) ∧ True) ∧ ((True ∧ True ∧ True ∧ True) ∧ True) ∧ ((True ∧ True ∧ True ∧ True) ∧ True) ∧ True) ∧ asT (List (List RawQ) × PUnit) (List.map (fun (xs : Ty.den (Ty.list (Ty.lf Lf.rat))) => List.map (fun (x : Ty.den (Ty.lf Lf.rat)) => rawQ x) xs) ((rotQ 1 0 0 1 0 0 :: rotQ 1 0 0 1 0 1 :: rotQ 1 0 0 1 0 2 :: nilT Rat) :: (rotQ 1 0 0 1 1 0 :: rotQ 1 0 0 1 1 1 :: rotQ 1 0 0 1 1 2 :: nilT Rat) :: (rotQ 1 0 0 1 2 0 :: rotQ 1 0 0 1 2 1 :: rotQ 1 0 0 1 2 2 :: nilT Rat) :: nilT (List Rat)),()) = (knM,()) ∧ True) ∧ (asT ((Int × Int × Int × Int × PUnit) × (Int × Int × Int × Int × PUnit) × PUnit) ((1,0,0,0,()),(1,1,0,0,()),()) = (q4 1 0 0 0,q4 1 1 0 0,()) ∧ True) ∧ ((wordP 1 ∧ wordP 2 ∧ asT Int 2 ≠ 0) ∧ True) ∧ ((asT Bool true = true → asT Bool true = true ∧ asT Bool true = true ∧ True) ∧ (asT Bool true = true → asT Bool true = true) ∧ (asT Bool true = true → asT Bool true = true ∧ asT Bool true = true ∧ True) ∧ (asT Bool true = true → asT Bool true = true) ∧ (asT Bool true = true → asT Bool true = true ∧ asT Bool true = true ∧ True) ∧ (asT Bool true = true → asT Bool true = true) ∧ (asT Bool true = true → asT Bool true = true ∧ asT Bool true = true ∧ asT Bool true = true ∧ (rsz (Rat.divInt 1 2) ≤ 190000000 ∧ rsz (Rat.divInt 1 2) ≤ 190000000) ∧ True) ∧ (asT Bool true = true → asT Bool true = true) ∧ True) ∧ True ∧ asT Bool (bif bif bif bif asT Int 0 == 0 then eqI 1 1 && (eqI 0 0 && (eqI (-2) (-2) && (eqI 0 0 && true))) else false then eqI 1 1 && (eqI 1 1 && (eqI 1 1 && (eqI 1 1 && true))) else false then eqI 1 1 && (eqI 0 0 && (eqI 0 0 && (eqI 1 1 && true))) else false then decide (asT Rat (Rat.divInt 1 2) = Rat.divInt 1 2) else false) = true ∧ True) (by kernel_rfl) ?_
  have hw : wordP 1 ∧ wordP 2 := by unfold wordP;decide
  have hr : rsz (Rat.divInt 1 2) ≤ 190000000 := by decide +kernel
  refine ⟨⟨rfl,trivial⟩,⟨rfl,trivial⟩,⟨rfl,trivial⟩,⟨⟨⟨⟨trivial,trivial,trivial,trivial⟩,trivial⟩,⟨⟨trivial,trivial,trivial,trivial⟩,trivial⟩,⟨⟨trivial,trivial,trivial,trivial⟩,trivial⟩,trivial⟩,rfl,trivial⟩,⟨rfl,trivial⟩,⟨⟨hw.1,hw.2,by decide⟩,trivial⟩,⟨fun _ => ⟨rfl,rfl,trivial⟩,fun _ => rfl,fun _ => ⟨rfl,rfl,trivial⟩,fun _ => rfl,fun _ => ⟨rfl,rfl,trivial⟩,fun _ => rfl,fun _ => ⟨rfl,rfl,rfl,⟨hr,hr⟩,trivial⟩,fun _ => rfl,trivial⟩,trivial,by decide +kernel,trivial⟩
theorem qcV_inj {x : QC4} {a b c d z : Int} (h : qcV x = .tuple #[.agg #[.int .i64 a,.int .i64 b,.int .i64 c,.int .i64 d],.int .i64 z]) : x = ((a,b,c,d,()),z,()) := by
  obtain ⟨⟨p,q,r,s,⟨⟩⟩,t,⟨⟩⟩ := x
  unfold qcV at h
  simp at h
  obtain ⟨⟨rfl,rfl,rfl,rfl⟩,rfl⟩ := h
  rfl
noncomputable def LK : Lib := LE2.add 12 (cB true) known_ctr
end Go.Proofs.YtidfgdchcpmnfaaGreat
namespace Go.Proofs.YtidfgdchcpmnfaaGreat
open Go Go.ChangeShapes Go.WideShapes Go.ChangeAt Go.RowKit Go.Joins
set_option linter.unusedVariables false
set_option maxRecDepth 100000
theorem own : ownKnob Tryz.prog.godebug = none := by kernel_rfl
theorem cellsQuat : Tryz.prog.cellsOf 33 = 4 := by kernel_rfl
section
variable {H : Type} {enc : TypeId × Value → H} {W : World} {base : Nat}
theorem open_quat {sp : Nat → Bool} {hd : Bool} {r : Reach} {b0 : Nat} {v : Value} {d : DataW H} {p : List MemPlace} (hv : Value.okWide Tryz.prog W r b0 33 v) (h : DataW.Trod enc Tryz.prog W base sp hd 33 v d p) :
    ∃ a b c e : Int,v = .agg #[.int .i64 a,.int .i64 b,.int .i64 c,.int .i64 e] ∧ d = .agg [.lit (.int .i64 a),.lit (.int .i64 b),.lit (.int .i64 c),.lit (.int .i64 e)] ∧ p = [] ∧ (Lit.int .i64 a).wf = true ∧ (Lit.int .i64 b).wf = true ∧ (Lit.int .i64 c).wf = true ∧ (Lit.int .i64 e).wf = true := by
  obtain ⟨c0,c1,c2,c3,y0,y1,y2,y3,m,rfl,rfl,rfl,hy0,hy1,hy2,hy3⟩ := open_agg4 Tryz.underlying33 (by kernel_rfl) cellsQuat hv h
  obtain ⟨a,e0,rfl,wa⟩ := DataW.trod_int Tryz.underlying3 hy0
  obtain ⟨b,e1,rfl,wb⟩ := DataW.trod_int Tryz.underlying3 hy1
  obtain ⟨c,e2,rfl,wc⟩ := DataW.trod_int Tryz.underlying3 hy2
  obtain ⟨e,e3,rfl,we⟩ := DataW.trod_int Tryz.underlying3 hy3
  simp at e0 e1 e2 e3
  subst e0 e1 e2 e3
  exact ⟨a,b,c,e,rfl,rfl,rfl,wa,wb,wc,we⟩
theorem shut_quat {sp : Nat → Bool} {hd : Bool} {a b c e : Int} (wa : (Lit.int .i64 a).wf = true) (wb : (Lit.int .i64 b).wf = true) (wc : (Lit.int .i64 c).wf = true) (we : (Lit.int .i64 e).wf = true) :
    DataW.Trod enc Tryz.prog W base sp hd 33 (.agg #[.int .i64 a,.int .i64 b,.int .i64 c,.int .i64 e]) (.agg [.lit (.int .i64 a),.lit (.int .i64 b),.lit (.int .i64 c),.lit (.int .i64 e)]) [] :=
  shut_agg4 (y0 := (.lit (.int .i64 a),[])) (y1 := (.lit (.int .i64 b),[])) (y2 := (.lit (.int .i64 c),[])) (y3 := (.lit (.int .i64 e),[])) Tryz.underlying33 (by kernel_rfl) cellsQuat ⟨1,by simp [DataW.trod,Tryz.underlying3,wa]⟩ ⟨1,by simp [DataW.trod,Tryz.underlying3,wb]⟩ ⟨1,by simp [DataW.trod,Tryz.underlying3,wc]⟩ ⟨1,by simp [DataW.trod,Tryz.underlying3,we]⟩
end
end Go.Proofs.YtidfgdchcpmnfaaGreat
namespace Go.Proofs.YtidfgdchcpmnfaaGreat
open Go Go.ChangeShapes Go.WideShapes Go.ChangeAt Go.RowKit Go.Joins
set_option linter.unusedVariables false
set_option maxRecDepth 100000 in
theorem rotationChords_frame (walk : ∀ (a0a a0b a0c a0d a1a a1b a1c a1d a2a a2b a2c a2d : Int) (wa0a : (Lit.int .i64 a0a).wf = true) (wa0b : (Lit.int .i64 a0b).wf = true) (wa0c : (Lit.int .i64 a0c).wf = true) (wa0d : (Lit.int .i64 a0d).wf = true) (wa1a : (Lit.int .i64 a1a).wf = true) (wa1b : (Lit.int .i64 a1b).wf = true) (wa1c : (Lit.int .i64 a1c).wf = true) (wa1d : (Lit.int .i64 a1d).wf = true) (wa2a : (Lit.int .i64 a2a).wf = true) (wa2b : (Lit.int .i64 a2b).wf = true) (wa2c : (Lit.int .i64 a2c).wf = true) (wa2d : (Lit.int .i64 a2d).wf = true) (w : World),Calls Tryz.prog 5 #[.agg #[.int .i64 a0a,.int .i64 a0b,.int .i64 a0c,.int .i64 a0d],.agg #[.int .i64 a1a,.int .i64 a1b,.int .i64 a1c,.int .i64 a1d],.agg #[.int .i64 a2a,.int .i64 a2b,.int .i64 a2c,.int .i64 a2d]] w fun e w' => e = .returned (.bool true) ∧ Below w.heap.size w w') : Rows.RotationChordsSaid := by
  have lifted : ∀ (os : Os) (started : os.Started) (H : Type) (enc : TypeId × Value → H),ReturnsInHanded {} Tryz.checked os 5 .any (Rows.rotationChordsSpec.pre6 enc Tryz.prog Tryz.f5 Rows.rotationChordsRow.domain false) (Rows.rotationChordsSpec.post enc Tryz.prog Tryz.f5 false true false false) := by
    intro os started H enc
    refine returnsInHanded_of_change (C := Tryz.checked) own started (by kernel_rfl) Tryz.func5
      (ChangeSpec.witness6 (enc := enc) (C := Tryz.checked) false ⟨#[],#[.agg #[.int .i64 0,.int .i64 0,.int .i64 0,.int .i64 0],.agg #[.int .i64 0,.int .i64 0,.int .i64 0,.int .i64 0],.agg #[.int .i64 0,.int .i64 0,.int .i64 0,.int .i64 0]],[]⟩ 8 (by kernel_rfl) (by kernel_rfl) (by kernel_rfl) (by kernel_rfl)) ?_
    intro W base args ds gs before hval0 hW hcnd _
    have hval : ∀ (j : Nat) t v,Tryz.f5.params[j]? = some t → args[j]? = some v → Value.okWide Tryz.prog W .any base t v := hval0
    have hW' := hW
    obtain ⟨p,q,hA0,hV,rfl,hfz,hnd⟩ := hW
    have hA : DataW.TrodAll enc Tryz.prog W 0 (fun _ => true) true Tryz.f5.params.toList args.toList ds p := hA0
    rw [Tryz.params5] at hA hval
    obtain ⟨v0,vs0,d0,ds0,p0,q0,hargs,rfl,rfl,h0,r0⟩ := trodAll_cons hA
    obtain ⟨v1,vs1,d1,ds1,p1,q1,rfl,rfl,rfl,h1,r1⟩ := trodAll_cons r0
    obtain ⟨v2,vs2,d2,ds2,p2,q2,rfl,rfl,rfl,h2,r2⟩ := trodAll_cons r1
    obtain ⟨rfl,rfl,rfl⟩ := trodAll_nil r2
    obtain rfl : args = #[v0,v1,v2] := by cases args;simp_all
    obtain ⟨rfl,rfl⟩ := trodVars_none hV
    obtain ⟨a0a,a0b,a0c,a0d,rfl,rfl,rfl,wa0a,wa0b,wa0c,wa0d⟩ := open_quat (hval 0 33 v0 rfl rfl) h0
    obtain ⟨a1a,a1b,a1c,a1d,rfl,rfl,rfl,wa1a,wa1b,wa1c,wa1d⟩ := open_quat (hval 1 33 v1 rfl rfl) h1
    obtain ⟨a2a,a2b,a2c,a2d,rfl,rfl,rfl,wa2a,wa2b,wa2c,wa2d⟩ := open_quat (hval 2 33 v2 rfl rfl) h2
    clear hA0 hval0
    simp only [List.append_nil] at hW'
    refine (walk a0a a0b a0c a0d a1a a1b a1c a1d a2a a2b a2c a2d wa0a wa0b wa0c wa0d wa1a wa1b wa1c wa1d wa2a wa2b wa2c wa2d W).mono fun e W' ⟨he,hg⟩ => ?_
    subst he
    exact ⟨_,rfl,_,_,_,[],[],[],hW',trodAll_cons_mk (shut_bool Tryz.underlying4 _) trodAll_mk0,(trodAll_cons_mk (shut_quat wa0a wa0b wa0c wa0d) (trodAll_cons_mk (shut_quat wa1a wa1b wa1c wa1d) (trodAll_cons_mk (shut_quat wa2a wa2b wa2c wa2d) trodAll_mk0))),rfl,hg.frame _,fun h => by cases h⟩
  exact OpenClaim.holds_of_wide 5 Tryz.f5 rfl rfl rfl rfl rfl rfl rfl ⟨rfl,rfl,rfl,rfl,rfl⟩ rfl rfl rfl rfl rfl (by kernel_rfl) Tryz.func5 (by kernel_rfl)
    (of_decide_eq_true (by kernel_rfl)) (by unfold Func.isWrapper;first | (rw [if_pos (by decide +kernel)];kernel_rfl) | (rw [if_neg (by decide +kernel)];exact ⟨rfl,rfl⟩))
    (fun os started H enc _ => lifted os started H enc)
end Go.Proofs.YtidfgdchcpmnfaaGreat
