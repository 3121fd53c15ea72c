/-
  Lemmas for the theorem vchords_holds, part 30 of 33.
-/
import Derived.Test.YtidfgdchcpmnfaaGreatCd08
import Derived.Test.YtidfgdchcpmnfaaGreatCd11
import Derived.Test.YtidfgdchcpmnfaaGreatCd18
import Derived.Test.YtidfgdchcpmnfaaGreatCd29
namespace Go.Proofs.YtidfgdchcpmnfaaGreat
open Go Go.RowKit
set_option maxRecDepth 100000
set_option maxHeartbeats 1000000
set_option linter.unusedVariables false
set_option linter.unusedSimpArgs false
abbrev tZ : Ty := .lf .big
theorem big_v {F : Nat → Prop} {w : World} {v : Value} {x : Int} (h : vrep F w tZ v x) : RInt w v x := by
  obtain ⟨cs,rfl,h2⟩ := h
  exact h2
theorem v_big {F : Nat → Prop} {w : World} {v : Value} {x : Int} (h : RInt w v x) : vrep F w tZ v x := by
  obtain ⟨b,p,c,rfl⟩ := big_len h
  exact ⟨_,rfl,h⟩
def cZ2 (g : Int → Int → Int) : Ctr := ⟨[tZ,tZ],[tZ],fun x => isz x.1 ≤ 1000000000 ∧ isz x.2.1 ≤ 1000000000,fun x => (g x.1 x.2.1,())⟩
theorem cZ2_ok {f : FuncId} {g : Int → Int → Int} (h : ∀ (v u : Value) (x y : Int) (w : World),Raw w v x → Raw w u y → isz x ≤ 1000000000 → isz y ≤ 1000000000 → Calls Tryz.prog f #[v,u] w (GInt (g x y) w)) : CtrOk Tryz.prog f (cZ2 g) := by
  intro F w vs x hF hvs hp
  obtain ⟨v,vs',rfl,h1,u,vs'',rfl,h2,h3⟩ := hvs
  have h3 : vs'' = [] := h3
  subst h3
  refine (h v u x.1 x.2.1 w (big_v h1).raw (big_v h2).raw hp.1 hp.2).mono ?_
  rintro e w' ⟨r,rfl,hr,hb⟩
  exact ⟨r,rfl,v_big hr,hb⟩
def cZ1 (g : Int → Int) : Ctr := ⟨[tZ],[tZ],fun x => isz x.1 ≤ 1000000000,fun x => (g x.1,())⟩
theorem cZ1_ok {f : FuncId} {g : Int → Int} (h : ∀ (v : Value) (x : Int) (w : World),Raw w v x → isz x ≤ 1000000000 → Calls Tryz.prog f #[v] w (GInt (g x) w)) : CtrOk Tryz.prog f (cZ1 g) := by
  intro F w vs x hF hvs hp
  obtain ⟨v,vs',rfl,h1,h3⟩ := hvs
  have h3 : vs' = [] := h3
  subst h3
  refine (h v x.1 w (big_v h1).raw hp).mono ?_
  rintro e w' ⟨r,rfl,hr,hb⟩
  exact ⟨r,rfl,v_big hr,hb⟩
def cIZ : Ctr := ⟨[tI],[tZ],fun x => wordP x.1,fun x => (x.1,())⟩
theorem cIZ_ok {f : FuncId} (h : ∀ (x : Int) (w : World),-9223372036854775808 ≤ x → x ≤ 9223372036854775807 → Calls Tryz.prog f #[.int .i64 x] w (GInt x w)) : CtrOk Tryz.prog f cIZ := by
  intro F w vs x hF hvs hp
  obtain ⟨v,vs',rfl,h1,h3⟩ := hvs
  have h3 : vs' = [] := h3
  subst h3
  rw [int_v h1]
  refine (h x.1 w hp.1 hp.2).mono ?_
  rintro e w' ⟨r,rfl,hr,hb⟩
  exact ⟨r,rfl,v_big hr,hb⟩
def cZI (g : Int → Int) : Ctr := ⟨[tZ],[tI],fun x => True,fun x => (g x.1,())⟩
theorem cZI_ok {f : FuncId} {g : Int → Int} (h : ∀ (v : Value) (x : Int) (w : World),Raw w v x → Calls Tryz.prog f #[v] w (fun e w' => e = .returned (.int .i64 (g x)) ∧ Below w.heap.size w w')) : CtrOk Tryz.prog f (cZI g) := by
  intro F w vs x hF hvs hp
  obtain ⟨v,vs',rfl,h1,h3⟩ := hvs
  have h3 : vs' = [] := h3
  subst h3
  refine (h v x.1 w (big_v h1).raw).mono ?_
  rintro e w' ⟨rfl,hb⟩
  exact ⟨_,rfl,v_int _,hb⟩
def cSmall : Ctr := ⟨[tZ],[tI,tB],fun x => True,fun x => (smallV x.1,smallB x.1,())⟩
theorem cSmall_ok {f : FuncId} (h : ∀ (v : Value) (x : Int) (w : World),Raw w v x → Calls Tryz.prog f #[v] w (fun e w' => e = .returned (.tuple #[.int .i64 (smallV x),.bool (smallB x)]) ∧ Below w.heap.size w w')) : CtrOk Tryz.prog f cSmall := by
  intro F w vs x hF hvs hp
  obtain ⟨v,vs',rfl,h1,h3⟩ := hvs
  have h3 : vs' = [] := h3
  subst h3
  refine (h v x.1 w (big_v h1).raw).mono ?_
  rintro e w' ⟨rfl,hb⟩
  exact ⟨_,rfl,⟨[_,_],rfl,_,_,rfl,v_int _,_,_,rfl,v_bool _,rfl⟩,hb⟩
def cDiv : Ctr := ⟨[tZ,tZ],[tZ,tZ,tI],fun x => isz x.1 ≤ 1000000000 ∧ isz x.2.1 ≤ 1000000000 ∧ (show Int from x.2.1) ≠ 0,fun x => (Int.fdiv x.1 x.2.1,Int.fmod x.1 x.2.1,(0 : Int),())⟩
theorem cDiv_ok {f : FuncId} (h : ∀ (v u : Value) (x y : Int) (w : World),Raw w v x → Raw w u y → isz x ≤ 1000000000 → isz y ≤ 1000000000 → y ≠ 0 → Calls Tryz.prog f #[v,u] w (GDiv (x.fdiv y) (x.fmod y) w)) : CtrOk Tryz.prog f cDiv := by
  intro F w vs x hF hvs hp
  obtain ⟨v,vs',rfl,h1,u,vs'',rfl,h2,h3⟩ := hvs
  have h3 : vs'' = [] := h3
  subst h3
  refine (h v u x.1 x.2.1 w (big_v h1).raw (big_v h2).raw hp.1 hp.2.1 hp.2.2).mono ?_
  rintro e w' ⟨v1,v2,rfl,h1,h2,hb⟩
  exact ⟨_,rfl,⟨[_,_,_],rfl,_,_,rfl,v_big h1,_,_,rfl,v_big h2,_,_,rfl,v_int _,rfl⟩,hb⟩
noncomputable def LZ : Lib := (((((((LS2
  ).add 69 cIZ (cIZ_ok fun x w h0 h1 => of_any x w h0 h1)
  ).add 133 (cZ2 fun x y => ((Int.gcd x y : Nat) : Int)) (cZ2_ok fun v u x y w h1 h2 l1 l2 => gcd_any v u x y w h1 h2 l1 l2)
  ).add 71 (cZ2 fun x y => x * y) (cZ2_ok fun v u x y w h1 h2 l1 l2 => mul_any v u x y w h1 h2 l1 l2)
  ).add 134 (cZ1 fun x => -x) (cZ1_ok fun v x w h1 l1 => neg_any v x w h1 l1)
  ).add 117 (cZI Int.sign) (cZI_ok fun v x w h1 => sign_any v x w h1)
  ).add 135 cSmall (cSmall_ok fun v x w h1 => small_any v x w h1)
  ).add 110 cDiv (cDiv_ok fun v u x y w h1 h2 l1 l2 hy => divide_any v u x y w h1 h2 l1 l2 hy)
def xsL (l : List Int) (k : Nat) : Int := l.getD k 0
def cPrim : Ctr := ⟨[.arr 4 tZ],[tQuat,tI],fun x => (show List Int from x.1).length = 4 ∧ (∀ j,j < 4 → isz (xsL x.1 j) ≤ 400000000) ∧ ∃ j,j < 4 ∧ xsL x.1 j ≠ 0,fun x => primT (xsL x.1)⟩
abbrev Le4 : Type := {i : Nat // i ≤ 4}
theorem bad_eq (q : Int) : (bif (bif !smallB q then true else decide (smallV q < -1048576)) then true else decide (smallV q > 1048576)) = !decide (okc q) := by
  by_cases h : okc q
  · have h' := h
    unfold okc at h'
    have e1 : smallB q = true := by unfold smallB;rw [decide_eq_true_eq];omega
    have e2 : smallV q = q := by unfold smallV;rw [if_pos (by omega)]
    have a1 : decide (q < -1048576) = false := decide_eq_false (by omega)
    have a2 : decide (q > 1048576) = false := decide_eq_false (by omega)
    rw [e1,e2,a1,a2,decide_eq_true h];rfl
  · by_cases hs : smallB q = true
    · have hs' := hs
      unfold smallB at hs'
      rw [decide_eq_true_eq] at hs'
      have e2 : smallV q = q := by unfold smallV;rw [if_pos hs']
      have h3 : q < -1048576 ∨ q > 1048576 := by unfold okc at h;omega
      rw [hs,e2,decide_eq_false h]
      rcases h3 with h3 | h3
      · rw [decide_eq_true h3];rfl
      · rw [decide_eq_true h3];cases decide (q < -1048576) <;> rfl
    · have hs := Bool.not_eq_true _ |>.mp hs
      rw [hs,decide_eq_false h];rfl
theorem okc_smallV {q : Int} (h : okc q) : smallV q = q := by
  unfold okc at h
  unfold smallV
  rw [if_pos (by omega)]
theorem primitive_ctr : CtrOk Tryz.prog 93 cPrim := by
  refine ctr_fn LZ [2,4,5,7,8,10,11,12] Tryz.func93 rfl (by decide) (fun x => [.inv Le4 (fun k => [(17,.val tI (k.1 : Int))]) (fun k => [(2,.box [⟨tI,(0 : Int)⟩,⟨tI,(0 : Int)⟩,⟨tI,(0 : Int)⟩,⟨tI,(0 : Int)⟩]),(4,.box [⟨tZ,gseq (xsL x.1) k.1⟩]),(5,.box [⟨tZ,fseq (xsL x.1) k.1⟩])]) (fun k => 4 - k.1) ⟨0,by omega⟩ (fun _ => []),.turns 5 [34] [2,4,5,8] []]) (fun x hp => ?_)
  obtain ⟨x,u⟩ := x
  change List Int at x
  refine vc_of (let x0z := (True ∧ (0,0,0,0,()) = Prod.fst (primT (xsL x)) ∧ True ∧ 3 = Prod.fst (Prod.snd (primT (xsL x))) ∧ True);let x1z := (List.getD x 0 0);let x2z := (List.getD x 1 0);let x3z := (List.getD x 2 0);let x4z := (List.getD x 3 0);(asT Int 0 = ↑0 ∧ asT Int 0 = 0 ∧ asT Int 0 = 0 ∧ asT Int 0 = 0 ∧ asT Int 0 = 0 ∧ 0 = gseq (xsL x) 0 ∧ 0 = fseq (xsL x) 0 ∧ True) ∧ ∀ (i : Le4),asT Bool true = true ∧ ifB (decide (natI (sval i) < 4)) ((0 ≤ natI (sval i) ∧ natI (sval i) < natI 4 ∧ True) ∧ ((isz (gseq (xsL x) (sval i)) ≤ 1000000000 ∧ isz (List.getD x (Int.toNat (natI (sval i))) 0) ≤ 1000000000) ∧ True) ∧ (True ∧ True) ∧ ifB (Int.sign (fseq (xsL x) (sval i)) == 0) (∃ (i' : Le4),4 - sval i' < 4 - sval i ∧ IntKind.wrap IntKind.i64 (natI (sval i) + 1) = natI (sval i') ∧ asT Int 0 = 0 ∧ asT Int 0 = 0 ∧ asT Int 0 = 0 ∧ asT Int 0 = 0 ∧ natI (Int.gcd (gseq (xsL x) (sval i)) (List.getD x (Int.toNat (natI (sval i))) 0)) = gseq (xsL x) (sval i') ∧ List.getD x (Int.toNat (natI (sval i))) 0 = fseq (xsL x) (sval i') ∧ True) (∃ (i' : Le4),4 - sval i' < 4 - sval i ∧ IntKind.wrap IntKind.i64 (natI (sval i) + 1) = natI (sval i') ∧ asT Int 0 = 0 ∧ asT Int 0 = 0 ∧ asT Int 0 = 0 ∧ asT Int 0 = 0 ∧ natI (Int.gcd (gseq (xsL x) (sval i)) (List.getD x (Int.toNat (natI (sval i))) 0)) = gseq (xsL x) (sval i') ∧ fseq (xsL x) (sval i) = fseq (xsL x) (sval i') ∧ True)) ((True ∧ True) ∧ ifB (decide (Int.sign (fseq (xsL x) (sval i)) < 0)) ((isz (gseq (xsL x) (sval i)) ≤ 1000000000 ∧ True) ∧ (asT Int 0 ≤ 0 ∧ asT Int 0 < ↑4 ∧ True) ∧ ((isz x1z ≤ 1000000000 ∧ isz (-gseq (xsL x) (sval i)) ≤ 1000000000 ∧ -gseq (xsL x) (sval i) ≠ 0) ∧ True) ∧ (True ∧ True) ∧ ((((!smallB (Int.fdiv x1z (-gseq (xsL x) (sval i)))) == false) = true → ((!smallB (Int.fdiv x1z (-gseq (xsL x) (sval i)))) == false) = true ∧ True) ∧ ((!smallB (Int.fdiv x1z (-gseq (xsL x) (sval i)))) = false → ((!smallB (Int.fdiv x1z (-gseq (xsL x) (sval i)))) == false) = true) ∧ (((bif !smallB (Int.fdiv x1z (-gseq (xsL x) (sval i))) then true else decide (smallV (Int.fdiv x1z (-gseq (xsL x) (sval i))) < -1048576)) == false) = true → ((bif !smallB (Int.fdiv x1z (-gseq (xsL x) (sval i))) then true else decide (smallV (Int.fdiv x1z (-gseq (xsL x) (sval i))) < -1048576)) == false) = true ∧ True) ∧ ((bif !smallB (Int.fdiv x1z (-gseq (xsL x) (sval i))) then true else decide (smallV (Int.fdiv x1z (-gseq (xsL x) (sval i))) < -1048576)) = false → ((bif !smallB (Int.fdiv x1z (-gseq (xsL x) (sval i))) then true else decide (smallV (Int.fdiv x1z (-gseq (xsL x) (sval i))) < -1048576)) == false) = true) ∧ True) ∧ ifB (bif bif !smallB (Int.fdiv x1z (-gseq (xsL x) (sval i))) then true else decide (smallV (Int.fdiv x1z (-gseq (xsL x) (sval i))) < -1048576) then true else decide (smallV (Int.fdiv x1z (-gseq (xsL x) (sval i))) > 1048576)) x0z ((asT Int 0 = 0 ∧ asT Int 0 = 0 ∧ asT Int 0 = 0 ∧ asT Int 0 = 0 ∧ -gseq (xsL x) (sval i) = -gseq (xsL x) (sval i) ∧ fseq (xsL x) (sval i) = fseq (xsL x) (sval i) ∧ smallV (Int.fdiv x1z (-gseq (xsL x) (sval i))) = smallV (Int.fdiv x1z (-gseq (xsL x) (sval i))) ∧ asT Int 0 = 0 ∧ asT Int 0 = 0 ∧ asT Int 0 = 0 ∧ True) ∧ asT Bool true = true ∧ (asT Int 0 ≤ 1 ∧ asT Int 1 < ↑4 ∧ True) ∧ ((isz x2z ≤ 1000000000 ∧ isz (-gseq (xsL x) (sval i)) ≤ 1000000000 ∧ -gseq (xsL x) (sval i) ≠ 0) ∧ True) ∧ (True ∧ True) ∧ ((((!smallB (Int.fdiv x2z (-gseq (xsL x) (sval i)))) == false) = true → ((!smallB (Int.fdiv x2z (-gseq (xsL x) (sval i)))) == false) = true ∧ True) ∧ ((!smallB (Int.fdiv x2z (-gseq (xsL x) (sval i)))) = false → ((!smallB (Int.fdiv x2z (-gseq (xsL x) (sval i)))) == false) = true) ∧ (((bif !smallB (Int.fdiv x2z (-gseq (xsL x) (sval i))) then true else decide (smallV (Int.fdiv x2z (-gseq (xsL x) (sval i))) < -1048576)) == false) = true → ((bif !smallB (Int.fdiv x2z (-gseq (xsL x) (sval i))) then true else decide (smallV (Int.fdiv x2z (-gseq (xsL x) (sval i))) < -1048576)) == false) = true ∧ True) ∧ ((bif !smallB (Int.fdiv x2z (-gseq (xsL x) (sval i))) then true else decide (smallV (Int.fdiv x2z (-gseq (xsL x) (sval i))) < -1048576)) = false → ((bif !smallB (Int.fdiv x2z (-gseq (xsL x) (sval i))) then true else decide (smallV (Int.fdiv x2z (-gseq (xsL x) (sval i))) < -1048576)) == false) = true) ∧ True) ∧ ifB (bif bif !smallB (Int.fdiv x2z (-gseq (xsL x) (sval i))) then true else decide (smallV (Int.fdiv x2z (-gseq (xsL x) (sval i))) < -1048576) then true else decide (smallV (Int.fdiv x2z (-gseq (xsL x) (sval i))) > 1048576)) x0z ((asT Int 0 = 0 ∧ asT Int 0 = 0 ∧ asT Int 0 = 0 ∧ asT Int 0 = 0 ∧ -gseq (xsL x) (sval i) = -gseq (xsL x) (sval i) ∧ fseq (xsL x) (sval i) = fseq (xsL x) (sval i) ∧ smallV (Int.fdiv x1z (-gseq (xsL x) (sval i))) = smallV (Int.fdiv x1z (-gseq (xsL x) (sval i))) ∧ smallV (Int.fdiv x2z (-gseq (xsL x) (sval i))) = smallV (Int.fdiv x2z (-gseq (xsL x) (sval i))) ∧ asT Int 0 = 0 ∧ asT Int 0 = 0 ∧ True) ∧ asT Bool true = true ∧ (asT Int 0 ≤ 2 ∧ asT Int 2 < ↑4 ∧ True) ∧ ((isz x3z ≤ 1000000000 ∧ isz (-gseq (xsL x) (sval i)) ≤ 1000000000 ∧ -gseq (xsL x) (sval i) ≠ 0) ∧ True) ∧ (True ∧ True) ∧ ((((!smallB (Int.fdiv x3z (-gseq (xsL x) (sval i)))) == false) = true → ((!smallB (Int.fdiv x3z (-gseq (xsL x) (sval i)))) == false) = true ∧ True) ∧ ((!smallB (Int.fdiv x3z (-gseq (xsL x) (sval i)))) = false → ((!smallB (Int.fdiv x3z (-gseq (xsL x) (sval i)))) == false) = true) ∧ (((bif !smallB (Int.fdiv x3z (-gseq (xsL x) (sval i))) then true else decide (smallV (Int.fdiv x3z (-gseq (xsL x) (sval i))) < -1048576)) == false) = true → ((bif !smallB (Int.fdiv x3z (-gseq (xsL x) (sval i))) then true else decide (smallV (Int.fdiv x3z (-gseq (xsL x) (sval i))) < -1048576)) == false) = true ∧ True) ∧ ((bif !smallB (Int.fdiv x3z (-gseq (xsL x) (sval i))) then true else decide (smallV (Int.fdiv x3z (-gseq (xsL x) (sval i))) < -1048576)) = false → ((bif !smallB (Int.fdiv x3z (-gseq (xsL x) (sval i))) then true else decide (smallV (Int.fdiv x3z (-gseq (xsL x) (sval i))) < -1048576)) == false) = true) ∧ True) ∧ ifB (bif bif !smallB (Int.fdiv x3z (-gseq (xsL x) (sval i))) then true else decide (smallV (Int.fdiv x3z (-gseq (xsL x) (sval i))) < -1048576) then true else decide (smallV (Int.fdiv x3z (-gseq (xsL x) (sval i))) > 1048576)) x0z ((asT Int 0 = 0 ∧ asT Int 0 = 0 ∧ asT Int 0 = 0 ∧ asT Int 0 = 0 ∧ -gseq (xsL x) (sval i) = -gseq (xsL x) (sval i) ∧ fseq (xsL x) (sval i) = fseq (xsL x) (sval i) ∧ smallV (Int.fdiv x1z (-gseq (xsL x) (sval i))) = smallV (Int.fdiv x1z (-gseq (xsL x) (sval i))) ∧ smallV (Int.fdiv x2z (-gseq (xsL x) (sval i))) = smallV (Int.fdiv x2z (-gseq (xsL x) (sval i))) ∧ smallV (Int.fdiv x3z (-gseq (xsL x) (sval i))) = smallV (Int.fdiv x3z (-gseq (xsL x) (sval i))) ∧ asT Int 0 = 0 ∧ True) ∧ asT Bool true = true ∧ (asT Int 0 ≤ 3 ∧ asT Int 3 < ↑4 ∧ True) ∧ ((isz x4z ≤ 1000000000 ∧ isz (-gseq (xsL x) (sval i)) ≤ 1000000000 ∧ -gseq (xsL x) (sval i) ≠ 0) ∧ True) ∧ (True ∧ True) ∧ ((((!smallB (Int.fdiv x4z (-gseq (xsL x) (sval i)))) == false) = true → ((!smallB (Int.fdiv x4z (-gseq (xsL x) (sval i)))) == false) = true ∧ True) ∧ ((!smallB (Int.fdiv x4z (-gseq (xsL x) (sval i)))) = false → ((!smallB (Int.fdiv x4z (-gseq (xsL x) (sval i)))) == false) = true) ∧ (((bif !smallB (Int.fdiv x4z (-gseq (xsL x) (sval i))) then true else decide (smallV (Int.fdiv x4z (-gseq (xsL x) (sval i))) < -1048576)) == false) = true → ((bif !smallB (Int.fdiv x4z (-gseq (xsL x) (sval i))) then true else decide (smallV (Int.fdiv x4z (-gseq (xsL x) (sval i))) < -1048576)) == false) = true ∧ True) ∧ ((bif !smallB (Int.fdiv x4z (-gseq (xsL x) (sval i))) then true else decide (smallV (Int.fdiv x4z (-gseq (xsL x) (sval i))) < -1048576)) = false → ((bif !smallB (Int.fdiv x4z (-gseq (xsL x) (sval i))) then true else decide (smallV (Int.fdiv x4z (-gseq (xsL x) (sval i))) < -1048576)) == false) = true) ∧ True) ∧ ifB (bif bif !smallB (Int.fdiv x4z (-gseq (xsL x) (sval i))) then true else decide (smallV (Int.fdiv x4z (-gseq (xsL x) (sval i))) < -1048576) then true else decide (smallV (Int.fdiv x4z (-gseq (xsL x) (sval i))) > 1048576)) x0z ((asT Int 0 = 0 ∧ asT Int 0 = 0 ∧ asT Int 0 = 0 ∧ asT Int 0 = 0 ∧ -gseq (xsL x) (sval i) = -gseq (xsL x) (sval i) ∧ fseq (xsL x) (sval i) = fseq (xsL x) (sval i) ∧ smallV (Int.fdiv x1z (-gseq (xsL x) (sval i))) = smallV (Int.fdiv x1z (-gseq (xsL x) (sval i))) ∧ smallV (Int.fdiv x2z (-gseq (xsL x) (sval i))) = smallV (Int.fdiv x2z (-gseq (xsL x) (sval i))) ∧ smallV (Int.fdiv x3z (-gseq (xsL x) (sval i))) = smallV (Int.fdiv x3z (-gseq (xsL x) (sval i))) ∧ smallV (Int.fdiv x4z (-gseq (xsL x) (sval i))) = smallV (Int.fdiv x4z (-gseq (xsL x) (sval i))) ∧ True) ∧ asT Bool true = true ∧ True ∧ (smallV (Int.fdiv x1z (-gseq (xsL x) (sval i))),smallV (Int.fdiv x2z (-gseq (xsL x) (sval i))),smallV (Int.fdiv x3z (-gseq (xsL x) (sval i))),smallV (Int.fdiv x4z (-gseq (xsL x) (sval i))),()) = Prod.fst (primT (xsL x)) ∧ True ∧ 0 = Prod.fst (Prod.snd (primT (xsL x))) ∧ True))))) ((asT Int 0 ≤ 0 ∧ asT Int 0 < ↑4 ∧ True) ∧ ((isz x1z ≤ 1000000000 ∧ isz (gseq (xsL x) (sval i)) ≤ 1000000000 ∧ gseq (xsL x) (sval i) ≠ 0) ∧ True) ∧ (True ∧ True) ∧ ((((!smallB (Int.fdiv x1z (gseq (xsL x) (sval i)))) == false) = true → ((!smallB (Int.fdiv x1z (gseq (xsL x) (sval i)))) == false) = true ∧ True) ∧ ((!smallB (Int.fdiv x1z (gseq (xsL x) (sval i)))) = false → ((!smallB (Int.fdiv x1z (gseq (xsL x) (sval i)))) == false) = true) ∧ (((bif !smallB (Int.fdiv x1z (gseq (xsL x) (sval i))) then true else decide (smallV (Int.fdiv x1z (gseq (xsL x) (sval i))) < -1048576)) == false) = true → ((bif !smallB (Int.fdiv x1z (gseq (xsL x) (sval i))) then true else decide (smallV (Int.fdiv x1z (gseq (xsL x) (sval i))) < -1048576)) == false) = true ∧ True) ∧ ((bif !smallB (Int.fdiv x1z (gseq (xsL x) (sval i))) then true else decide (smallV (Int.fdiv x1z (gseq (xsL x) (sval i))) < -1048576)) = false → ((bif !smallB (Int.fdiv x1z (gseq (xsL x) (sval i))) then true else decide (smallV (Int.fdiv x1z (gseq (xsL x) (sval i))) < -1048576)) == false) = true) ∧ True) ∧ ifB (bif bif !smallB (Int.fdiv x1z (gseq (xsL x) (sval i))) then true else decide (smallV (Int.fdiv x1z (gseq (xsL x) (sval i))) < -1048576) then true else decide (smallV (Int.fdiv x1z (gseq (xsL x) (sval i))) > 1048576)) x0z ((asT Int 0 = 0 ∧ asT Int 0 = 0 ∧ asT Int 0 = 0 ∧ asT Int 0 = 0 ∧ gseq (xsL x) (sval i) = gseq (xsL x) (sval i) ∧ fseq (xsL x) (sval i) = fseq (xsL x) (sval i) ∧ smallV (Int.fdiv x1z (gseq (xsL x) (sval i))) = smallV (Int.fdiv x1z (gseq (xsL x) (sval i))) ∧ asT Int 0 = 0 ∧ asT Int 0 = 0 ∧ asT Int 0 = 0 ∧ True) ∧ asT Bool true = true ∧ (asT Int 0 ≤ 1 ∧ asT Int 1 < ↑4 ∧ True) ∧ ((isz x2z ≤ 1000000000 ∧ isz (gseq (xsL x) (sval i)) ≤ 1000000000 ∧ gseq (xsL x) (sval i) ≠ 0) ∧ True) ∧ (True ∧ True) ∧ ((((!smallB (Int.fdiv x2z (gseq (xsL x) (sval i)))) == false) = true → ((!smallB (Int.fdiv x2z (gseq (xsL x) (sval i)))) == false) = true ∧ True) ∧ ((!smallB (Int.fdiv x2z (gseq (xsL x) (sval i)))) = false → ((!smallB (Int.fdiv x2z (gseq (xsL x) (sval i)))) == false) = true) ∧ (((bif !smallB (Int.fdiv x2z (gseq (xsL x) (sval i))) then true else decide (smallV (Int.fdiv x2z (gseq (xsL x) (sval i))) < -1048576)) == false) = true → ((bif !smallB (Int.fdiv x2z (gseq (xsL x) (sval i))) then true else decide (smallV (Int.fdiv x2z (gseq (xsL x) (sval i))) < -1048576)) == false) = true ∧ True) ∧ ((bif !smallB (Int.fdiv x2z (gseq (xsL x) (sval i))) then true else decide (smallV (Int.fdiv x2z (gseq (xsL x) (sval i))) < -1048576)) = false → ((bif !smallB (Int.fdiv x2z (gseq (xsL x) (sval i))) then true else decide (smallV (Int.fdiv x2z (gseq (xsL x) (sval i))) < -1048576)) == false) = true) ∧ True) ∧ ifB (bif bif !smallB (Int.fdiv x2z (gseq (xsL x) (sval i))) then true else decide (smallV (Int.fdiv x2z (gseq (xsL x) (sval i))) < -1048576) then true else decide (smallV (Int.fdiv x2z (gseq (xsL x) (sval i))) > 1048576)) x0z ((asT Int 0 = 0 ∧ asT Int 0 = 0 ∧ asT Int 0 = 0 ∧ asT Int 0 = 0 ∧ gseq (xsL x) (sval i) = gseq (xsL x) (sval i) ∧ fseq (xsL x) (sval i) = fseq (xsL x) (sval i) ∧ smallV (Int.fdiv x1z (gseq (xsL x) (sval i))) = smallV (Int.fdiv x1z (gseq (xsL x) (sval i))) ∧ smallV (Int.fdiv x2z (gseq (xsL x) (sval i))) = smallV (Int.fdiv x2z (gseq (xsL x) (sval i))) ∧ asT Int 0 = 0 ∧ asT Int 0 = 0 ∧ True) ∧ asT Bool true = true ∧ (asT Int 0 ≤ 2 ∧ asT Int 2 < ↑4 ∧ True) ∧ ((isz x3z ≤ 1000000000 ∧ isz (gseq (xsL x) (sval i)) ≤ 1000000000 ∧ gseq (xsL x) (sval i) ≠ 0) ∧ True) ∧ (True ∧ True) ∧ ((((!smallB (Int.fdiv x3z (gseq (xsL x) (sval i)))) == false) = true → ((!smallB (Int.fdiv x3z (gseq (xsL x) (sval i)))) == false) = true ∧ True) ∧ ((!smallB (Int.fdiv x3z (gseq (xsL x) (sval i)))) = false → ((!smallB (Int.fdiv x3z (gseq (xsL x) (sval i)))) == false) = true) ∧ (((bif !smallB (Int.fdiv x3z (gseq (xsL x) (sval i))) then true else decide (smallV (Int.fdiv x3z (gseq (xsL x) (sval i))) < -1048576)) == false) = true → ((bif !smallB (Int.fdiv x3z (gseq (xsL x) (sval i))) then true else decide (smallV (Int.fdiv x3z (gseq (xsL x) (sval i))) < -1048576)) == false) = true ∧ True) ∧ ((bif !smallB (Int.fdiv x3z (gseq (xsL x) (sval i))) then true else decide (smallV (Int.fdiv x3z (gseq (xsL x) (sval i))) < -1048576)) = false → ((bif !smallB (Int.fdiv x3z (gseq (xsL x) (sval i))) then true else decide (smallV (Int.fdiv x3z (gseq (xsL x) (sval i))) < -1048576)) == false) = true) ∧ True) ∧ ifB (bif bif !smallB (Int.fdiv x3z (gseq (xsL x) (sval i))) then true else decide (smallV (Int.fdiv x3z (gseq (xsL x) (sval i))) < -1048576) then true else decide (smallV (Int.fdiv x3z (gseq (xsL x) (sval i))) > 1048576)) x0z ((asT Int 0 = 0 ∧ asT Int 0 = 0 ∧ asT Int 0 = 0 ∧ asT Int 0 = 0 ∧ gseq (xsL x) (sval i) = gseq (xsL x) (sval i) ∧ fseq (xsL x) (sval i) = fseq (xsL x) (sval i) ∧ smallV (Int.fdiv x1z (gseq (xsL x) (sval i))) = smallV (Int.fdiv x1z (gseq (xsL x) (sval i))) ∧ smallV (Int.fdiv x2z (gseq (xsL x) (sval i))) = smallV (Int.fdiv x2z (gseq (xsL x) (sval i))) ∧ smallV (Int.fdiv x3z (gseq (xsL x) (sval i))) = smallV (Int.fdiv x3z (gseq (xsL x) (sval i))) ∧ asT Int 0 = 0 ∧ True) ∧ asT Bool true = true ∧ (asT Int 0 ≤ 3 ∧ asT Int 3 < ↑4 ∧ True) ∧ ((isz x4z ≤ 1000000000 ∧ isz (gseq (xsL x) (sval i)) ≤ 1000000000 ∧ gseq (xsL x) (sval i) ≠ 0) ∧ True) ∧ (True ∧ True) ∧ ((((!smallB (Int.fdiv x4z (gseq (xsL x) (sval i)))) == false) = true → ((!smallB (Int.fdiv x4z (gseq (xsL x) (sval i)))) == false) = true ∧ True) ∧ ((!smallB (Int.fdiv x4z (gseq (xsL x) (sval i)))) = false → ((!smallB (Int.fdiv x4z (gseq (xsL x) (sval i)))) == false) = true) ∧ (((bif !smallB (Int.fdiv x4z (gseq (xsL x) (sval i))) then true else decide (smallV (Int.fdiv x4z (gseq (xsL x) (sval i))) < -1048576)) == false) = true → ((bif !smallB (Int.fdiv x4z (gseq (xsL x) (sval i))) then true else decide (smallV (Int.fdiv x4z (gseq (xsL x) (sval i))) < -1048576)) == false) = true ∧ True) ∧ ((bif !smallB (Int.fdiv x4z (gseq (xsL x) (sval i))) then true else decide (smallV (Int.fdiv x4z (gseq (xsL x) (sval i))) < -1048576)) = false → ((bif !smallB (Int.fdiv x4z (gseq (xsL x) (sval i))) then true else decide (smallV (Int.fdiv x4z (gseq (xsL x) (sval i))) < -1048576)) == false) = true) ∧ True) ∧ ifB (bif bif !smallB (Int.fdiv x4z (gseq (xsL x) (sval i))) then true else decide (smallV (Int.fdiv x4z (gseq (xsL x) (sval i))) < -1048576) then true else decide (smallV (Int.fdiv x4z (gseq (xsL x) (sval i))) > 1048576)) x0z ((asT Int 0 = 0 ∧ asT Int 0 = 0 ∧ asT Int 0 = 0 ∧ asT Int 0 = 0 ∧ gseq (xsL x) (sval i) = gseq (xsL x) (sval i) ∧ fseq (xsL x) (sval i) = fseq (xsL x) (sval i) ∧ smallV (Int.fdiv x1z (gseq (xsL x) (sval i))) = smallV (Int.fdiv x1z (gseq (xsL x) (sval i))) ∧ smallV (Int.fdiv x2z (gseq (xsL x) (sval i))) = smallV (Int.fdiv x2z (gseq (xsL x) (sval i))) ∧ smallV (Int.fdiv x3z (gseq (xsL x) (sval i))) = smallV (Int.fdiv x3z (gseq (xsL x) (sval i))) ∧ smallV (Int.fdiv x4z (gseq (xsL x) (sval i))) = smallV (Int.fdiv x4z (gseq (xsL x) (sval i))) ∧ True) ∧ asT Bool true = true ∧ True ∧ (smallV (Int.fdiv x1z (gseq (xsL x) (sval i))),smallV (Int.fdiv x2z (gseq (xsL x) (sval i))),smallV (Int.fdiv x3z (gseq (xsL x) (sval i))),smallV (Int.fdiv x4z (gseq (xsL x) (sval i))),()) = Prod.fst (primT (xsL x)) ∧ True ∧ 0 = Prod.fst (Prod.snd (primT (xsL x))) ∧ True))))))) (by kernel_rfl) ?_
  obtain ⟨hl,hb,hn⟩ := hp
  dsimp only [natI,sval,asT,nilT,intQ] at *
  simp only [bad_eq,ifB_iff,true_and,and_true,imp_self,Bool.not_eq_true',Bool.not_eq_false',decide_eq_true_eq,decide_eq_false_iff_not,Int.toNat_natCast,true_implies,implies_true,beq_iff_eq,bne_iff_ne,ne_eq,beq_eq_false_iff_ne,bne_eq_false_iff_eq]
  have hx : ∀ j,x.getD j 0 = xsL x j := fun _ => rfl
  simp only [hx]
  generalize xsL x = X at *
  have gs : ∀ k,k ≤ 4 → isz (gseq X k) ≤ 1000000000 := fun k hk => Nat.le_trans (gseq_isz (K := 400000000) k (fun j hj => hb j (by omega))) (by omega)
  have xs : ∀ j,j < 4 → isz (X j) ≤ 1000000000 := fun j hj => Nat.le_trans (hb j hj) (by omega)
  refine ⟨⟨rfl,rfl⟩,fun i => ⟨fun h1 => ?_,fun h1 => ?_⟩⟩
  · have hi := i.2
    refine ⟨⟨by omega,by omega⟩,⟨gs _ hi,xs _ (by omega)⟩,fun h2 => ⟨⟨i.1 + 1,by omega⟩,by simp only;omega,?_,rfl,?_⟩,fun h2 => ⟨⟨i.1 + 1,by omega⟩,by simp only;omega,?_,rfl,?_⟩⟩
    · rw [wrap_id (by omega) (by omega)];rfl
    · rw [Int.sign_eq_zero_iff_zero] at h2
      simp only [fseq,if_pos h2]
    · rw [wrap_id (by omega) (by omega)];rfl
    · rw [Int.sign_eq_zero_iff_zero] at h2
      simp only [fseq,if_neg h2]
  · have hi := i.2
    have hi : i.1 = 4 := by omega
    rw [hi]
    have g0 : primG X ≠ 0 := by obtain ⟨j,h1,h2⟩ := hn;exact primG_ne h1 h2
    have tl : ∀ G,primG X = G → isz G ≤ 1000000000 → (∀ j,j < 4 → ¬ okc ((X j).fdiv G) → (0,0,0,0,()) = (primT X).1 ∧ 3 = (primT X).2.1) ∧ (okc ((X 0).fdiv G) → okc ((X 1).fdiv G) → okc ((X 2).fdiv G) → okc ((X 3).fdiv G) → (smallV ((X 0).fdiv G),smallV ((X 1).fdiv G),smallV ((X 2).fdiv G),smallV ((X 3).fdiv G),()) = (primT X).1 ∧ 0 = (primT X).2.1) := by
      rintro G rfl hG
      refine ⟨fun j hj h => ?_,fun k0 k1 k2 k3 => ?_⟩
      · have : primT X = ((0,0,0,0,()),3,()) := if_neg (fun e => h (e j hj))
        rw [this];exact ⟨rfl,rfl⟩
      · have : primT X = ((primN X 0,primN X 1,primN X 2,primN X 3,()),0,()) := if_pos (fun j hj => by
          match j,hj with
          | 0,_ => exact k0
          | 1,_ => exact k1
          | 2,_ => exact k2
          | 3,_ => exact k3)
        rw [this,okc_smallV k0,okc_smallV k1,okc_smallV k2,okc_smallV k3];exact ⟨rfl,rfl⟩
    have g4 := gs 4 (by omega)
    refine ⟨fun h2 => ?_,fun h2 => ?_⟩
    · rw [Int.sign_neg_iff] at h2
      have hG : primG X = -gseq X 4 := if_pos h2
      have g5 : isz (-gseq X 4) ≤ 1000000000 := by rw [isz_neg];exact g4
      obtain ⟨no,yes⟩ := tl _ hG g5
      rw [hG] at g0
      exact ⟨g4,⟨by omega,by omega⟩,⟨xs 0 (by omega),g5,g0⟩,no 0 (by omega),fun k0 => ⟨⟨by omega,by omega⟩,⟨xs 1 (by omega),g5,g0⟩,no 1 (by omega),fun k1 => ⟨⟨by omega,by omega⟩,⟨xs 2 (by omega),g5,g0⟩,no 2 (by omega),fun k2 => ⟨⟨by omega,by omega⟩,⟨xs 3 (by omega),g5,g0⟩,no 3 (by omega),fun k3 => yes k0 k1 k2 k3⟩⟩⟩⟩
    · rw [Int.sign_neg_iff] at h2
      have hG : primG X = gseq X 4 := if_neg h2
      obtain ⟨no,yes⟩ := tl _ hG g4
      rw [hG] at g0
      exact ⟨⟨by omega,by omega⟩,⟨xs 0 (by omega),g4,g0⟩,no 0 (by omega),fun k0 => ⟨⟨by omega,by omega⟩,⟨xs 1 (by omega),g4,g0⟩,no 1 (by omega),fun k1 => ⟨⟨by omega,by omega⟩,⟨xs 2 (by omega),g4,g0⟩,no 2 (by omega),fun k2 => ⟨⟨by omega,by omega⟩,⟨xs 3 (by omega),g4,g0⟩,no 3 (by omega),fun k3 => yes k0 k1 k2 k3⟩⟩⟩⟩
noncomputable def LP : Lib := LZ.add 93 cPrim primitive_ctr
end Go.Proofs.YtidfgdchcpmnfaaGreat
namespace Go.Proofs.YtidfgdchcpmnfaaGreat
open Go Go.RowKit
set_option maxRecDepth 100000
set_option maxHeartbeats 1000000
set_option linter.unusedVariables false
set_option linter.unusedSimpArgs false
def cParts : Ctr := ⟨[tQuat],[.arr 4 tI],fun x => True,fun x => ([x.1.1,x.1.2.1,x.1.2.2.1,x.1.2.2.2.1],())⟩
theorem parts_ctr : CtrOk Tryz.prog 81 cParts := by
  refine ctr_fn LP [2] Tryz.func81 rfl (by decide) (fun x => []) (fun x hp => ?_)
  obtain ⟨⟨a,b,c,d,v⟩,u⟩ := x
  change Int at a;change Int at b;change Int at c;change Int at d
  refine vc_of (True ∧ List.getD (a :: b :: c :: d :: nilT Int) 0 0 :: List.getD (a :: b :: c :: d :: nilT Int) (0 + 1) 0 :: List.getD (a :: b :: c :: d :: nilT Int) (0 + 1 + 1) 0 :: List.getD (a :: b :: c :: d :: nilT Int) (0 + 1 + 1 + 1) 0 :: nilT Int = a :: b :: c :: d :: nilT Int ∧ True) (by kernel_rfl) ?_
  exact ⟨trivial,rfl,trivial⟩
noncomputable def LB1 : Lib := LP.add 81 cParts parts_ctr
theorem check_ctr : CtrOk Tryz.prog 28 (cHI (fun _ _ _ _ => True) qcode) := by
  refine ctr_fn LB1 [] Tryz.func28 rfl (by decide) (fun x => [.rounds 5 [10] []]) (fun x hp => ?_)
  obtain ⟨⟨a,b,c,d,v⟩,u⟩ := x
  change Int at a;change Int at b;change Int at c;change Int at d
  refine vc_of (ifB (eqI a 0 && (eqI b 0 && (eqI c 0 && (eqI d 0 && true)))) (True ∧ 1 = qcode a b c d ∧ True) ((True ∧ True) ∧ (asT Int 0 ≤ 0 ∧ asT Int 0 < natI 4 ∧ True) ∧ (((decide (List.getD (a :: b :: c :: d :: nilT Int) 0 0 < -1048576) == false) = true → (decide (List.getD (a :: b :: c :: d :: nilT Int) 0 0 < -1048576) == false) = true ∧ True) ∧ (decide (List.getD (a :: b :: c :: d :: nilT Int) 0 0 < -1048576) = false → (decide (List.getD (a :: b :: c :: d :: nilT Int) 0 0 < -1048576) == false) = true) ∧ True) ∧ ifB (bif decide (List.getD (a :: b :: c :: d :: nilT Int) 0 0 < -1048576) then true else decide (List.getD (a :: b :: c :: d :: nilT Int) 0 0 > 1048576)) (True ∧ 3 = qcode a b c d ∧ True) ((asT Int 0 ≤ 1 ∧ asT Int 1 < natI 4 ∧ True) ∧ (((decide (List.getD (a :: b :: c :: d :: nilT Int) 1 0 < -1048576) == false) = true → (decide (List.getD (a :: b :: c :: d :: nilT Int) 1 0 < -1048576) == false) = true ∧ True) ∧ (decide (List.getD (a :: b :: c :: d :: nilT Int) 1 0 < -1048576) = false → (decide (List.getD (a :: b :: c :: d :: nilT Int) 1 0 < -1048576) == false) = true) ∧ True) ∧ ifB (bif decide (List.getD (a :: b :: c :: d :: nilT Int) 1 0 < -1048576) then true else decide (List.getD (a :: b :: c :: d :: nilT Int) 1 0 > 1048576)) (True ∧ 3 = qcode a b c d ∧ True) ((asT Int 0 ≤ 2 ∧ asT Int 2 < natI 4 ∧ True) ∧ (((decide (List.getD (a :: b :: c :: d :: nilT Int) 2 0 < -1048576) == false) = true → (decide (List.getD (a :: b :: c :: d :: nilT Int) 2 0 < -1048576) == false) = true ∧ True) ∧ (decide (List.getD (a :: b :: c :: d :: nilT Int) 2 0 < -1048576) = false → (decide (List.getD (a :: b :: c :: d :: nilT Int) 2 0 < -1048576) == false) = true) ∧ True) ∧ ifB (bif decide (List.getD (a :: b :: c :: d :: nilT Int) 2 0 < -1048576) then true else decide (List.getD (a :: b :: c :: d :: nilT Int) 2 0 > 1048576)) (True ∧ 3 = qcode a b c d ∧ True) ((asT Int 0 ≤ 3 ∧ asT Int 3 < natI 4 ∧ True) ∧ (((decide (List.getD (a :: b :: c :: d :: nilT Int) 3 0 < -1048576) == false) = true → (decide (List.getD (a :: b :: c :: d :: nilT Int) 3 0 < -1048576) == false) = true ∧ True) ∧ (decide (List.getD (a :: b :: c :: d :: nilT Int) 3 0 < -1048576) = false → (decide (List.getD (a :: b :: c :: d :: nilT Int) 3 0 < -1048576) == false) = true) ∧ True) ∧ ifB (bif decide (List.getD (a :: b :: c :: d :: nilT Int) 3 0 < -1048576) then true else decide (List.getD (a :: b :: c :: d :: nilT Int) 3 0 > 1048576)) (True ∧ 3 = qcode a b c d ∧ True) (True ∧ 0 = qcode a b c d ∧ True)))))) (by kernel_rfl) ?_
  have e : ∀ q : Int,(bif decide (q < -1048576) then true else decide (q > 1048576)) = !decide (okc q) := fun q => by
    rw [Bool.eq_iff_iff]
    by_cases h : okc q
    · have h' := h;unfold okc at h'
      rw [decide_eq_false (p := q < -1048576) (by omega),decide_eq_false (p := q > 1048576) (by omega),decide_eq_true h]
      exact Iff.rfl
    · have h' : q < -1048576 ∨ q > 1048576 := by unfold okc at h;omega
      rw [decide_eq_false h]
      rcases h' with h' | h'
      · rw [decide_eq_true h'];exact Iff.rfl
      · rw [decide_eq_true h'];cases decide (q < -1048576) <;> exact Iff.rfl
  dsimp only [natI,asT,nilT] at *
  simp only [e,List.getD_cons_zero,List.getD_cons_succ]
  simp only [eqI,ifB_iff,qcode,Bool.and_eq_true,Bool.not_eq_true',decide_eq_false_iff_not,Bool.not_eq_false',decide_eq_true_eq,beq_iff_eq,and_true,true_and]
  refine ⟨fun h => (if_pos h).symm,fun h => ?_⟩
  have hz : ¬ (a = 0 ∧ b = 0 ∧ c = 0 ∧ d = 0) := by
    rintro ⟨rfl,rfl,rfl,rfl⟩
    simp at h
  simp only [if_neg hz]
  exact ⟨⟨by omega,by omega⟩,⟨id,id⟩,fun k => (if_neg (fun e => k e.1)).symm,fun ka => ⟨⟨by omega,by omega⟩,⟨id,id⟩,fun k => (if_neg (fun e => k e.2.1)).symm,fun kb => ⟨⟨by omega,by omega⟩,⟨id,id⟩,fun k => (if_neg (fun e => k e.2.2.1)).symm,fun kc => ⟨⟨by omega,by omega⟩,⟨id,id⟩,fun k => (if_neg (fun e => k e.2.2.2)).symm,fun kd => (if_pos ⟨ka,kb,kc,kd⟩).symm⟩⟩⟩⟩
theorem norm_ctr : CtrOk Tryz.prog 65 (cHI (fun a b c d => okc a ∧ okc b ∧ okc c ∧ okc d) normI) := by
  refine ctr_fn LB1 [] Tryz.func65 rfl (by decide) (fun x => []) (fun x hp => ?_)
  obtain ⟨⟨a,b,c,d,v⟩,u⟩ := x
  change Int at a;change Int at b;change Int at c;change Int at d
  refine vc_of (True ∧ IntKind.wrap IntKind.i64 (IntKind.wrap IntKind.i64 (IntKind.wrap IntKind.i64 (IntKind.wrap IntKind.i64 (a * a) + IntKind.wrap IntKind.i64 (b * b)) + IntKind.wrap IntKind.i64 (c * c)) + IntKind.wrap IntKind.i64 (d * d)) = normI a b c d ∧ True) (by kernel_rfl) ?_
  obtain ⟨ha,hb,hc,hd⟩ := hp
  obtain ⟨p0,p1⟩ := okc_mul ha ha
  obtain ⟨p2,p3⟩ := okc_mul hb hb
  obtain ⟨p4,p5⟩ := okc_mul hc hc
  obtain ⟨p6,p7⟩ := okc_mul hd hd
  refine ⟨trivial,?_,trivial⟩
  dsimp only at p0 p1 p2 p3 p4 p5 p6 p7
  rw [wrap_id (n := a * a) (by omega) (by omega),wrap_id (n := b * b) (by omega) (by omega),wrap_id (n := c * c) (by omega) (by omega),wrap_id (n := d * d) (by omega) (by omega),wrap_id (n := a * a + b * b) (by omega) (by omega),wrap_id (n := a * a + b * b + c * c) (by omega) (by omega),wrap_id (by omega) (by omega)]
  rfl
theorem primT_congr {X Y : Nat → Int} (h : ∀ k,k < 4 → X k = Y k) : primT X = primT Y := by
  have hg : gseq X 4 = gseq Y 4 := by simp only [gseq,h 0 (by omega),h 1 (by omega),h 2 (by omega),h 3 (by omega)]
  have hf : fseq X 4 = fseq Y 4 := by simp only [fseq,h 0 (by omega),h 1 (by omega),h 2 (by omega),h 3 (by omega)]
  have hG : primG X = primG Y := by unfold primG;rw [hg,hf]
  have hn : ∀ k,k < 4 → primN X k = primN Y k := fun k hk => by unfold primN;rw [h k hk,hG]
  have ho : primOk X ↔ primOk Y := ⟨fun e k hk => hn k hk ▸ e k hk,fun e k hk => (hn k hk).symm ▸ e k hk⟩
  unfold primT
  by_cases e : primOk Y
  · rw [if_pos e,if_pos (ho.2 e),hn 0 (by omega),hn 1 (by omega),hn 2 (by omega),hn 3 (by omega)]
  · rw [if_neg e,if_neg (fun e' => e (ho.1 e'))]
def cRed : Ctr := ⟨[tI,tI,tI,tI],[tQuat,tI],fun x => (wordP x.1 ∧ wordP x.2.1 ∧ wordP x.2.2.1 ∧ wordP x.2.2.2.1) ∧ ¬ ((show Int from x.1) = 0 ∧ (show Int from x.2.1) = 0 ∧ (show Int from x.2.2.1) = 0 ∧ (show Int from x.2.2.2.1) = 0),fun x => primT (xs4 x.1 x.2.1 x.2.2.1 x.2.2.2.1)⟩
theorem reduced_ctr : CtrOk Tryz.prog 67 cRed := by
  refine ctr_fn LB1 [8] Tryz.func67 rfl (by decide) (fun x => []) (fun x hp => ?_)
  obtain ⟨a,b,c,d,u⟩ := x
  change Int at a;change Int at b;change Int at c;change Int at d
  refine vc_of ((wordP a ∧ wordP b ∧ wordP c ∧ wordP d ∧ (List.length (a :: b :: c :: d :: nilT Int) = 4 ∧ (∀ (j : Nat),j < 4 → isz (xsL (a :: b :: c :: d :: nilT Int) j) ≤ 400000000) ∧ ∃ (j : Nat),j < 4 ∧ xsL (a :: b :: c :: d :: nilT Int) j ≠ 0) ∧ True) ∧ True ∧ (Prod.fst (Prod.fst (primT (xsL (a :: b :: c :: d :: nilT Int)))),Prod.fst (Prod.snd (Prod.fst (primT (xsL (a :: b :: c :: d :: nilT Int))))),Prod.fst (Prod.snd (Prod.snd (Prod.fst (primT (xsL (a :: b :: c :: d :: nilT Int)))))),Prod.fst (Prod.snd (Prod.snd (Prod.snd (Prod.fst (primT (xsL (a :: b :: c :: d :: nilT Int))))))),()) = Prod.fst (primT (xs4 a b c d)) ∧ True ∧ Prod.fst (Prod.snd (primT (xsL (a :: b :: c :: d :: nilT Int)))) = Prod.fst (Prod.snd (primT (xs4 a b c d))) ∧ True) (by kernel_rfl) ?_
  obtain ⟨⟨ha,hb,hc,hd⟩,hn⟩ := hp
  dsimp only at ha hb hc hd hn
  dsimp only [natI,asT,nilT] at *
  have hx : ∀ k,k < 4 → xsL [a,b,c,d] k = xs4 a b c d k := fun k hk => by
    match k,hk with
    | 0,_ => rfl
    | 1,_ => rfl
    | 2,_ => rfl
    | 3,_ => rfl
  rw [primT_congr hx]
  refine ⟨⟨ha,hb,hc,hd,⟨rfl,fun j hj => ?_,?_⟩,trivial⟩,trivial,rfl,trivial,rfl,trivial⟩
  · rw [hx j hj]
    match j,hj with
    | 0,_ => exact isz_word ha.1 ha.2
    | 1,_ => exact isz_word hb.1 hb.2
    | 2,_ => exact isz_word hc.1 hc.2
    | 3,_ => exact isz_word hd.1 hd.2
  · by_cases h0 : a = 0
    · by_cases h1 : b = 0
      · by_cases h2 : c = 0
        · exact ⟨3,by omega,fun h3 => hn ⟨h0,h1,h2,h3⟩⟩
        · exact ⟨2,by omega,h2⟩
      · exact ⟨1,by omega,h1⟩
    · exact ⟨0,by omega,h0⟩
noncomputable def LB2 : Lib := (((LB1.add 28 (cHI (fun _ _ _ _ => True) qcode) check_ctr).add 65 (cHI (fun a b c d => okc a ∧ okc b ∧ okc c ∧ okc d) normI) norm_ctr).add 67 cRed reduced_ctr)
end Go.Proofs.YtidfgdchcpmnfaaGreat
namespace Go.Proofs.YtidfgdchcpmnfaaGreat
open Go Go.RowKit
set_option maxRecDepth 100000
set_option maxHeartbeats 1000000
set_option linter.unusedVariables false
set_option linter.unusedSimpArgs false
theorem okc_word {q : Int} (h : okc q) : wordP q := by
  unfold okc at h
  unfold wordP
  omega
theorem canon_ctr : CtrOk Tryz.prog 18 (cHQ (fun _ _ _ _ => True) canonT) := by
  refine ctr_fn LB2 [2] Tryz.func18 rfl (by decide) (fun x => []) (fun x hp => ?_)
  obtain ⟨⟨a,b,c,d,v⟩,u⟩ := x
  change Int at a;change Int at b;change Int at c;change Int at d
  refine vc_of ((True ∧ True) ∧ ifB (qcode a b c d != 0) (True ∧ (0,0,0,0,()) = Prod.fst (canonT a b c d) ∧ True ∧ qcode a b c d = Prod.fst (Prod.snd (canonT a b c d)) ∧ True) ((((wordP a ∧ wordP b ∧ wordP c ∧ wordP d) ∧ ¬(a = 0 ∧ b = 0 ∧ c = 0 ∧ d = 0)) ∧ True) ∧ True ∧ (Prod.fst (Prod.fst (primT (xs4 a b c d))),Prod.fst (Prod.snd (Prod.fst (primT (xs4 a b c d)))),Prod.fst (Prod.snd (Prod.snd (Prod.fst (primT (xs4 a b c d))))),Prod.fst (Prod.snd (Prod.snd (Prod.snd (Prod.fst (primT (xs4 a b c d)))))),()) = Prod.fst (canonT a b c d) ∧ True ∧ Prod.fst (Prod.snd (primT (xs4 a b c d))) = Prod.fst (Prod.snd (canonT a b c d)) ∧ True)) (by kernel_rfl) ?_
  refine ⟨⟨trivial,trivial⟩,ifB_iff.2 ⟨fun h => ?_,fun h => ?_⟩⟩
  · have h := bne_iff_ne.1 h
    have e : canonT a b c d = ((0,0,0,0,()),qcode a b c d,()) := if_neg h
    rw [e]
    exact ⟨trivial,rfl,trivial,rfl,trivial⟩
  · have h : qcode a b c d = 0 := by simpa using h
    obtain ⟨hn,oa,ob,oc,od⟩ := qcode_ok h
    have e : canonT a b c d = primT (xs4 a b c d) := if_pos h
    rw [e]
    exact ⟨⟨⟨⟨okc_word oa,okc_word ob,okc_word oc,okc_word od⟩,hn⟩,trivial⟩,trivial,rfl,trivial,rfl,trivial⟩
theorem conj_ctr : CtrOk Tryz.prog 33 (cHQ (fun _ _ _ _ => True) conjT) := by
  refine ctr_fn LB2 [2] Tryz.func33 rfl (by decide) (fun x => []) (fun x hp => ?_)
  obtain ⟨⟨a,b,c,d,v⟩,u⟩ := x
  change Int at a;change Int at b;change Int at c;change Int at d
  refine vc_of ((True ∧ True) ∧ ifB (qcode a b c d != 0) (True ∧ (0,0,0,0,()) = Prod.fst (conjT a b c d) ∧ True ∧ qcode a b c d = Prod.fst (Prod.snd (conjT a b c d)) ∧ True) ((((wordP a ∧ wordP (IntKind.wrap IntKind.i64 (0 - b)) ∧ wordP (IntKind.wrap IntKind.i64 (0 - c)) ∧ wordP (IntKind.wrap IntKind.i64 (0 - d))) ∧ ¬(a = 0 ∧ IntKind.wrap IntKind.i64 (0 - b) = 0 ∧ IntKind.wrap IntKind.i64 (0 - c) = 0 ∧ IntKind.wrap IntKind.i64 (0 - d) = 0)) ∧ True) ∧ True ∧ (Prod.fst (Prod.fst (primT (xs4 a (IntKind.wrap IntKind.i64 (0 - b)) (IntKind.wrap IntKind.i64 (0 - c)) (IntKind.wrap IntKind.i64 (0 - d))))),Prod.fst (Prod.snd (Prod.fst (primT (xs4 a (IntKind.wrap IntKind.i64 (0 - b)) (IntKind.wrap IntKind.i64 (0 - c)) (IntKind.wrap IntKind.i64 (0 - d)))))),Prod.fst (Prod.snd (Prod.snd (Prod.fst (primT (xs4 a (IntKind.wrap IntKind.i64 (0 - b)) (IntKind.wrap IntKind.i64 (0 - c)) (IntKind.wrap IntKind.i64 (0 - d))))))),Prod.fst (Prod.snd (Prod.snd (Prod.snd (Prod.fst (primT (xs4 a (IntKind.wrap IntKind.i64 (0 - b)) (IntKind.wrap IntKind.i64 (0 - c)) (IntKind.wrap IntKind.i64 (0 - d)))))))),()) = Prod.fst (conjT a b c d) ∧ True ∧ Prod.fst (Prod.snd (primT (xs4 a (IntKind.wrap IntKind.i64 (0 - b)) (IntKind.wrap IntKind.i64 (0 - c)) (IntKind.wrap IntKind.i64 (0 - d))))) = Prod.fst (Prod.snd (conjT a b c d)) ∧ True)) (by kernel_rfl) ?_
  refine ⟨⟨trivial,trivial⟩,ifB_iff.2 ⟨fun h => ?_,fun h => ?_⟩⟩
  · have h := bne_iff_ne.1 h
    have e : conjT a b c d = ((0,0,0,0,()),qcode a b c d,()) := if_neg h
    rw [e]
    exact ⟨trivial,rfl,trivial,rfl,trivial⟩
  · have h : qcode a b c d = 0 := by simpa using h
    obtain ⟨hn,oa,ob,oc,od⟩ := qcode_ok h
    have eb : IntKind.wrap IntKind.i64 (0 - b) = -b := by unfold okc at ob;rw [wrap_id (by omega) (by omega)];omega
    have nb : okc (-b) := by unfold okc at *;omega
    have ec : IntKind.wrap IntKind.i64 (0 - c) = -c := by unfold okc at oc;rw [wrap_id (by omega) (by omega)];omega
    have nc : okc (-c) := by unfold okc at *;omega
    have ed : IntKind.wrap IntKind.i64 (0 - d) = -d := by unfold okc at od;rw [wrap_id (by omega) (by omega)];omega
    have nd : okc (-d) := by unfold okc at *;omega
    rw [eb,ec,ed]
    have e : conjT a b c d = primT (xs4 a (-b) (-c) (-d)) := if_pos h
    rw [e]
    exact ⟨⟨⟨⟨okc_word oa,okc_word nb,okc_word nc,okc_word nd⟩,fun h => hn ⟨h.1,by omega,by omega,by omega⟩⟩,trivial⟩,trivial,rfl,trivial,rfl,trivial⟩
abbrev Q4 : Type := Int × Int × Int × Int × Unit
def qc (q : Q4) : Int := qcode q.1 q.2.1 q.2.2.1 q.2.2.2.1
def firstC (l : List Q4) : Int := match l with
  | [] => 0
  | q :: l => if qc q = 0 then firstC l else qc q
def cChk : Ctr := ⟨[.list tQuat],[tI],fun x => (show List Q4 from x.1).length ≤ 1000000000,fun x => (firstC x.1,())⟩
abbrev Chι (l : List Q4) : Type := {i : Nat // i ≤ l.length ∧ firstC l = firstC (l.drop i)}
theorem checked_ctr : CtrOk Tryz.prog 68 cChk := by
  refine ctr_fn LB2 [4] Tryz.func68 rfl (by decide) (fun x => [.inv (Chι x.1) (fun i => [(8,.val tI (i.1 : Int))]) (fun i => []) (fun i => (show List Q4 from x.1).length - i.1) ⟨0,Nat.zero_le _,rfl⟩ (fun _ => [])]) (fun x hp => ?_)
  obtain ⟨x,u⟩ := x
  change List Q4 at x
  refine vc_of ((asT Int 0 = natI 0 ∧ True) ∧ ∀ (i : Chι x),asT Bool true = true ∧ ifB (decide (natI (sval i) < natI (List.length x))) ((0 ≤ natI (sval i) ∧ natI (sval i) < natI (List.length x) ∧ True) ∧ (True ∧ True) ∧ ifB (qcode (Prod.fst (List.getD x (Int.toNat (natI (sval i))) (0,0,0,0,PUnit.unit))) (Prod.fst (Prod.snd (List.getD x (Int.toNat (natI (sval i))) (0,0,0,0,PUnit.unit)))) (Prod.fst (Prod.snd (Prod.snd (List.getD x (Int.toNat (natI (sval i))) (0,0,0,0,PUnit.unit))))) (Prod.fst (Prod.snd (Prod.snd (Prod.snd (List.getD x (Int.toNat (natI (sval i))) (0,0,0,0,PUnit.unit)))))) != 0) (True ∧ qcode (Prod.fst (List.getD x (Int.toNat (natI (sval i))) (0,0,0,0,PUnit.unit))) (Prod.fst (Prod.snd (List.getD x (Int.toNat (natI (sval i))) (0,0,0,0,PUnit.unit)))) (Prod.fst (Prod.snd (Prod.snd (List.getD x (Int.toNat (natI (sval i))) (0,0,0,0,PUnit.unit))))) (Prod.fst (Prod.snd (Prod.snd (Prod.snd (List.getD x (Int.toNat (natI (sval i))) (0,0,0,0,PUnit.unit)))))) = firstC x ∧ True) (∃ (i' : Chι x),List.length x - sval i' < List.length x - sval i ∧ IntKind.wrap IntKind.i64 (natI (sval i) + 1) = natI (sval i') ∧ True)) (True ∧ 0 = firstC x ∧ True)) (by kernel_rfl) ?_
  dsimp only [natI,sval,asT] at *
  have step : ∀ i : Nat,i < x.length → firstC (x.drop i) = if qc (x.getD i (0,0,0,0,())) = 0 then firstC (x.drop (i + 1)) else qc (x.getD i (0,0,0,0,())) := fun i hi => by
    rw [List.drop_eq_getElem_cons hi,List.getD_eq_getElem?_getD,List.getElem?_eq_getElem hi]
    rfl
  refine ⟨⟨rfl,trivial⟩,fun i => ⟨rfl,ifB_iff.2 ⟨fun h1 => ?_,fun h1 => ⟨trivial,?_,trivial⟩⟩⟩⟩
  all_goals
    obtain ⟨i,h2,h3⟩ := i
    dsimp only at h1 ⊢
    simp only [decide_eq_true_eq,decide_eq_false_iff_not,Int.ofNat_lt] at h1
  · have st := step i h1
    rw [Int.toNat_natCast]
    refine ⟨⟨by omega,by omega,trivial⟩,⟨trivial,trivial⟩,ifB_iff.2 ⟨fun h4 => ⟨trivial,?_,trivial⟩,fun h4 => ⟨⟨i + 1,h1,?_⟩,by simp only;omega,?_,trivial⟩⟩⟩
    · have h4 := bne_iff_ne.1 h4
      rw [h3,st]
      exact (if_neg h4).symm
    · have h4 := bne_eq_false_iff_eq.1 h4
      rw [h3,st]
      exact if_pos h4
    · rw [wrap_id (by omega) (by have := hp;dsimp only [cChk] at this;omega)];rfl
  · rw [h3,List.drop_eq_nil_of_le (by omega)];rfl
noncomputable def LC1 : Lib := ((LB2.add 18 (cHQ (fun _ _ _ _ => True) canonT) canon_ctr).add 33 (cHQ (fun _ _ _ _ => True) conjT) conj_ctr).add 68 cChk checked_ctr
theorem first2 (a b c d e f g h : Int) (v z : Unit) : firstC [(a,b,c,d,v),(e,f,g,h,z)] = qcode2 a b c d e f g h := by
  show (if qcode a b c d = 0 then (if qcode e f g h = 0 then 0 else qcode e f g h) else qcode a b c d) = if qcode a b c d = 0 then qcode e f g h else qcode a b c d
  by_cases h1 : qcode a b c d = 0
  · rw [if_pos h1,if_pos h1]
    by_cases h2 : qcode e f g h = 0
    · rw [if_pos h2,h2]
    · rw [if_neg h2]
  · rw [if_neg h1,if_neg h1]
theorem qmul_ctr : CtrOk Tryz.prog 26 (cHHQ mulT) := by
  refine ctr_fn LC1 [4] Tryz.func26 rfl (by decide) (fun x => []) (fun x hp => ?_)
  obtain ⟨⟨a,b,c,d,v⟩,⟨e,f,g,h,z⟩,u⟩ := x
  change Int at a;change Int at b;change Int at c;change Int at d;change Int at e;change Int at f;change Int at g;change Int at h
  change Unit at v;change Unit at z
  refine vc_of (let x0z := (IntKind.wrap IntKind.i64 (IntKind.wrap IntKind.i64 (IntKind.wrap IntKind.i64 (a * e) - IntKind.wrap IntKind.i64 (b * f)) - IntKind.wrap IntKind.i64 (c * g)) - IntKind.wrap IntKind.i64 (d * h));let x1z := (IntKind.wrap IntKind.i64 (IntKind.wrap IntKind.i64 (IntKind.wrap IntKind.i64 (a * f) + IntKind.wrap IntKind.i64 (b * e)) + IntKind.wrap IntKind.i64 (c * h)) - IntKind.wrap IntKind.i64 (d * g));let x2z := (primT (xs4 (IntKind.wrap IntKind.i64 x0z) (IntKind.wrap IntKind.i64 x1z) (IntKind.wrap IntKind.i64 (IntKind.wrap IntKind.i64 (IntKind.wrap IntKind.i64 (IntKind.wrap IntKind.i64 (a * g) - IntKind.wrap IntKind.i64 (b * h)) + IntKind.wrap IntKind.i64 (c * e)) + IntKind.wrap IntKind.i64 (d * f))) (IntKind.wrap IntKind.i64 (IntKind.wrap IntKind.i64 (IntKind.wrap IntKind.i64 (IntKind.wrap IntKind.i64 (a * h) + IntKind.wrap IntKind.i64 (b * g)) - IntKind.wrap IntKind.i64 (c * f)) + IntKind.wrap IntKind.i64 (d * e)))));(List.length ((a,b,c,d,v) :: (e,f,g,h,z) :: nilT (Int × Int × Int × Int × PUnit)) ≤ 1000000000 ∧ True) ∧ ifB (firstC ((a,b,c,d,v) :: (e,f,g,h,z) :: nilT (Int × Int × Int × Int × PUnit)) != 0) (True ∧ (0,0,0,0,()) = Prod.fst (mulT a b c d e f g h) ∧ True ∧ firstC ((a,b,c,d,v) :: (e,f,g,h,z) :: nilT (Int × Int × Int × Int × PUnit)) = Prod.fst (Prod.snd (mulT a b c d e f g h)) ∧ True) ((((wordP (IntKind.wrap IntKind.i64 x0z) ∧ wordP (IntKind.wrap IntKind.i64 x1z) ∧ wordP (IntKind.wrap IntKind.i64 (IntKind.wrap IntKind.i64 (IntKind.wrap IntKind.i64 (IntKind.wrap IntKind.i64 (a * g) - IntKind.wrap IntKind.i64 (b * h)) + IntKind.wrap IntKind.i64 (c * e)) + IntKind.wrap IntKind.i64 (d * f))) ∧ wordP (IntKind.wrap IntKind.i64 (IntKind.wrap IntKind.i64 (IntKind.wrap IntKind.i64 (IntKind.wrap IntKind.i64 (a * h) + IntKind.wrap IntKind.i64 (b * g)) - IntKind.wrap IntKind.i64 (c * f)) + IntKind.wrap IntKind.i64 (d * e)))) ∧ ¬(IntKind.wrap IntKind.i64 x0z = 0 ∧ IntKind.wrap IntKind.i64 x1z = 0 ∧ IntKind.wrap IntKind.i64 (IntKind.wrap IntKind.i64 (IntKind.wrap IntKind.i64 (IntKind.wrap IntKind.i64 (a * g) - IntKind.wrap IntKind.i64 (b * h)) + IntKind.wrap IntKind.i64 (c * e)) + IntKind.wrap IntKind.i64 (d * f)) = 0 ∧ IntKind.wrap IntKind.i64 (IntKind.wrap IntKind.i64 (IntKind.wrap IntKind.i64 (IntKind.wrap IntKind.i64 (a * h) + IntKind.wrap IntKind.i64 (b * g)) - IntKind.wrap IntKind.i64 (c * f)) + IntKind.wrap IntKind.i64 (d * e)) = 0)) ∧ True) ∧ True ∧ (Prod.fst (Prod.fst x2z),Prod.fst (Prod.snd (Prod.fst x2z)),Prod.fst (Prod.snd (Prod.snd (Prod.fst x2z))),Prod.fst (Prod.snd (Prod.snd (Prod.snd (Prod.fst x2z)))),()) = Prod.fst (mulT a b c d e f g h) ∧ True ∧ Prod.fst (Prod.snd x2z) = Prod.fst (Prod.snd (mulT a b c d e f g h)) ∧ True)) (by kernel_rfl) ?_
  dsimp only [nilT] at *
  have hf := first2 a b c d e f g h v z
  rw [hf]
  refine ⟨⟨by show 2 ≤ 1000000000;omega,trivial⟩,ifB_iff.2 ⟨fun k => ?_,fun k => ?_⟩⟩
  · have k := bne_iff_ne.1 k
    have ee : mulT a b c d e f g h = ((0,0,0,0,()),qcode2 a b c d e f g h,()) := if_neg k
    rw [ee]
    exact ⟨trivial,rfl,trivial,rfl,trivial⟩
  · have k : qcode2 a b c d e f g h = 0 := by simpa using k
    have k1 : qcode a b c d = 0 := by
      by_cases h1 : qcode a b c d = 0
      · exact h1
      · rw [qcode2,if_neg h1] at k;exact k
    have k2 : qcode e f g h = 0 := by rwa [qcode2,if_pos k1] at k
    obtain ⟨hn,oa,ob,oc,od⟩ := qcode_ok k1
    obtain ⟨hm,oe,of,og,oh⟩ := qcode_ok k2
    obtain ⟨pae0,pae1⟩ := okc_mul oa oe
    obtain ⟨paf0,paf1⟩ := okc_mul oa of
    obtain ⟨pag0,pag1⟩ := okc_mul oa og
    obtain ⟨pah0,pah1⟩ := okc_mul oa oh
    obtain ⟨pbe0,pbe1⟩ := okc_mul ob oe
    obtain ⟨pbf0,pbf1⟩ := okc_mul ob of
    obtain ⟨pbg0,pbg1⟩ := okc_mul ob og
    obtain ⟨pbh0,pbh1⟩ := okc_mul ob oh
    obtain ⟨pce0,pce1⟩ := okc_mul oc oe
    obtain ⟨pcf0,pcf1⟩ := okc_mul oc of
    obtain ⟨pcg0,pcg1⟩ := okc_mul oc og
    obtain ⟨pch0,pch1⟩ := okc_mul oc oh
    obtain ⟨pde0,pde1⟩ := okc_mul od oe
    obtain ⟨pdf0,pdf1⟩ := okc_mul od of
    obtain ⟨pdg0,pdg1⟩ := okc_mul od og
    obtain ⟨pdh0,pdh1⟩ := okc_mul od oh
    have ee : mulT a b c d e f g h = primT (qmulX a b c d e f g h) := if_pos k
    rw [ee]
    simp (disch := omega) only [wrap_id]
    refine ⟨⟨⟨⟨⟨by omega,by omega⟩,⟨by omega,by omega⟩,⟨by omega,by omega⟩,⟨by omega,by omega⟩⟩,qmul_ne hn hm⟩,trivial⟩,trivial,rfl,trivial,rfl,trivial⟩
noncomputable def LC2 : Lib := LC1.add 26 (cHHQ mulT) qmul_ctr
end Go.Proofs.YtidfgdchcpmnfaaGreat
